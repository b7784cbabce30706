/- Part. -/
import Derived.Test.YtdahjfmmndjcpaaGreatQ06
set_option linter.unusedSimpArgs false
set_option linter.unusedVariables false
set_option maxHeartbeats 40000000
set_option maxRecDepth 100000
namespace Go.Proofs.YtdahjfmmndjcpaaGreat
open Go Go.RowKit Hr Go.Proofs.Tryz
structure aN where
 x:bz
 p:j9
instance:Inhabited aN:=⟨⟨bz.zero,⟨none,0,none,0,none,0⟩⟩⟩
def aN.enc(e:aN):List Value:=KS e.x e.p
def aN.rd(w:World)(e:aN):Prop:=iP w e.x e.p
def aN.ae(e:aN):List ak:= [.ae 172 5 e.p.HA e.x.hs.length e.p.hc (e.x.hs.map Hd.enc),.ae 278 5 e.p.GA e.x.gs.length e.p.gc (e.x.gs.map Gr.enc),.ae 276 2 e.p.LA e.x.ls.length e.p.lc (e.x.ls.map ef.enc)]
structure aW where
 es:List aN
 ts:List Tu.bb
 EA:Option Addr
 ec:Nat
 TA:Option Addr
 tc:Nat
instance:Inhabited aW:=⟨⟨[], [],none,0,none,0⟩⟩
def aW.enc(v:aW):List Value:= [.slice v.EA v.es.length v.ec,.slice v.TA v.ts.length v.tc]
def aW.ae(v:aW):List ak:= .ae 128 13 v.EA v.es.length v.ec (v.es.map aN.enc):: .ae 229 4 v.TA v.ts.length v.tc (v.ts.map Tu.bb.enc)::v.es.flatMap aN.ae
structure aW.rd(w:World)(v:aW):Prop where
 e:Rd w v.EA 13 (v.es.map aN.enc)
 t:Rd w v.TA 4 (v.ts.map Tu.bb.enc)
 r:∀x∈v.es,x.rd w
structure nH where
 cD:Int
 wL:Int
instance:Inhabited nH:=⟨⟨0,0⟩⟩
def nH.enc(c:nH):List Value:= [.int .i64 c.cD,.int .i64 c.wL]
structure bu where
 cl:List nH
 vs:List aW
 CA:Option Addr
 cc:Nat
 VA:Option Addr
 vc:Nat
instance:Inhabited bu:=⟨⟨[], [],none,0,none,0⟩⟩
def bu.enc(c:bu):List Value:= [.slice c.CA c.cl.length c.cc,.slice c.VA c.vs.length c.vc]
def bu.ae(c:bu):List ak:= .ae 258 2 c.CA c.cl.length c.cc (c.cl.map nH.enc):: .ae 121 2 c.VA c.vs.length c.vc (c.vs.map aW.enc)::c.vs.flatMap aW.ae
structure bu.rd(w:World)(y:bu):Prop where
 c:Rd w y.CA 2 (y.cl.map nH.enc)
 v:Rd w y.VA 2 (y.vs.map aW.enc)
 r:∀x∈y.vs,x.rd w
structure nJ where
 cD:Int
 ye:Int
 af9:Bool
instance:Inhabited nJ:=⟨⟨0,0,false⟩⟩
def nJ.enc(t:nJ):List Value:= [.int .i64 t.cD,.int .i64 t.ye,.bool t.af9]
structure ji where
 nK:Int
 pe:Int
 g0:Int
 g1:Int
 g2:Int
 g3:Int
 g4:Int
 g5:Int
instance:Inhabited ji:=⟨⟨0,0,0,0,0,0,0,0⟩⟩
def ji.enc(t:ji):List Value:= [.int .i64 t.nK,.int .i64 t.pe,.int .i64 t.g0,.int .i64 t.g1,.int .i64 t.g2,.int .i64 t.g3,.int .i64 t.g4,.int .i64 t.g5]
def ji.val(t:ji):Value:= .agg t.enc.toArray
structure Er where
 bg:Int
 aH:Int
 met:ji
 len:Int
 ow:Int
 start:Bool
 fv:Int
 BU:Int
 Es:Int
 Et:Int
 yf:Int
 Eu:Int
 Ad:ByteArray
instance:Inhabited Er:=⟨⟨0,0,default,0,0,false,0,0,0,0,0,0,ByteArray.mk #[]⟩⟩
structure aD where
 n:Er
 tm:List nJ
 cs:List bu
 TA:Option Addr
 tc:Nat
 CA:Option Addr
 cc:Nat
instance:Inhabited aD:=⟨⟨default, [], [],none,0,none,0⟩⟩
def Er.enc(n:Er):List Value:= [.int .i64 n.bg,.int .i64 n.aH,.int .i64 n.met.nK,.int .i64 n.met.pe,.int .i64 n.met.g0,.int .i64 n.met.g1,.int .i64 n.met.g2,.int .i64 n.met.g3,.int .i64 n.met.g4,.int .i64 n.met.g5,.int .i64 n.len,.int .i64 n.ow,.bool n.start,.int .i64 n.fv,.int .i64 n.BU,.int .i64 n.Es,.int .i64 n.Et,.int .i64 n.yf,.int .i64 n.Eu,.string n.Ad]
def aD.enc(m:aD):List Value:= [.int .i64 m.n.bg,.int .i64 m.n.aH,.int .i64 m.n.met.nK,.int .i64 m.n.met.pe,.int .i64 m.n.met.g0,.int .i64 m.n.met.g1,.int .i64 m.n.met.g2,.int .i64 m.n.met.g3,.int .i64 m.n.met.g4,.int .i64 m.n.met.g5,.int .i64 m.n.len,.int .i64 m.n.ow,.bool m.n.start,.int .i64 m.n.fv,.int .i64 m.n.BU,.int .i64 m.n.Es,.int .i64 m.n.Et,.int .i64 m.n.yf,.int .i64 m.n.Eu,.string m.n.Ad,.slice m.TA m.tm.length m.tc,.slice m.CA m.cs.length m.cc]
def aD.val(m:aD):Value:= .agg m.enc.toArray
def aD.ae(m:aD):List ak:= .ae 166 3 m.TA m.tm.length m.tc (m.tm.map nJ.enc):: .ae 133 2 m.CA m.cs.length m.cc (m.cs.map bu.enc)::m.cs.flatMap bu.ae
structure aD.rd(w:World)(y:aD):Prop where
 t:Rd w y.TA 3 (y.tm.map nJ.enc)
 c:Rd w y.CA 2 (y.cs.map bu.enc)
 r:∀x∈y.cs,x.rd w
structure ig where
 bg:Int
 aH:Int
 wL:Int
instance:Inhabited ig:=⟨⟨0,0,0⟩⟩
def ig.enc(s:ig):List Value:= [.int .i64 s.bg,.int .i64 s.aH,.int .i64 s.wL]
structure bw where
 bg:Int
 aH:Int
 name:ByteArray
 cp:Int
 bF:Int
 st:List ig
 SA:Option Addr
 sc:Nat
instance:Inhabited bw:=⟨⟨0,0,ByteArray.mk #[],0,0, [],none,0⟩⟩
def bw.enc(p:bw):List Value:= [.int .i64 p.bg,.int .i64 p.aH,.string p.name,.int .i64 p.cp,.int .i64 p.bF,.slice p.SA p.st.length p.sc]
def bw.ae(p:bw):List ak:= [.ae 69 3 p.SA p.st.length p.sc (p.st.map ig.enc)]
def bw.rd(w:World)(p:bw):Prop:=Rd w p.SA 3 (p.st.map ig.enc)
structure ba where
 bg:Int
 aH:Int
deriving DecidableEq
instance:Inhabited ba:=⟨⟨0,0⟩⟩
def ba.enc(i:ba):List Value:= [.int .i64 i.bg,.int .i64 i.aH]
def ba.val(i:ba):Value:= .agg i.enc.toArray
structure dS where
 id:ba
 bh:Int
 u7:ba
 kz:ba
instance:Inhabited dS:=⟨⟨default,0,default,default⟩⟩
def dS.enc(s:dS):List Value:= [.int .i64 s.id.bg,.int .i64 s.id.aH,.int .i64 s.bh,.int .i64 s.u7.bg,.int .i64 s.u7.aH,.int .i64 s.kz.bg,.int .i64 s.kz.aH]
structure aw where
 cT:ByteArray
 eQ:Bool
 ps:List bw
 ms:List aD
 sp:List dS
 bk:List ba
 PA:Option Addr
 pc:Nat
 MA:Option Addr
 mc:Nat
 SA:Option Addr
 sc:Nat
 LA:Option Addr
 lc:Nat
def aw.enc(s:aw):List Value:= [.string s.cT,.bool s.eQ,.slice s.PA s.ps.length s.pc,.slice s.MA s.ms.length s.mc,.slice s.SA s.sp.length s.sc,.slice s.LA s.bk.length s.lc]
def aw.val(s:aw):Value:= .agg s.enc.toArray
structure aw.rd(w:World)(y:aw):Prop where
 p:Rd w y.PA 6 (y.ps.map bw.enc)
 pr:∀x∈y.ps,x.rd w
 m:Rd w y.MA 22 (y.ms.map aD.enc)
 mr:∀x∈y.ms,x.rd w
 s:Rd w y.SA 7 (y.sp.map dS.enc)
 l:Rd w y.LA 2 (y.bk.map ba.enc)
section
variable{w w':World}
theorem aN.rd.az{e:aN}(h:e.rd w)(hk:aU nX w w'):e.rd w':=iP.az h hk
theorem aW.rd.az{v:aW}(h:v.rd w)(hk:aU nX w w'):v.rd w':=⟨h.e.az hk,h.t.az hk,fun x hx=>(h.r x hx).az hk⟩
theorem bu.rd.az{c:bu}(h:c.rd w)(hk:aU nX w w'):c.rd w':=⟨h.c.az hk,h.v.az hk,fun x hx=>(h.r x hx).az hk⟩
theorem aD.rd.az{m:aD}(h:m.rd w)(hk:aU nX w w'):m.rd w':=⟨h.t.az hk,h.c.az hk,fun x hx=>(h.r x hx).az hk⟩
theorem bw.rd.az{p:bw}(h:p.rd w)(hk:aU nX w w'):p.rd w':=Rd.az h hk
theorem aw.rd.az{s:aw}(h:s.rd w)(hk:aU nX w w'):s.rd w':=
 ⟨h.p.az hk,fun x hx=>(h.pr x hx).az hk,h.m.az hk,fun x hx=>(h.mr x hx).az hk,h.s.az hk,h.l.az hk⟩
end
def gD(w:World)(rs:List ak):Prop:=∀r∈rs,r.holds w
theorem gD.dY{w:World}{a b:List ak}(h:gD w (a++b)):gD w a∧gD w b:=⟨fun r hr=>h r (by simp [hr]),fun r hr=>h r (by simp [hr])⟩
theorem gD.qJ{w:World}{α:Type}{l:List α}{f:α→List ak}(h:gD w (l.flatMap f)):∀x∈l,gD w (f x):=fun x hx r hr=>h r (ja.2 ⟨x,hx,hr⟩)
theorem aN.bL{w:World}{e:aN}(h:gD w e.ae):e.rd w:=⟨Hr.bL (h _ (dH ..)),Hr.bL (h _ (eT _ (dH ..))),Hr.bL (h _ (eT _ (eT _ (dH ..))))⟩
theorem gD.OX{w:World}{a b:ak}{l:List ak}(h:gD w (a::b::l)):gD w l:=fun r hr=>h r (eT _ (eT _ hr))
theorem aW.bL{w:World}{v:aW}(h:gD w v.ae):v.rd w:=
 ⟨Hr.bL (h _ (dH ..)),Hr.bL (h _ (eT _ (dH ..))),fun x hx=>aN.bL (gD.qJ h.OX x hx)⟩
theorem bu.bL{w:World}{c:bu}(h:gD w c.ae):c.rd w:=
 ⟨Hr.bL (h _ (dH ..)),Hr.bL (h _ (eT _ (dH ..))),fun x hx=>aW.bL (gD.qJ h.OX x hx)⟩
theorem aD.bL{w:World}{m:aD}(h:gD w m.ae):m.rd w:=
 ⟨Hr.bL (h _ (dH ..)),Hr.bL (h _ (eT _ (dH ..))),fun x hx=>bu.bL (gD.qJ h.OX x hx)⟩
theorem bw.bL{w:World}{p:bw}(h:gD w p.ae):p.rd w:=Hr.bL (h _ (dH ..))
theorem d_{w:World}{rs:List ak}(h:(ak.aT rs).holds w):gD w rs:=h.1
namespace Hr
theorem ar.lq{a b l:List ak}:ar (.aT a:: .aT b::l) (.aT (a++b)::l):=by
 refine .trans .tJ (.trans ?_ (.trans (.close_ (rs:=a++b)) .refl))
 intro X W w h
 have h1:=(ar.trans (ar.aR (m':= .aT b::(a++l)) wk) (ar.trans .tJ (ar.aR (m':=(a++b)++l) (by
  rw [←bP];exact List.perm_append_comm.append_right l)))) X W w h
 exact h1
theorem ar.Ev{a b l:List ak}(h:a.Perm b):ar (.aT a::l) (.aT b::l):= .trans .tJ (.trans (.aR (h.append_right l)) .close_)
theorem ar.focus{r:ak}{rs a l:List ak}(h:rs.Perm (r::a)):ar (.aT rs::l) (r:: .aT a::l):=by
 refine .trans (.Ev h) (.trans .tJ ?_)
 show ar (r::(a++l)) _
 exact .cons .ao .refl .close_
theorem ar.KX{r:ak}{rs a l:List ak}(h:rs.Perm (r::a)):ar (r:: .aT a::l) (.aT rs::l):= .trans .fM (.Ev h.symm)
end Hr
theorem G7{α:Type} [Inhabited α]{f:α→List ak}:∀{l:List α} {i:Nat},i<l.length→∃a,(l.flatMap f).Perm (f (aa l i)++a)∧∀y,((l.set i y).flatMap f).Perm (f y++a)
 |x::l,0,_=>⟨l.flatMap f,.refl _,fun y=> .refl _⟩
 |x::l,i+1,h=>by
  obtain⟨a,h1,h2⟩:=G7 (l:=l) (i:=i) (by simpa using h)
  refine⟨f x++a,?_,fun y=>?_⟩
  ·show(f x++l.flatMap f).Perm _
   have e:aa (x::l) (i+1)=aa l i:=by simp [aa]
   rw [e,←bP]
   exact(h1.append_left _).trans (by rw [←bP];exact List.perm_append_comm.append_right _)
  ·show(f x++(l.set i y).flatMap f).Perm _
   rw [←bP]
   exact((h2 y).append_left _).trans (by rw [←bP];exact List.perm_append_comm.append_right _)
structure jT where
 cp:Int
 bF:Int
deriving DecidableEq
instance:Inhabited jT:=⟨⟨0,0⟩⟩
def jT.enc(i:jT):List Value:= [.int .i64 i.cp,.int .i64 i.bF]
def jT.val(i:jT):Value:= .agg i.enc.toArray
def gN:List jT:= [⟨0,0⟩,⟨0,0⟩,⟨1,2⟩,⟨5,9⟩,⟨4,7⟩,⟨-7,-12⟩]
theorem af_{q:Nat}(h:q<6):([[.int .i64 0,.int .i64 0], [.int .i64 0,.int .i64 0], [.int .i64 1,.int .i64 2], [.int .i64 5,.int .i64 9], [.int .i64 4,.int .i64 7], [.int .i64 (-7),.int .i64 (-12)]]:List (List Value))[q]?=some (aa gN q).enc:=by
 have:q=0∨q=1∨q=2∨q=3∨q=4∨q=5:=oM
 rcases this with rfl|rfl|rfl|rfl|rfl|rfl<;>rfl
def qK:List ji:= [⟨4,4,0,0,0,0,0,0⟩,⟨3,4,0,0,0,0,0,0⟩,⟨6,8,0,0,0,0,0,0⟩,⟨2,2,0,0,0,0,0,0⟩,⟨5,8,3,2,0,0,0,0⟩]
theorem aga{q:Nat}(h:q<5):([[.int .i64 4,.int .i64 4,.int .i64 0,.int .i64 0,.int .i64 0,.int .i64 0,.int .i64 0,.int .i64 0], [.int .i64 3,.int .i64 4,.int .i64 0,.int .i64 0,.int .i64 0,.int .i64 0,.int .i64 0,.int .i64 0],
  [.int .i64 6,.int .i64 8,.int .i64 0,.int .i64 0,.int .i64 0,.int .i64 0,.int .i64 0,.int .i64 0], [.int .i64 2,.int .i64 2,.int .i64 0,.int .i64 0,.int .i64 0,.int .i64 0,.int .i64 0,.int .i64 0],
  [.int .i64 5,.int .i64 8,.int .i64 3,.int .i64 2,.int .i64 0,.int .i64 0,.int .i64 0,.int .i64 0]]:List (List Value))[q]?=some (aa qK q).enc:=by
 have:q=0∨q=1∨q=2∨q=3∨q=4:=oM
 rcases this with rfl|rfl|rfl|rfl|rfl<;>rfl
def ji.gs(m:ji):List Int:= [m.g0,m.g1,m.g2,m.g3,m.g4,m.g5]
def tR(l:List Int):Nat→Int
 |0=>0
 |k+1=>if 0<aa l k then tR l k+aa l k else tR l k
def wM(l:List Int):Nat→Nat
 |0=>0
 |k+1=>if 0<aa l k then wM l k+1 else wM l k
def qL(l:List Int)(k:Nat):Prop:=aa l k<0∨64<aa l k∨(0<aa l k∧k≠wM l k)
instance(l:List Int)(k:Nat):Decidable (qL l k):=by unfold qL;infer_instance
theorem VM(l:List Int):∀k,wM l k≤k
 |0=>cm _
 |k+1=>by have:=VM l k;rw [wM];split<;>omega
theorem VN{l:List Int}:∀k,(∀j,j<k→¬qL l j)→0≤tR l k∧tR l k≤64*k
 |0,_=>by rw [tR];omega
 |k+1,h=>by
  have h1:=VN k (fun j hj=>h j  oM)
  have h2:=h k  oM
  unfold qL at h2
  rw [tR];split<;>omega
def u9(m:ji):Prop:=m.g0=0∧m.g1=0∧m.g2=0∧m.g3=0∧m.g4=0∧m.g5=0
instance(m:ji):Decidable (u9 m):=by unfold u9;infer_instance
def Ew(m:ji):Prop:=u9 m∨((∀k,k<6→¬qL m.gs k)∧tR m.gs 6=m.nK∧2≤wM m.gs 6)
instance(m:ji):Decidable (Ew m):=by unfold Ew;infer_instance
def wN(m:ji):Int:=if m.nK<1∨64<m.nK then 2 else if m.pe<1∨64<m.pe∨KO .i64 m.pe (m.pe-1)≠0 then 17 else if¬Ew m then 19 else 0
def Wm(m:ji):Prop:=m∈qK
theorem Wm.all{P:ji→Prop}(h:∀q,q<5→P (aa qK q)):∀m,Wm m→P m:=by
 intro m hm
 simp only [Wm,qK,ib,zD,zF]at hm
 rcases hm with rfl|rfl|rfl|rfl|rfl
 ·exact h 0 (by decide)
 ·exact h 1 (by decide)
 ·exact h 2 (by decide)
 ·exact h 3 (by decide)
 ·exact h 4 (by decide)
theorem KY{q:Nat}(h:q<5):Wm (aa qK q):=aB (l:=qK) h
theorem Wm.tS{m:ji}(h:Wm m):wN m=0:=Wm.all (P:=fun m=>wN m=0) (fun q hq=>by
 have:q=0∨q=1∨q=2∨q=3∨q=4:=oM
 rcases this with rfl|rfl|rfl|rfl|rfl<;>decide) m h
def ji.ln(m:ji):Int:=m.nK*(1935360/m.pe)
theorem Wm.ln{m:ji}(h:Wm m):(m.ln=1935360∨m.ln=1451520∨m.ln=1209600)∧1≤m.pe∧1≤m.nK∧m.nK≤64∧m.pe≤64:=Wm.all (P:=fun m=>(m.ln=1935360∨m.ln=1451520∨m.ln=1209600)∧1≤m.pe∧1≤m.nK∧m.nK≤64∧m.pe≤64) (fun q hq=>by
 have:q=0∨q=1∨q=2∨q=3∨q=4:=oM
 rcases this with rfl|rfl|rfl|rfl|rfl<;>decide) m h
theorem U2{a b:Int}(h:1≤a∧a≤64)(hb:0≤b∧b≤1935360):0≤a*b∧a*b≤123863040:=by
 refine⟨Int.mul_nonneg  oM hb.1,?_⟩
 have h1:a*b≤64*b:=J5 h.2 hb.1
 omega
theorem agb{m:ji}(h:(m.g0==0&&(m.g1==0&&(m.g2==0&&(m.g3==0&&(m.g4==0&&(m.g5==0))))))=true):u9 m:=by
 simpa [u9]using h
theorem agc{m:ji}(h:(m.g0==0&&(m.g1==0&&(m.g2==0&&(m.g3==0&&(m.g4==0&&(m.g5==0))))))=false):¬u9 m:=fun g=>by
 unfold u9 at g
 simp [g]at h
theorem agd{m:ji}{k:Nat}(h:k<6):(#[Value.int .i64 m.g0,.int .i64 m.g1,.int .i64 m.g2,.int .i64 m.g3,.int .i64 m.g4,.int .i64 m.g5])[k]?=some (.int .i64 (aa m.gs k)):=by
 have:k=0∨k=1∨k=2∨k=3∨k=4∨k=5:=oM
 rcases this with rfl|rfl|rfl|rfl|rfl|rfl<;>rfl
theorem VP{l:List Int}{k:Nat}(h:∀j,j<k→¬qL l j)(h1:¬qL l k):∀j,j<k+1→¬qL l j:=fun j hj=>by
 by_cases e:j=k
 ·subst e;exact h1
 ·exact h j  oM
theorem age{m:ji}(j8:¬u9 m)(eO:∀j,j<6→¬qL m.gs j)(h:tR m.gs 6=m.nK):decide ((2:Int)≤(wM m.gs 6:Int))=decide (Ew m):=by
 rw [sD,iK,iK]
 exact⟨fun g=> .inr ⟨eO,h,oM⟩,fun g=>g.elim (fun g=>absurd g j8) (fun g=>by have:=g.2.2;omega)⟩
theorem agf{m:ji}(j8:¬u9 m)(h:¬tR m.gs 6=m.nK):false=decide (Ew m):=(cn (fun g=>g.elim j8 (fun g=>h g.2.1))).symm
def iI(n a:Int):Nat→List aY
 |0=> []
 |k+1=>iI n a k++(if o_ k=(n-a)%12∧0≤c_ k a ((n-a)/12-1)then [⟨k,a,(n-a)/12-1⟩]else [])
def kA(n:Int):Nat→List aY
 |0=> []
 |j+1=>kA n j++iI n (2-j) 7
def dp(n:Int):List aY:=kA n 5
theorem OY(n a:Int):∀k,(iI n a k).length≤k
 |0=>cm _
 |k+1=>by
  have:=OY n a k
  rw [iI,aP]
  split<;>simp<;>omega
theorem G8(n:Int):∀j,(kA n j).length≤7*j
 |0=>cm _
 |j+1=>by
  have:=G8 n j
  have:=OY n (2-j) 7
  rw [kA,aP];omega
theorem VQ{n a:Int}:∀{k:Nat} {p:aY},p∈iI n a k→p.aH=n
 |k+1,p,h=>by
  rw [iI,dJ]at h
  rcases h with h|h
  ·exact VQ h
  ·split at h
   ·rename_i hc
    simp only [cS]at h
    subst h
    have:=(Ek hc.2).2
    show c_ _ _ _=n
    rw [this,hc.1];omega
   ·cases h
theorem KZ{n:Int}:∀{j:Nat} {p:aY},p∈kA n j→p.aH=n
 |j+1,p,h=>by
  rw [kA,dJ]at h
  rcases h with h|h
  ·exact KZ h
  ·exact VQ h
def rG(fl:Bool):Int:=if fl then-1 else 1
theorem agh{n:Int}(h:40≤n∧n≤100)(fl:Bool):∃p∈dp n,p.bU=0∨p.bU=rG fl:=by
 have key:∀k∈List.range 61,∀b:Bool,((dp ((k:Int)+40)).any fun p=>p.bU==0||p.bU==rG b)=true:=by decide+kernel
 have h1:=key (n-40).toNat (by simp;omega) fl
 rw [show(((n-40).toNat:Nat):Int)+40=n from oM,lD]at h1
 obtain⟨p,hp,h2⟩:=h1
 exact⟨p,hp,by simpa using h2⟩
theorem agi{c:Int}(h:((if c<0 then(18:Int)else 0)==0)=true):0≤c:=by
 by_cases h2:c<0
 ·rw [aG h2]at h;cases h
 ·omega
theorem agj{c:Int}(h:((if c<0 then(18:Int)else 0)==0)=false):¬0≤c:=fun h2=>by
 rw [ay  oM]at h
 cases h
theorem VR{fl:Bool}{q:Nat}(h:q<2):([[.int .i64 0], [.int .i64 (rG fl)]]:List (List Value))[q]?=some [.int .i64 (aa [0,rG fl] q)]:=by
 have:q=0∨q=1:=oM
 rcases this with rfl|rfl<;>rfl
theorem VT{n:Int}{fl:Bool}{i k:Nat}(eO:∀j,j<i→∀p∈dp n,p.bU≠aa [0,rG fl] j)(hk:(dp n).length≤k)(ew:∀j,j<k→(aa (dp n) j).bU≠aa [0,rG fl] i):∀j,j<i+1→∀p∈dp n,p.bU≠aa [0,rG fl] j:=fun j hj p hp=>by
 by_cases e:j=i
 ·subst e
  obtain⟨q,hq,rfl⟩:=fX hp
  have:=ew q  oM
  simpa [aa,j4 hq]using this
 ·exact eO j  oM p hp
theorem VU{n:Int}{fl:Bool}{i:Nat}{α:Prop}(hn:40≤n∧n≤100)(eO:∀j,j<i→∀p∈dp n,p.bU≠aa [0,rG fl] j)(hi:2≤i):α:=by
 obtain⟨p,hp,h|h⟩:=agh hn fl
 ·exact absurd h (eO 0  oM p hp)
 ·exact absurd h (eO 1  oM p hp)
theorem G_{α:Type}{p:α→Bool}:∀l:List α,decide (0≤bV.lO p l)=l.any p:=by
 intro l
 have h:∀l:List α,decide (bV.eI p l<l.length)=l.any p:=by
  intro l
  induction l with
  |nil=>rfl
  |cons a r ih=>
   rw [bV.eI,List.any_cons]
   by_cases ha:p a=true
   ·rw [aG ha,ha];simp
   ·rw [ay ha,←ih,show p a=false from by simpa using ha];simp
 rw [←h l,bV.lO]
 by_cases h1:bV.eI p l<l.length
 ·rw [aG h1,dz h1];exact dz  oM
 ·rw [ay h1,cn h1];rfl
def Ez(h:Hd):Bool:=h.ey
def BX(h k:Hd):Bool:=k.step==h.step&&(k.bU==h.bU&&(k.bH==h.bH))
def nk(x:bz):Bool:=decide (x.n.bh=1)&&x.hs.any Ez
def yj(y:bz)(h:Hd):Bool:= !h.ey||(decide (y.n.bh=1)&&y.hs.any (BX h))
def BY(x y:bz):Bool:= !decide (x.n.bh=1)||x.hs.all (yj y)
def EB{α:Type}(p:α→Bool)(l:List α)(k:Nat):Bool:=(l.take k).all p
theorem V3{α:Type} [Inhabited α]{p:α→Bool}{l:List α}{k:Nat}(h:k<l.length):EB p l (k+1)=(EB p l k&&p (aa l k)):=by simp [EB,o6 h]
theorem agv{α:Type}{p:α→Bool}{l:List α}{k:Nat}(h:l.length≤k):EB p l k=l.all p:=by rw [EB,gU h]
theorem V4{α:Type} [Inhabited α]{p:α→Bool}{l:List α}{k:Nat}(h:k<l.length)(hp:p (aa l k)=false):l.all p=false:=by
 rw [List.all_eq_false]
 exact⟨aa l k,aB h,by simp [hp]⟩
theorem agw{w:World}{b:Nat}{t:TypeId}{v0 v1 v2 v3 v4:Value}(h:(ak.ai b t [(0,v0),(1,v1),(2,v2),(3,v3),(4,v4)]).holds w):Rd w (some ⟨b,0,none⟩) 5 [[v0,v1,v2,v3,v4]]:=
 KD h fun i u hu=>by
  match i,hu with
  |0,hu=>simpa [dj]using hu
  |1,hu=>simpa [dj]using hu
  |2,hu=>simpa [dj]using hu
  |3,hu=>simpa [dj]using hu
  |4,hu=>simpa [dj]using hu
  |i+5,hu=>simp at hu
structure lP where
 bh:Int
 value:Int
 BZ:Int
 Af:Int
 yk:Bool
 dq:Int
instance:Inhabited lP:=⟨⟨0,0,0,0,false,0⟩⟩
def lP.enc(x:lP):List Value:= [.int .u8 x.bh,.int .u8 x.value,.int .u8 x.BZ,.int .u8 x.Af,.bool x.yk,.int .u16 x.dq]
def lP.val(x:lP):Value:= .agg x.enc.toArray
structure lP.ok(x:lP):Prop where
 k:0≤x.bh∧x.bh≤255
 v:0≤x.value∧x.value≤255
 p:0≤x.BZ∧x.BZ≤255
 m:0≤x.Af∧x.Af≤255
 s:0≤x.dq∧x.dq≤65535
structure Ah(l:List Hd):Prop where
 n:l.length=1∨l.length=2
 e:pb l=0
 r:∀h∈l,12≤h.aH∧h.aH≤115
structure ED(l:List Hd):Prop extends Ah l where
 r2:∀h∈l,48≤h.aH∧h.aH≤90
def rI(p:aY)(t:Bool)(s:Int):Hd:=⟨p.step,p.bU,p.bH,t,s⟩
theorem u_(p:aY)(t:Bool)(s:Int):(rI p t s).aH=p.aH:=rfl
theorem agz{p:aY}{t:Bool}(h:48≤p.aH∧p.aH≤90):ED [rI p t 0]:=by
 refine⟨⟨.inl rfl,?_,fun x hx=>?_⟩,fun x hx=>?_⟩
 ·have e:mF (rI p t 0)=0:=ON (by rw [u_];omega) (by show¬((0:Int)<0∨2<(0:Int));decide)
  rw [El  sM sM]
  simp [dw,hF,aa,e]
 ·simp only [cS]at hx
  subst hx;rw [u_];omega
 ·simp only [cS]at hx
  subst hx;rw [u_];omega
theorem V6{p q:aY}{t u:Bool}{s:Int}(h:48≤p.aH∧p.aH≤90)(h2:p.aH<q.aH∧q.aH≤90)(hs:0≤s∧s≤2):ED [rI p t 0,rI q u s]:=by
 refine⟨⟨.inr rfl,?_,fun x hx=>?_⟩,fun x hx=>?_⟩
 ·have e:mF (rI p t 0)=0:=ON (by rw [u_];omega) (by show¬((0:Int)<0∨2<(0:Int));decide)
  have e2:mF (rI q u s)=0:=ON (by rw [u_];omega) (by show¬(s<0∨2<s);omega)
  rw [El  sM sM]
  have e3:¬(rI q u s).aH≤(rI p t 0).aH:=by rw [u_,u_];omega
  simp [dw,hF,aa,e,e2,e3]
 ·simp only [ib,zD,zF]at hx
  rcases hx with rfl|rfl
  ·rw [u_];omega
  ·rw [u_];omega
 ·simp only [ib,zD,zF]at hx
  rcases hx with rfl|rfl
  ·rw [u_];omega
  ·rw [u_];omega
def Ai:List ByteArray:= [⟨#[108,97]⟩,⟨#[115,111,108]⟩,⟨#[97]⟩]
theorem V7{q:Nat}(h:q<3):([[.string ⟨#[108,97]⟩], [.string ⟨#[115,111,108]⟩], [.string ⟨#[97]⟩]]:List (List Value))[q]?=some [.string (aa Ai q)]:=by
 have:q=0∨q=1∨q=2:=oM
 rcases this with rfl|rfl|rfl<;>rfl
structure iQ(x:bz)(id lg d:Int):Prop where
 bg:x.n.bg=1∨x.n.bg=8
 aH:x.n.aH=id
 e_:x.n.e_=lg
 iH:x.n.iH=d
 bh:x.n.bh=1∨x.n.bh=2∨x.n.bh=4
 hs:x.n.bh=1→Ah x.hs
 B0:x.n.bh≠1→x.hs= []∧x.gs= []∧x.ls= []∧x.n.fo=0∧x.n.dM=0∧x.n.gb=0
 gs:x.gs= []∨∃g,x.gs= [g]∧12≤g.aH∧g.aH≤115∧g.e_=3
 ls:x.ls= []∨∃q,q<3∧x.ls= [⟨aa Ai q,0⟩]
 fo:0≤x.n.fo∧x.n.fo≤3
 dM:0≤x.n.dM∧x.n.dM≤4
 gb:0≤x.n.gb∧x.n.gb≤9
 jh:x.n.jh=0
 jQ:x.n.jQ=0
def Rg(x:bz):Prop:=(∀h∈x.hs,48≤h.aH∧h.aH≤90)∧∀g∈x.gs,48≤g.aH∧g.aH≤90
structure Aj(x:bz)(id lg d:Int):Prop extends iQ x id lg d where
 rg:Rg x
 s1:x.n.bg=1
theorem iQ.dX{x:bz}{id lg d:Int}(h:iQ x id lg d):x.dX:=by
 refine⟨?_,?_,?_,by have:=h.fo;omega⟩
 ·by_cases hk:x.n.bh=1
  ·rcases(h.hs hk).n with h1|h1<;>omega
  ·rw [(h.B0 hk).1];decide
 ·rcases h.gs with h1|⟨g,h1,_⟩<;>rw [h1]<;>simp
 ·rcases h.ls with h1|⟨q,_,h1⟩<;>rw [h1]<;>simp
theorem agA{q:Nat}(h:q<3):pd [⟨aa Ai q,0⟩]=0:=by
 have:q=0∨q=1∨q=2:=oM
 rcases this with rfl|rfl|rfl<;>decide+kernel
theorem iQ.tS{x:bz}{id lg d:Int}(h:iQ x id lg d)(hi:0≤id∧id≤1073741824)(hv:fp lg d):gx x=0:=by
 have ha:=h.fo
 have ho:=h.dM
 have hd:=h.gb
 have eJ:lN x.n:=by unfold lN;have:=h.bg;rw [h.aH];omega
 have hk:¬(x.n.bh<1∨4<x.n.bh):=by have:=h.bh;omega
 have pf:¬(x.n.bh≠3∧¬fp x.n.e_ x.n.iH):=by rw [h.e_,h.iH];exact fun g=>g.2 hv
 have eV:u6 x.n:=by unfold u6;rw [h.jh,h.jQ];omega
 have hp:¬(x.n.bh=1∧mG x≠0):=by
  rintro⟨h1,h2⟩
  refine h2 ?_
  have hg:u4 x.gs=0:=by
   rcases h.gs with e|⟨g,e,g1,g2,g3⟩
   ·rw [e];rfl
   ·rw [e,OO sM]
    have e2:wI g=0:=Vx  oM oM
    simp [dw,gF,aa,e2]
  have hl:pd x.ls=0:=by
   rcases h.ls with e|⟨q,hq,e⟩
   ·rw [e];rfl
   ·rw [e];exact agA hq
  rw [mG,(h.hs h1).e,hg,hl];rfl
 have hs:jR x (gZ x):=by
  by_cases h1:x.n.bh=1
  ·rw [G4 (by unfold eP;omega)];exact KV x
  ·obtain⟨b1,b2,b3,b4,b5,b6⟩:=h.B0 h1
   have hb:eP x.n.bh:=by have:=h.bh;unfold eP;omega
   have h3:¬x.n.bh=3:=by have:=h.bh;omega
   rw [gZ,aG hb]
   simp only [jR,ay h3,b1,b2,b3,b4,b5,b6,h.jh,h.jQ,iw,and_self,true_and,kM]
   split<;>rfl
 rw [yd eJ hk hs pf hp,OW eV]
theorem Ha{k id lg d:Int}(h:k=2∨k=4):Aj ⟨⟨1,id,k,lg,d,0,0,0,0,0⟩, [], [], []⟩ id lg d:=
 ⟨⟨.inl rfl,rfl,rfl,rfl,.inr h,fun h1=>by have e:k=1:=h1;omega,fun _=>⟨rfl,rfl,rfl,rfl,rfl,rfl⟩,.inl rfl,.inl rfl,⟨xV _,show(0:Int)≤3 by decide⟩,⟨xV _,show(0:Int)≤4 by decide⟩,⟨xV _,show(0:Int)≤9 by decide⟩,rfl,rfl⟩,⟨fun h hh=>(by cases hh),fun g hg=>(by cases hg)⟩,rfl⟩
theorem K4{id lg d fo dM gb:Int}{hs:List Hd}{gs:List Gr}{ls:List ef}(hh:ED hs)(hg:gs= []∨∃g,gs= [g]∧48≤g.aH∧g.aH≤90∧g.e_=3)(hl:ls= []∨∃q,q<3∧ls= [⟨aa Ai q,0⟩])(ha:0≤fo∧fo≤3)(ho:0≤dM∧dM≤4)(hd:0≤gb∧gb≤9):
  Aj ⟨⟨1,id,1,lg,d,fo,dM,gb,0,0⟩,hs,gs,ls⟩ id lg d:=by
 refine⟨⟨.inl rfl,rfl,rfl,rfl,.inl rfl,fun _=>hh.toAh,fun h=>absurd rfl h,?_,hl,ha,ho,hd,rfl,rfl⟩,⟨hh.r2,fun g hm=>?_⟩,rfl⟩
 ·rcases hg with h|⟨g,e,h1,h2,h3⟩
  ·exact .inl h
  ·exact .inr ⟨g,e,oM,oM,h3⟩
 ·have wQ:g∈gs:=hm
  rcases hg with h|⟨g',e,h1,h2,h3⟩
  ·rw [h]at wQ;cases wQ
  ·rw [e]at wQ;rw [cS.1 wQ];exact⟨h1,h2⟩
theorem Hb{l:List Hd}(h:ED l):0<l.length:=by rcases h.n with h|h<;>omega
theorem V8{l:List Hd}(h:ED l):48≤(aa l 0).aH∧(aa l 0).aH≤90:=h.r2 _ (aB (Hb h))
def K5(h:Hd)(s:Bool):Gr:=⟨h.step,h.bU,h.bH,3,s⟩
theorem V9{h:Hd}{s:Bool}(hh:48≤h.aH∧h.aH≤90):([K5 h s]=([]:List Gr))∨∃g, [K5 h s]= [g]∧48≤g.aH∧g.aH≤90∧g.e_=3:= .inr ⟨_,rfl,hh.1,hh.2,rfl⟩
structure nM(ts:List Tu.bb)(m:Int):Prop where
 kB:∀i,i<ts.length→(aa ts i).count=3∧(aa ts i).nE=3∧(aa ts i).normal=2∧0≤(aa ts i).first∧(aa ts i).first+3≤m
 aT:∀i j,i<j→j<ts.length→(aa ts i).first+3≤(aa ts j).first
theorem nM.eZ{ts:List Tu.bb}{m:Int}(h:nM ts m){i:Nat}(hi:i<ts.length):Tu.eZ (aa ts i)=(aa ts i).first+3:=by
 rw [Tu.eZ,(h.kB i hi).1]
theorem nM.Pb{ts:List Tu.bb}{n:Int}(h:nM ts n)(h2:n≤128):Tu.jz n ts ts.length:=by
 intro i hi
 obtain⟨e1,e2,e3,e4,e5⟩:=h.kB i hi
 refine Tu.Om (by unfold Tu.lK;omega) (fun h0=>?_) ?_
 ·have:=h.aT (i-1) i  oM hi
  unfold Tu.pW;omega
 ·have e:Tu.mi ts i (aa ts i).first= []:=by
   refine Tu.ae1 fun u hu=>?_
   obtain⟨j,hj,qD,rfl⟩:=Tu.Oo hu
   rw [h.eZ qD]
   exact h.aT j i hj hi
  unfold Tu.qH
  rw [e]
  simp
theorem nM.check{ts:List Tu.bb}{n:Int}(h:nM ts n)(h1:0≤n)(h2:n≤128)(h3:ts.length≤16):Tu.nF ts n=0:=Tu.UJ h1 h2 h3 (h.Pb h2)
theorem Pc{ts:List Tu.bb}{e:Int}:∀{k:Nat},(∀j,j<k→Tu.jA (aa ts j) e=false)→Tu.NN ts e k=1∧Tu.DD ts e k=1
 |0,_=>⟨rfl,rfl⟩
 |k+1,h=>by
  obtain⟨h1,h2⟩:=Pc (k:=k) fun j hj=>h j  oM
  rw [Tu.KJ (h k  oM),Tu.KK (h k  oM)]
  exact⟨h1,h2⟩
theorem V_{ts:List Tu.bb}{e:Int}{i:Nat}(h1:Tu.jA (aa ts i) e=true)(hn:(aa ts i).normal=2)(ha:(aa ts i).nE=3):∀{k:Nat},i<k→(∀j,j<k→j≠i→Tu.jA (aa ts j) e=false)→Tu.NN ts e k=2∧Tu.DD ts e k=3
 |k+1,hi,h=>by
  by_cases e0:i=k
  ·subst e0
   obtain⟨g1,g2⟩:=Pc (ts:=ts) (e:=e) (k:=i) fun j hj=>h j  oM oM
   rw [Tu.NN,Tu.DD,aG h1,aG h1,g1,g2,hn,ha]
   exact⟨rfl,rfl⟩
  ·obtain⟨g1,g2⟩:=V_ h1 hn ha (k:=k)  oM fun j hj=>h j  oM
   rw [Tu.KJ (h k  oM oM),Tu.KK (h k  oM oM)]
   exact⟨g1,g2⟩
theorem He{t:Tu.bb}{e:Int}(h:e<t.first∨Tu.eZ t≤e):Tu.jA t e=false:=by
 cases h1:Tu.jA t e with
 |false=>rfl
 |true=>rw [Tu.GW]at h1;omega
theorem Wa{ts:List Tu.bb}{e x:Int}(hx:0≤x∧x≤7741440)(h:∀j,j<ts.length→Tu.jA (aa ts j) e=false):Tu.gW ts e x=(x,0):=by
 obtain⟨h1,h2⟩:=Pc h
 rw [Tu.OC hx (by rw [h1,h2];omega),h1,h2]
 simp
theorem agB{ts:List Tu.bb}{m e x:Int}(h:nM ts m)(hx:0≤x∧x≤7741440)(h3:x%3=0){i:Nat}(hi:i<ts.length)(he:(aa ts i).first≤e∧e<(aa ts i).first+3):Tu.gW ts e x=(x*2/3,0):=by
 have h1:Tu.jA (aa ts i) e=true:=by rw [Tu.GW,h.eZ hi];exact he
 obtain⟨g1,g2⟩:=V_ h1 (h.kB i hi).2.2.1 (h.kB i hi).2.1 hi fun j hj iJ=>by
  rcases jo j i with bG|BD
  ·exact He (.inr (by rw [h.eZ hj];have:=h.aT j i bG hi;omega))
  ·exact He (.inl (by have:=h.aT i j  oM hj;omega))
 rw [Tu.OC hx (by rw [g1,g2];omega),g1,g2]
 rfl
instance:Inhabited bz:=⟨bz.zero⟩
def bz.nq(x:bz):Int:=if x.n.bh=3 then 0 else fq x.n.e_ x.n.iH
theorem EE{a b:Int}(h:fp a b):0<fq a b∧fq a b≤7741440:=by
 unfold fp at h
 have h1:a= -1∨a=0∨a=1∨a=2∨a=3∨a=4∨a=5∨a=6∨a=7∨a=8:=oM
 have h2:b=0∨b=1∨b=2∨b=3:=oM
 rcases h1 with rfl|rfl|rfl|rfl|rfl|rfl|rfl|rfl|rfl|rfl<;>rcases h2 with rfl|rfl|rfl|rfl<;>decide
theorem K6{a b:Int}(h:fp a b):0≤fq a b∧fq a b≤7741440:=⟨Int.le_of_lt (EE h).1,(EE h).2⟩
theorem iQ.nq{x:bz}{id lg d:Int}(h:iQ x id lg d):x.nq=fq lg d:=by
 rw [bz.nq,ay (by have:=h.bh;omega),h.e_,h.iH]
def jj(es:List bz):List Int:=es.map bz.nq
def j_(es:List bz)(ts:List Tu.bb):List Int:=Tu.p8 ts (jj es) es.length
structure VS(es:List bz)(ts:List Tu.bb)(u:Int):Prop where
 ev:∀j,j<es.length→∃id lg d,iQ (aa es j) id lg d∧fp lg d
 p_:nM ts es.length
 Hf:∀i,i<ts.length→∃lg:Int,1≤lg∧lg≤4∧∀j:Nat,(aa ts i).first≤j→(j:Int)<(aa ts i).first+3→(aa es j).nq=fq lg 0
 ok:∀j:Nat,j<es.length→(Tu.gW ts j (aa es j).nq).2=0∧0<(Tu.gW ts j (aa es j).nq).1
 sum:Tu.gX (j_ es ts)=u
theorem VS.nil:VS [] [] 0:=⟨fun j h=>absurd h sM,⟨fun i h=>absurd h sM,fun i j _ h=>absurd h sM⟩,fun i h=>absurd h sM,fun j h=>absurd h sM,rfl⟩
theorem nO{α:Type} [Inhabited α]{l r:List α}{j:Nat}(h:j<l.length):aa (l++r) j=aa l j:=by simp [aa,Bu h]
theorem EF{α:Type} [Inhabited α]{l r:List α}{j:Nat}(h:l.length≤j):aa (l++r) j=aa r (j-l.length):=by simp [aa,uC h]
theorem wR{es:List bz}{j:Nat}(h:j<es.length):aa (jj es) j=(aa es j).nq:=by
 simp [aa,jj,h]
theorem Pd{ts Wb:List Tu.bb}{w w':List Int}:∀{n:Nat},(∀j:Nat,j<n→(Tu.gW Wb j (aa w' j)).1=(Tu.gW ts j (aa w j)).1)→Tu.p8 Wb w' n=Tu.p8 ts w n
 |0,_=>rfl
 |n+1,h=>by rw [Tu.BR,Tu.BR,h n  oM,Pd fun j hj=>h j  oM]
theorem VS.one{es:List bz}{ts:List Tu.bb}{u:Int}(h:VS es ts u){e:bz}{id lg d:Int}(he:iQ e id lg d)(hv:fp lg d):VS (es++ [e]) ts (u+fq lg d):=by
 have agC:∀x:Int,0≤x∧x≤7741440→Tu.gW ts es.length x=(x,0):=fun x hx=>Wa hx fun j hj=>He (.inr (by rw [h.p_.eZ hj];exact(h.p_.kB j hj).2.2.2.2))
 have ox:=agC _ ⟨Int.le_of_lt (EE hv).1,(EE hv).2⟩
 have e1:∀j,j<es.length→aa (es++ [e]) j=aa es j:=fun j hj=>nO hj
 have e2:aa (es++ [e]) es.length=e:=by rw [EF (cm _),zH];rfl
 refine⟨fun j hj=>?_,⟨fun i hi=>?_,h.p_.aT⟩,fun i hi=>?_,fun j hj=>?_,?_⟩
 ·by_cases bG:j<es.length
  ·rw [e1 j bG];exact h.ev j bG
  ·rw [show j=es.length from by simp at hj;omega,e2];exact⟨_,_,_,he,hv⟩
 ·have:=h.p_.kB i hi
  simp only [aP,sC];omega
 ·obtain⟨l,l1,l2,l3⟩:=h.Hf i hi
  refine⟨l,l1,l2,fun j h1 h2=>?_⟩
  have:=(h.p_.kB i hi).2.2.2.2
  rw [e1 j  oM];exact l3 j h1 h2
 ·by_cases bG:j<es.length
  ·rw [e1 j bG];exact h.ok j bG
  ·rw [show j=es.length from by simp at hj;omega,e2,he.nq,ox];exact⟨rfl,(EE hv).1⟩
 ·have e3:j_ (es++ [e]) ts=j_ es ts++ [fq lg d]:=by
   unfold j_
   rw [aP,sC,Tu.BR]
   rw [wR sM,e2,he.nq,ox]
   congr 1
   exact Pd fun j hj=>by rw [wR (by simp;omega),wR hj,e1 j hj]
  rw [e3,Tu.GZ,h.sum]
  simp [Tu.gX]
def mJ(n:Nat):Tu.bb:=⟨n,3,3,2⟩
theorem Wc{lg:Int}(h:1≤lg∧lg≤4):fq lg 0%3=0∧fp lg 0:=by
 have:lg=1∨lg=2∨lg=3∨lg=4:=oM
 rcases this with rfl|rfl|rfl|rfl<;>decide
theorem VS.agD{es:List bz}{ts:List Tu.bb}{u:Int}(h:VS es ts u){a b c:bz}{i1 i2 i3 lg:Int}(ha:iQ a i1 lg 0)(hb:iQ b i2 lg 0)(hc:iQ c i3 lg 0)(hl:1≤lg∧lg≤4):
  VS (es++ [a,b,c]) (ts++ [mJ es.length]) (u+2*fq lg 0):=by
 obtain⟨h3,hv⟩:=Wc hl
 have nP:=EE hv
 have Wd:nM (ts++ [mJ es.length]) (es.length+3):=by
  refine⟨fun i hi=>?_,fun i j j7 hj=>?_⟩
  ·by_cases bG:i<ts.length
   ·rw [nO bG];have:=h.p_.kB i bG;omega
   ·rw [EF  oM,show i-ts.length=0 from by simp at hi;omega]
    simp [aa,mJ]
  ·by_cases bG:j<ts.length
   ·rw [nO bG,nO  oM];exact h.p_.aT i j j7 bG
   ·have er:j=ts.length:=by simp at hj;omega
    subst er
    rw [EF (cm _),nO j7,zH]
    exact(h.p_.kB i j7).2.2.2.2
 have fD:((es++ [a,b,c]).length:Int)=es.length+3:=by simp
 have ox:∀k:Nat,k<3→aa (es++ [a,b,c]) (es.length+k)=aa [a,b,c] k:=fun k hk=>by rw [EF  oM,J2]
 have B1:∀k:Nat,k<3→(aa (es++ [a,b,c]) (es.length+k)).nq=fq lg 0:=fun k hk=>by
  rw [ox k hk]
  have:k=0∨k=1∨k=2:=oM
  rcases this with rfl|rfl|rfl
  ·exact ha.nq
  ·exact hb.nq
  ·exact hc.nq
 have Ab:aa (ts++ [mJ es.length]) ts.length=mJ es.length:=by rw [EF (cm _),zH];rfl
 have Pe:∀k:Nat,k<3→Tu.gW (ts++ [mJ es.length]) ((es.length+k:Nat):Int) (fq lg 0)=(fq lg 0*2/3,0):=fun k hk=>
  agB Wd ⟨Int.le_of_lt nP.1,nP.2⟩ h3 (i:=ts.length)  sM  (by rw [Ab];simp [mJ];omega)
 have sH:∀(j:Nat) (x:Int),j<es.length→Tu.gW (ts++ [mJ es.length]) j x=Tu.gW ts j x:=fun j x hj=>by
  have hk:∀k,k≤ts.length→Tu.NN (ts++ [mJ es.length]) j k=Tu.NN ts j k∧Tu.DD (ts++ [mJ es.length]) j k=Tu.DD ts j k:=by
   intro k
   induction k with
   |zero=>intro _;exact⟨rfl,rfl⟩
   |succ k ih=>
    intro hk
    obtain⟨g1,g2⟩:=ih  oM
    rw [Tu.NN,Tu.NN,Tu.DD,Tu.DD,nO  oM,g1,g2]
    exact⟨rfl,rfl⟩
  obtain⟨g1,g2⟩:=hk ts.length (cm _)
  have hb:Tu.jA (aa (ts++ [mJ es.length]) ts.length) j=false:=by rw [Ab];exact He (.inl (by simp [mJ];omega))
  have e1:Tu.NN (ts++ [mJ es.length]) j (ts++ [mJ es.length]).length=Tu.NN ts j ts.length:=by
   rw [aP,sC,Tu.KJ hb,g1]
  have e2:Tu.DD (ts++ [mJ es.length]) j (ts++ [mJ es.length]).length=Tu.DD ts j ts.length:=by
   rw [aP,sC,Tu.KK hb,g2]
  unfold Tu.gW
  rw [e1,e2]
 have We:∀j:Nat,j<(es++ [a,b,c]).length→j<es.length∨∃k,k<3∧j=es.length+k:=fun j hj=>by
  by_cases bG:j<es.length
  ·exact .inl bG
  ·exact .inr ⟨j-es.length,by simp at hj;omega,oM⟩
 refine⟨fun j hj=>?_,by rw [fD];exact Wd,fun i hi=>?_,fun j hj=>?_,?_⟩
 ·rcases We j hj with bG|⟨k,hk,rfl⟩
  ·rw [nO bG];exact h.ev j bG
  ·rw [ox k hk]
   have:k=0∨k=1∨k=2:=oM
   rcases this with rfl|rfl|rfl
   ·exact⟨_,_,_,ha,hv⟩
   ·exact⟨_,_,_,hb,hv⟩
   ·exact⟨_,_,_,hc,hv⟩
 ·by_cases bG:i<ts.length
  ·obtain⟨l,l1,l2,l3⟩:=h.Hf i bG
   refine⟨l,l1,l2,?_⟩
   rw [nO bG]
   intro j h1 h2
   have:=(h.p_.kB i bG).2.2.2.2
   rw [nO  oM];exact l3 j h1 h2
  ·have eA:i=ts.length:=by simp at hi;omega
   subst eA
   rw [Ab]
   refine⟨lg,hl.1,hl.2,fun j h1 h2=>?_⟩
   simp only [mJ]at h1 h2
   have:=B1 (j-es.length)  oM
   rwa [show es.length+(j-es.length)=j from oM]at this
 ·rcases We j hj with bG|⟨k,hk,rfl⟩
  ·rw [nO bG,sH j _ bG];exact h.ok j bG
  ·rw [B1 k hk,Pe k hk];exact⟨rfl,by show 0<fq lg 0*2/3;omega⟩
 ·have ym:j_ (es++ [a,b,c]) (ts++ [mJ es.length])=j_ es ts++ [fq lg 0*2/3,fq lg 0*2/3,fq lg 0*2/3]:=by
   unfold j_
   rw [show(es++ [a,b,c]).length=es.length+0+1+1+1 from by simp,Tu.BR,Tu.BR,Tu.BR]
   have q:∀k:Nat,k<3→(Tu.gW (ts++ [mJ es.length]) ((es.length+k:Nat):Int) (aa (jj (es++ [a,b,c])) (es.length+k))).1=fq lg 0*2/3:=fun k hk=>by
    rw [wR (by simp;omega),B1 k hk,Pe k hk]
   have q0:=q 0  oM
   rw [Gk]at q0
   rw [show es.length+0+1+1=es.length+2 from rfl,show es.length+0+1=es.length+1 from rfl,Gk,q0,q 1  oM,q 2  oM]
   rw [bP,bP]
   congr 1
   exact Pd fun j hj=>by rw [wR (by simp;omega),wR hj,nO hj,sH j _ hj]
  rw [ym,Tu.GZ,h.sum]
  simp only [Tu.gX]
  omega
theorem agE{lg:Int}(h:1≤lg∧lg≤4):fq lg 0=rH 3870720 (lg+1).toNat:=by
 have:lg=1∨lg=2∨lg=3∨lg=4:=oM
 rcases this with rfl|rfl|rfl|rfl<;>rfl
theorem agG{lg L:Int}(h:1≤lg∧lg≤4)(hL: -1≤L∧L≤lg)(he:3*fq lg 0=3*rH 3870720 (L+1).toNat):L=lg:=by
 have h1:lg=1∨lg=2∨lg=3∨lg=4:=oM
 have h2:L= -1∨L=0∨L=1∨L=2∨L=3∨L=4:=oM
 rcases h1 with rfl|rfl|rfl|rfl<;>rcases h2 with rfl|rfl|rfl|rfl|rfl|rfl<;>first|rfl|(exfalso;revert he;decide)|(exfalso;omega)
theorem Hg{α:Type} [Inhabited α]{l:List α}{k j:Nat}:aa (l.drop k) j=aa l (k+j):=by simp [aa]
theorem nM.drop{ts:List Tu.bb}{m:Int}(h:nM ts m)(k:Nat):nM (ts.drop k) m:=by
 refine⟨fun i hi=>?_,fun i j j7 hj=>?_⟩
 ·rw [pM]at hi
  rw [Hg];exact h.kB _  oM
 ·rw [pM]at hj
  rw [Hg,Hg];exact h.aT _ _  oM oM
theorem nM.agH{ts:List Tu.bb}{m:Int}(h:nM ts m){i:Nat}(hi:i<ts.length){e:Int}(he:e<(aa ts i).first+3):∀j,j<(ts.drop (i+1)).length→Tu.jA (aa (ts.drop (i+1)) j) e=false:=fun j hj=>by
 rw [pM]at hj
 rw [Hg]
 have:=h.aT i (i+1+j)  oM oM
 exact He (.inl  oM)
def qb(l:List Int)(k:Nat):List Int:=l.take k++List.replicate (l.length-k) 0
theorem K7{l:List Int}{k:Nat}(h:k≤l.length):(qb l k).length=l.length:=by simp [qb];omega
theorem agI(l:List Int):qb l 0=List.replicate l.length 0:=by simp [qb]
theorem Wf{l:List Int}{k:Nat}(h:l.length≤k):qb l k=l:=by
 rw [qb,gU h,show l.length-k=0 from oM];simp
theorem Wg{l:List Int}{k:Nat}(h:k<l.length):((qb l k).map Tu.eW).set k [.int .i64 (aa l k)]=(qb l (k+1)).map Tu.eW:=by
 have e:(l.take k).length=k:=by rw [fL];omega
 rw [qb,qb,o6 h,show l.length-k=l.length-(k+1)+1 from oM,List.replicate_succ,cB,zG _ _ (by rw [bD,e];exact cm _),sB,bD,e,zH]
 simp [Tu.eW]
theorem agJ{l:List Int}{k j:Nat}(hj:j<k)(hl:j<l.length):aa (qb l k) j=aa l j:=by
 rw [qb,nO (by rw [fL];omega)]
 simp [aa,hj]
def mn(l:List Int):List Int:=(List.range l.length).map fun k=>Tu.gX (l.take k)
theorem B2(l:List Int):(mn l).length=l.length:=by simp [mn]
theorem yn{l:List Int}{k:Nat}(h:k<l.length):aa (mn l) k=Tu.gX (l.take k):=by simp [mn,aa,h]
theorem agK{l:List Int}{k:Nat}(h:k+1<l.length):aa (mn l) (k+1)=aa (mn l) k+aa l k:=by
 rw [yn h,yn  oM,Tu.Ee  oM]
theorem agM{l:List Int}(yp:(mn l).length=l.length):qb (mn l) 1=List.replicate l.length 0:=by
 rw [qb,yp]
 cases l with
 |nil=>rfl
 |cons a r=>
  have e:(mn (a::r)).take 1= [0]:=by
   rw [show 1=0+1 from rfl,o6 (by rw [yp];simp),yn sM]
   simp [Tu.gX]
  rw [e];simp [List.replicate_succ]
theorem vb{es:List aN}{k:Nat}(h:k<es.length):aa (es.map aN.x) k=(aa es k).x:=by simp [aa,h]
theorem agN{es:List aN}{k:Nat}(h:k<es.length)(h0:gx (aa es k).x=0):aa (jj (es.map aN.x)) k=(if gx (aa es k).x≠0∨(aa es k).x.n.bh=3 then 0 else fq (aa es k).x.n.e_ (aa es k).x.n.iH):=by
 rw [wR (by simpa using h),vb h,bz.nq]
 by_cases h3:(aa es k).x.n.bh=3
 ·rw [aG h3,aG (.inr h3)]
 ·rw [ay h3,ay  oM]
theorem K8{es:List aN}{ts:List Tu.bb}{u:Int}(h:VS (es.map aN.x) ts u):∀x∈es,x.x.dX∧x.x.n.bh≠3:=fun x hx=>by
 obtain⟨i,hi,rfl⟩:=fX hx
 obtain⟨id,lg,d,he,-⟩:=h.ev i (by simpa using hi)
 rw [vb hi]at he
 have e:aa es i=es[i]:=by simp [aa,hi]
 rw [e]at he
 exact⟨he.dX,by have:=he.bh;omega⟩
theorem agO{es:List aN}{ts:List Tu.bb}{u:Int}(h:VS (es.map aN.x) ts u):∀j:Nat,j<(jj (es.map aN.x)).length→(Tu.gW ts j (aa (jj (es.map aN.x)) j)).2=0:=fun j hj=>by
 have er:j<(es.map aN.x).length:=by simpa [jj]using hj
 rw [wR er]
 exact(h.ok j er).1
theorem agP{es:List aN}{ts:List Tu.bb}{u:Int}(h:VS (es.map aN.x) ts u):∀i,i<ts.length→∃lg:Int,1≤lg∧lg≤4∧∀j:Nat,(aa ts i).first≤j→(j:Int)<(aa ts i).first+3→aa (jj (es.map aN.x)) j=fq lg 0:=fun i hi=>by
 obtain⟨lg,l1,l2,l3⟩:=h.Hf i hi
 refine⟨lg,l1,l2,fun j h1 h2=>?_⟩
 have:=(h.p_.kB i hi).2.2.2.2
 rw [wR  oM];exact l3 j h1 h2
def aW.xs(v:aW):List bz:=v.es.map aN.x
def yq(v:aW)(n:Int):Prop:=
 (∃x,v.es= [x]∧v.ts= []∧x.x.n.bh=3∧gx x.x=0∧x.x.dX)∨(VS (v.es.map aN.x) v.ts n∧(∀x∈v.es,gx x.x=0)∧0<v.es.length∧v.es.length≤128∧v.ts.length≤16∧v.ts.length≤v.tc)
def VL(v:aW)(n:Int):List Int:=if(aa v.es 0).x.n.bh=3 then [n]else j_ (v.es.map aN.x) v.ts
theorem K9{v:aW}{n:Int}{x:aN}(h:v.es= [x])(h3:x.x.n.bh=3):VL v n= [n]:=by
 rw [VL,h,aG];exact h3
theorem K_{v:aW}{n u:Int}(h:VS (v.es.map aN.x) v.ts u)(hp:0<v.es.length):VL v n=j_ (v.es.map aN.x) v.ts:=by
 rw [VL,ay (K8 h _ (aB hp)).2]
theorem La{v:aW}{n:Int}(h:yq v n)(hn:1≤n∧n≤15482880):(0<(VL v n).length∧(VL v n).length≤128)∧Tu.gX (VL v n)=n∧∀x∈VL v n,0≤x∧x≤253671505920:=by
 rcases h with⟨x,e1,e2,mK,h0,hf⟩|⟨hv,h0,hp,hl,eV,nQ⟩
 ·rw [K9 e1 mK]
  refine⟨by simp,by simp [Tu.gX],fun y hy=>?_⟩
  simp only [cS]at hy
  subst hy;omega
 ·rw [K_ hv hp]
  have jL:(j_ (v.es.map aN.x) v.ts).length=v.es.length:=by simp [j_,Tu.Ed]
  refine⟨oM,hv.sum,fun y hy=>?_⟩
  have hT:Tu.pY v.ts:=⟨_,by simp;omega,hv.p_.Pb (by simp;omega)⟩
  simp only [j_,Tu.p8,cM]at hy
  obtain⟨i,_,rfl⟩:=hy
  exact Tu.ae5 hT _ _
theorem Wh{v:aW}{n:Int}(h:yq v n)(hn:1≤n):∀x∈VL v n,0<x:=by
 rcases h with⟨x,e1,e2,mK,h0,hf⟩|⟨hv,h0,hp,hl,eV,nQ⟩
 ·rw [K9 e1 mK]
  intro y hy
  simp only [cS]at hy
  subst hy;omega
 ·rw [K_ hv hp]
  intro y hy
  simp only [j_,Tu.p8,cM,fY]at hy
  obtain⟨i,hi,rfl⟩:=hy
  rw [wR hi]
  exact(hv.ok i hi).2
theorem Pf{v:aW}{n:Int}(h:yq v n):(VL v n).length=v.es.length:=by
 rcases h with⟨x,e1,e2,mK,h0,hf⟩|⟨hv,h0,hp,hl,eV,nQ⟩
 ·rw [K9 e1 mK,e1];rfl
 ·rw [K_ hv hp];simp [j_,Tu.Ed]
theorem agQ{j:Nat}{x:Int}(hj:j≤3)(hx:0≤x∧x≤7741440):0≤(j:Int)*x∧(j:Int)*x≤23224320:=by
 refine⟨Int.mul_nonneg  oM hx.1,?_⟩
 have h1:(j:Int)*x≤3*x:=J5  oM hx.1
 omega
def gO:List (Int×Int):=(List.range 10).flatMap fun(a:Nat)=>(List.range 4).map fun(d:Nat)=>((a:Int)-1,(d:Int))
theorem Le:gO.length=40:=by decide
theorem ag9:∀a∈List.range 10,∀d∈List.range 4,gO.take (4*a+d)++ [((a:Int)-1,(d:Int))]=gO.take (4*a+(d+1)):=by decide
theorem ag_{a d:Nat}(ha:a<10)(hd:d<4):gO.take (4*a+d)++ [((a:Int)-1,(d:Int))]=gO.take (4*a+(d+1)):=ag9 a (fY.2 ha) d (fY.2 hd)
def Wx(p:Int×Int):List Value:= [.agg #[.int .i64 p.1,.int .i64 p.2]]
def ph(p:Int×Int):List Value:= [.int .i64 p.1,.int .i64 p.2]
def qQ(v:Int×Int):Prop:=fp v.1 v.2
theorem Po:∀v∈gO,qQ v:=by
 unfold qQ fp
 decide
theorem aha:((5,0):Int×Int)∈gO:=by decide
def uV(v:Int×Int):Int:=fq v.1 v.2/945
theorem EK{v:Int×Int}(h:qQ v):8≤uV v∧uV v≤8192∧fq v.1 v.2=945*uV v:=by
 obtain⟨a,b⟩:=v
 unfold qQ fp at h
 unfold uV
 simp only at h⊢
 have h1:a= -1∨a=0∨a=1∨a=2∨a=3∨a=4∨a=5∨a=6∨a=7∨a=8:=oM
 have h2:b=0∨b=1∨b=2∨b=3:=oM
 rcases h1 with rfl|rfl|rfl|rfl|rfl|rfl|rfl|rfl|rfl|rfl<;>rcases h2 with rfl|rfl|rfl|rfl<;>decide
theorem ahb:uV (5,0)=64:=by decide
theorem vf{α:Type} [Inhabited α]{l r:List α}{k:Nat}(h:k<l.length):aa (l++r) k=aa l k:=by simp [aa,Bu h]
def qf:List Int→Int
 | []=>0
 |x::l=>x+qf l
theorem Lf:∀(a b:List Int),qf (a++b)=qf a+qf b
 | [],b=>by simp [qf]
 |x::a,b=>by
  have:=Lf a b
  simp only [Bt,qf]
  omega
def Ds(ds:List Int):Prop:=(∀i,i<ds.length→8≤aa ds i∧aa ds i≤8192)∧∃i,i<ds.length∧aa ds i=64
theorem ahc{vs:List (Int×Int)}(h:vs.Perm gO):Ds (vs.map uV):=by
 have e:∀i,i<vs.length→aa (vs.map uV) i=uV (aa vs i):=fun i hi=>by simp [aa,jt,j4 hi]
 refine⟨fun i hi=>?_,?_⟩
 ·rw [bD]at hi
  rw [e i hi]
  have:=EK (Po _ (h.mem_iff.1 (aB hi)))
  exact⟨this.1,this.2.1⟩
 ·obtain⟨i,hi,hv⟩:=fX (h.mem_iff.2 aha)
  refine⟨i,by simpa using hi,?_⟩
  rw [e i hi,show aa vs i=(5,0)from by simp [aa,hi,hv]]
  exact ahb
theorem nT{α:Type} [Inhabited α]{l:List α}{k:Nat}(h:k<l.length):l.take (k+1)=l.take k++ [aa l k]:=by
 rw [List.take_add_one,j4 h];simp [aa,h]
structure DPj(ds cr:List Int)(j:Nat):Prop where
 lo:aa cr j= -1∨(0≤aa cr j∧aa cr j≤j)
 zero:0<j→aa cr j≠0
 Wy:0<aa cr j→∃i,i<ds.length∧aa ds i≤j∧aa cr (j-(aa ds i).toNat)=aa cr j-1
 Li:j%64=0→0≤aa cr j∧aa cr j*64≤j
def DP(ds cr:List Int)(k:Nat):Prop:=cr.length=k∧∀j,j<k→DPj ds cr j
structure sR(ds cr:List Int)(j i:Nat)(c:Int):Prop where
 is:c= -1∨(1≤c∧c≤j∧∃i',i'<i∧aa ds i'≤j∧aa cr (j-(aa ds i').toNat)=c-1)
 all:∀i',i'<i→aa ds i'≤j→0≤aa cr (j-(aa ds i').toNat)→1≤c∧c≤aa cr (j-(aa ds i').toNat)+1
theorem sR.ge{ds cr:List Int}{j i:Nat}{c:Int}(h:sR ds cr j i c):c= -1∨1≤c:=h.is.imp id (fun g=>g.1)
theorem DP.start{ds:List Int}:DP ds [0] 1:=⟨rfl,fun j hj=>by
 obtain rfl:j=0:=oM
 exact⟨.inr (by decide),fun h=>oM,fun h=>by simp [aa]at h,fun _=>by decide⟩⟩
theorem sR.start{ds cr:List Int}{j:Nat}:sR ds cr j 0 (-1):=⟨.inl rfl,fun i h=>oM⟩
theorem sR.skip{ds cr:List Int}{j i:Nat}{c:Int}(h:sR ds cr j i c)(hn:aa ds i≤j→0≤aa cr (j-(aa ds i).toNat)→1≤c∧c≤aa cr (j-(aa ds i).toNat)+1):sR ds cr j (i+1) c:=by
 refine⟨h.is.imp id fun⟨h1,h2,i',h3,h4⟩=>⟨h1,h2,i',oM,h4⟩,fun i' hi h1 h2=>?_⟩
 rcases jo i' i with bG|BD
 ·exact h.all i' bG h1 h2
 ·obtain rfl:i'=i:=oM
  exact hn h1 h2
theorem sR.take{ds cr:List Int}{j i:Nat}{c:Int}(h:sR ds cr j i c)(hD:DP ds cr j)(h8:8≤aa ds i)(h1:aa ds i≤j)(h2:0≤aa cr (j-(aa ds i).toNat))(h3:c<0∨aa cr (j-(aa ds i).toNat)+1<c):sR ds cr j (i+1) (aa cr (j-(aa ds i).toNat)+1):=by
 have hb:=(hD.2 (j-(aa ds i).toNat)  oM).lo
 refine⟨.inr ⟨oM,oM,i,oM,h1,oM⟩,fun i' hi g1 g2=>?_⟩
 rcases jo i' i with bG|BD
 ·have:=h.all i' bG g1 g2
  omega
 ·obtain rfl:i'=i:=oM
  omega
theorem DP.next{ds cr:List Int}{j:Nat}{c:Int}(hD:DP ds cr j)(nR:Ds ds)(hj:1≤j)(h:sR ds cr j ds.length c):DP ds (cr++ [c]) (j+1):=by
 have hl:=hD.1
 have e1:∀i,i<j→aa (cr++ [c]) i=aa cr i:=fun i hi=>vf  oM
 have e2:aa (cr++ [c]) j=c:=by simp [aa,←hl]
 refine⟨by simp [hl],fun q hq=>?_⟩
 rcases jo q j with bG|BD
 ·have g:=hD.2 q bG
  refine⟨by rw [e1 q bG];exact g.lo,by rw [e1 q bG];exact g.zero,fun hp=>?_,by rw [e1 q bG];exact g.Li⟩
  rw [e1 q bG]at hp⊢
  obtain⟨i,hi,h1,h2⟩:=g.Wy hp
  exact⟨i,hi,h1,by rw [e1 _  oM];exact h2⟩
 ·obtain rfl:q=j:=oM
  refine⟨?_,?_,?_,?_⟩
  ·rw [e2];rcases h.is with h|h<;>omega
  ·rw [e2];rcases h.is with h|h<;>omega
  ·rw [e2]
   intro hp
   rcases h.is with h|⟨_,_,i,hi,h1,h2⟩
   ·omega
   ·have:=(nR.1 i hi).1
    exact⟨i,hi,h1,by rw [e1 _  oM];exact h2⟩
  ·rw [e2]
   intro hm
   obtain⟨i,hi,Pp⟩:=nR.2
   have g:=(hD.2 (q-64)  oM).Li  oM
   have:=h.all i hi (by rw [Pp];omega) (by rw [Pp];exact g.1)
   rw [Pp]at this
   have e64:(64:Int).toNat=64:=rfl
   rw [e64]at this
   omega
def vg(cr:List Int)(n:Nat)(d:Int):Bool:=decide (d≤n)&&(aa cr (n-d.toNat)==aa cr n-1)
theorem Wz{α:Type} [Inhabited α]{p:α→Bool}:∀{l:List α} {i:Nat},i<l.length→p (aa l i)=true→bV.eI p l<l.length
 | [],i,h,_=>by simp at h
 |x::l,0,_,h=>by
  have h':p x=true:=h
  simp [bV.eI,h']
 |x::l,i+1,hi,h=>by
  by_cases hx:p x=true
  ·simp [bV.eI,hx]
  ·have:=Wz (l:=l) (i:=i) (by simpa using hi) h
   simp only [bV.eI,hx,fW]
   simp
   omega
structure Cc(vs:List (Int×Int))(cr:List Int)(n left:Nat)(g_:List (Int×Int)):Prop where
 le:left≤n
 ok:∀v∈g_,qQ v
 sum:qf (g_.map uV)+left=n
 len:g_.length+aa cr left=aa cr n
 nn:0≤aa cr left
theorem Cc.start{vs:List (Int×Int)}{cr:List Int}{n:Nat}(h:0≤aa cr n):Cc vs cr n n []:=⟨cm _,by simp,by simp [qf],by simp,h⟩
theorem Cc.Ht{vs:List (Int×Int)}{cr:List Int}{n left k:Nat}{g_:List (Int×Int)}(h:Cc vs cr n left g_)(hD:DP (vs.map uV) cr k)(hk:n<k)(hv:∀v∈vs,qQ v)(h0:0<left):
  ∃i:Nat,i<vs.length∧bV.lO (vg cr left) (vs.map uV)=i∧uV (aa vs i)≤left∧aa (vs.map uV) i=uV (aa vs i)∧Cc vs cr n (left-(uV (aa vs i)).toNat) (g_++ [aa vs i])∧qQ (aa vs i):=by
 have g:=hD.2 left (by have:=h.le;omega)
 have hz:=g.zero h0
 have hn:=h.nn
 obtain⟨i,hi,h1,h2⟩:=g.Wy  oM
 have bG:=Wz (p:=vg cr left) hi (by simp [vg,h1,h2])
 have iJ:bV.lO (vg cr left) (vs.map uV)≠-1:=by rw [bV.lO,aG bG];omega
 obtain⟨i',eA,he,_,hp⟩:=bV.VZ iJ
 rw [bD]at eA
 have WA:aa (vs.map uV) i'=uV (aa vs i'):=by simp [aa,jt,j4 eA]
 rw [WA]at hp
 simp only [vg,ft,iK,jr]at hp
 have cu:=hv _ (aB eA)
 have hb:=EK cu
 refine⟨i',eA,he,hp.1,WA,⟨by have:=h.le;omega,fun v mB=>?_,?_,?_,?_⟩,cu⟩
 ·rcases dJ.1 mB with h'|h'
  ·exact h.ok v h'
  ·rw [cS.1 h'];exact cu
 ·have:=h.sum
  rw [cB,Lf]
  simp only [sB,List.map_nil,qf]
  omega
 ·have:=h.len
  rw [aP,sC,hp.2]
  omega
 ·rw [hp.2];omega
def ka(n:Int)(es:List aN):Prop:=∀j,j<es.length→(aa es j).x.n.bg=1∧(aa es j).x.n.aH=n+1+j
theorem ka.nil{n:Int}:ka n []:=fun j h=>absurd h  sM 
theorem ka.qR{n:Int}{es:List aN}(h:ka n es){e:aN}{id lg d:Int}(he:Aj e.x id lg d)(eJ:id=n+es.length+1):ka n (es++ [e]):=by
 intro j hj
 rw [aP,sC]at hj
 by_cases bG:j<es.length
 ·rw [vf bG];exact h j bG
 ·obtain rfl:j=es.length:=oM
  have e1:aa (es++ [e]) es.length=e:=by simp [aa]
  rw [e1]
  exact⟨he.s1,by rw [he.aH,eJ];omega⟩
structure sS(n:Int)(es:List aN)(ts:List Tu.bb)(u:Int):Prop where
 vs:VS (es.map aN.x) ts u
 ids:ka n es
 rg:∀x∈es,Rg x.x
theorem sS.nil{n u:Int}(h:u=0):sS n [] [] u:=by subst h;exact⟨VS.nil,ka.nil,fun x hx=>by cases hx⟩
theorem sS.one{n u u':Int}{es:List aN}{ts:List Tu.bb}(h:sS n es ts u){e:aN}{id lg d:Int}(he:Aj e.x id lg d)(eJ:id=n+es.length+1)(hv:fp lg d)(hu:u'=u+fq lg d):sS n (es++ [e]) ts u':=by
 subst hu
 refine⟨?_,h.ids.qR he eJ,fun x hx=>?_⟩
 ·rw [cB]
  exact h.vs.one he.toiQ hv
 ·rcases dJ.1 hx with hx|hx
  ·exact h.rg x hx
  ·rw [cS.1 hx];exact he.rg
structure yx(n lg:Int)(es tr:List aN)(j:Nat):Prop where
 len:tr.length=j
 ids:ka n (es++tr)
 ev:∀i,i<j→∃id,Aj (aa tr i).x id lg 0
theorem yx.start{n lg u:Int}{es:List aN}{ts:List Tu.bb}(h:sS n es ts u):yx n lg es [] 0:=⟨rfl,by rw [gT];exact h.ids,fun i hi=>oM⟩
theorem yx.next{n lg:Int}{es tr:List aN}{j:Nat}(h:yx n lg es tr j){e:aN}{id d:Int}(he:Aj e.x id lg d)(hd:d=0)(eJ:id=n+(es++tr).length+1):yx n lg es (tr++ [e]) (j+1):=by
 subst hd
 refine⟨by rw [aP,h.len];rfl,by rw [←bP];exact h.ids.qR he eJ,fun i hi=>?_⟩
 by_cases bG:i<j
 ·rw [vf (by rw [h.len];exact bG)];exact h.ev i bG
 ·obtain rfl:i=j:=oM
  have e1:aa (tr++ [e]) i=e:=by simp [aa,←h.len]
  rw [e1];exact⟨id,he⟩
theorem yx.done{n lg u u':Int}{es tr:List aN}{ts:List Tu.bb}(h:yx n lg es tr 3)(hm:sS n es ts u)(hl:1≤lg∧lg≤4)(hu:u'=u+2*fq lg 0):sS n (es++tr) (ts++ [mJ es.length]) u':=by
 subst hu
 refine⟨?_,h.ids,fun x hx=>by
  rcases dJ.1 hx with hx|hx
  ·exact hm.rg x hx
  ·obtain⟨i,hi,rfl⟩:=fX hx
   obtain⟨id,g⟩:=h.ev i (by rw [←h.len];exact hi)
   rw [show aa tr i=tr[i] by simp [aa,hi]]at g;exact g.rg⟩
 obtain⟨a,b,c,rfl⟩:∃a b c,tr= [a,b,c]:=by
  have pj:=h.len
  rcases tr with _|⟨a,_|⟨b,_|⟨c,_|⟨d,t⟩⟩⟩⟩
  ·simp at pj
  ·simp at pj
  ·simp at pj
  ·exact⟨a,b,c,rfl⟩
  ·simp at pj
 obtain⟨i1,h1⟩:=h.ev 0  oM
 obtain⟨i2,h2⟩:=h.ev 1  oM
 obtain⟨i3,h3⟩:=h.ev 2  oM
 have e1:aa [a,b,c] 0=a:=rfl
 have e2:aa [a,b,c] 1=b:=rfl
 have e3:aa [a,b,c] 2=c:=rfl
 rw [e1]at h1
 rw [e2]at h2
 rw [e3]at h3
 have g:=VS.agD hm.vs h1.toiQ h2.toiQ h3.toiQ hl
 rw [bD]at g
 have e4:(es++ [a,b,c]).map aN.x=es.map aN.x++ [a.x,b.x,c.x]:=by simp
 rw [e4]
 exact g
theorem WB{a d:Int}(ha:1≤a∧a≤4)(hd:0≤d∧d≤1):fp a d∧∃k:Nat,fq a d=60480*k∧1≤k∧k≤48:=by
 have h1:a=1∨a=2∨a=3∨a=4:=oM
 have h2:d=0∨d=1:=oM
 refine⟨by unfold fp;omega,?_⟩
 rcases h1 with rfl|rfl|rfl|rfl<;>rcases h2 with rfl|rfl
 ·exact⟨16,by decide,by decide,by decide⟩
 ·exact⟨24,by decide,by decide,by decide⟩
 ·exact⟨8,by decide,by decide,by decide⟩
 ·exact⟨12,by decide,by decide,by decide⟩
 ·exact⟨4,by decide,by decide,by decide⟩
 ·exact⟨6,by decide,by decide,by decide⟩
 ·exact⟨2,by decide,by decide,by decide⟩
 ·exact⟨3,by decide,by decide,by decide⟩
def oy(st id:Int):aN:=⟨⟨⟨st,id,3,0,0,0,0,0,0,0⟩, [], [], []⟩,⟨none,0,none,0,none,0⟩⟩
def sT(id:Int):aN:=⟨⟨⟨1,id,3,0,0,0,0,0,0,0⟩, [], [], []⟩,⟨none,0,none,0,none,0⟩⟩
def Ps(id:Int)(v:Int×Int):aN:=⟨⟨⟨1,id,2,v.1,v.2,0,0,0,0,0⟩, [], [], []⟩,⟨none,0,none,0,none,0⟩⟩
theorem WC{id:Int}{v:Int×Int}:Aj (Ps id v).x id v.1 v.2:=Ha (.inl rfl)
theorem ahf{id:Int}(h:0≤id∧id≤1073741824):gx (sT id).x=0:=by
 have eJ:lN (sT id).x.n:=by unfold lN sT;simp only;omega
 have hs:jR (sT id).x (gZ (sT id).x):=by
  rw [gZ,aG (show eP (sT id).x.n.bh from(by unfold eP;omega:eP (3:Int)))]
  simp [jR,sT,iw,tQ]
 rw [yd eJ (show¬((3:Int)<1∨4<(3:Int)) by decide) hs (fun g=>g.1 rfl) (fun g=>absurd g.1 (show¬(3:Int)=1 by decide)),OW (by unfold u6 sT;simp)]
def aW.val(v:aW):Value:= .agg v.enc.toArray
structure jB(v:aW)(n a:Int):Prop where
 e:yq v n
 ids:ka a v.es
 len:0<v.es.length∧v.es.length≤56
 ev:∀x∈v.es,(∃id,x.x=(sT id).x)∨∃id lg d,iQ x.x id lg d∧fp lg d
 rg:∀x∈v.es,Rg x.x
theorem jB.aQ{n a id:Int}{E:Option Addr}{ec:Nat}(eJ:0≤a∧a≤1000000)(he:id=a+1):jB ⟨[sT id], [],E,ec,none,0⟩ n a:=by
 subst he
 refine⟨.inl ⟨_,rfl,rfl,rfl,?_,?_⟩,fun j hj=>?_,by simp,fun x hx=> .inl ⟨a+1,?_⟩,fun x hx=>by rw [cS.1 hx];exact⟨fun h hh=>(by cases hh),fun g hg=>(by cases hg)⟩⟩
 ·exact ahf  oM
 ·exact⟨gA _,gA _,gA _,(show(0:Int)≤9223372036854775807 by decide)⟩
 ·obtain rfl:j=0:=by simpa using hj
  exact⟨rfl,by show a+1=a+1+(0:Nat);omega⟩
 ·rw [cS.1 hx]
theorem jB.of{n a u:Int}{es:List aN}{ts:List Tu.bb}{E T:Option Addr}{ec tc:Nat}(h:sS a es ts u)(hu:u=n)(ha:0≤a∧a≤1000000)(hl:0<es.length∧es.length≤56)(ht:ts.length≤16)(htc:ts.length≤tc):jB ⟨es,ts,E,ec,T,tc⟩ n a:=by
 subst hu
 have qg:∀x∈es,∃id lg d,iQ x.x id lg d∧fp lg d∧0≤id∧id≤1073741824:=fun x hx=>by
  obtain⟨j,hj,rfl⟩:=fX hx
  obtain⟨id,lg,d,h1,h2⟩:=h.vs.ev j (by simpa using hj)
  have e1:aa (es.map aN.x) j=es[j].x:=by simp [aa,hj]
  have e2:aa es j=es[j]:=by simp [aa,hj]
  rw [e1]at h1
  have:=(h.ids j hj).2
  rw [e2,h1.aH]at this
  exact⟨id,lg,d,h1,h2,oM,oM⟩
 refine⟨.inr ⟨h.vs,fun x hx=>?_,hl.1,by have:=hl.2;show es.length≤128;omega,ht,htc⟩,h.ids,hl,fun x hx=> .inr ?_,h.rg⟩
 ·obtain⟨id,lg,d,h1,h2,h3,h4⟩:=qg x hx
  exact h1.tS ⟨h3,h4⟩ h2
 ·obtain⟨id,lg,d,h1,h2,_⟩:=qg x hx
  exact⟨id,lg,d,h1,h2⟩
namespace Hr
theorem cN.eq{a b:ak}(h:a=b):cN a b:=by subst h;exact .refl
theorem ar.Hu{a b c:ak}{rs l:List ak}:ar (a::b::c:: .aT rs::l) (.aT (rs++ [a,b,c])::l):=by
 have h1:ar (a::b::c:: .aT rs::l) (.aT rs::a::b::c::l):= .aR (wk (a:=ak.aT rs) (l₁:= [a,b,c]) (l₂:=l))
 refine h1.trans (.trans .tJ ?_)
 rw [show rs++a::b::c::l=(rs++ [a,b,c])++l from by simp]
 exact .close_
def ak.map(b:Nat)(es:List MapEntry)(ck:Nat):ak:=
 .any (fun k=>b=k) (fun w=>w.heap[b]?=some (.map es.toArray ck)) (fun w h k hk=>by subst hk;exact tG h) (fun w w' h hk=>(hk b rfl).trans h)
end Hr
section
namespace Hr
open Classical in
noncomputable def nY(k:Value):List MapEntry→Nat→Option (Nat×Value)
 | [],_=>none
 |e::es,i=>if e.key=k then some (i,e.val)else nY k es (i+1)
structure AF(P:Program)(kt:TypeId)(K:Value→Prop):Prop where
 tS:∀{k:Value},K k→∀(em:Bool) (w:World),(Instr.checkKey em 10000 kt k).run P w= .ok () w
 LS:∀{k:Value} {es:List MapEntry},K k→(∀x∈es,K x.key)→∀w:World,(Instr.findKey kt k es).run P w= .ok (nY k es 0) w
theorem Xy{P:Program}{kt:TypeId}{K:Value→Prop}(heq:∀a b,K a→K b→∀w,∃r:Bool,(Op.equal kt a b).run P w= .ok r w∧(r=true↔a=b)){k:Value}(hk:K k)(w:World):
  ∀(es:List MapEntry) (i:Nat),(∀x∈es,K x.key)→(Instr.findAsking kt k es i).run P w= .ok (nY k es i) w
 | [],i,_=>by simp [Instr.findAsking,nY]
 |e::es,i,h=>by
  obtain⟨r,hr,Xz⟩:=heq k e.key hk (h e sM) w
  have ih:=Xy heq hk w es (i+1) (fun x hx=>h x (by simp [hx]))
  cases r with
  |true=>rw [nY,aG (Xz.1 rfl).symm];simp [Instr.findAsking,hr,Result.andThen]
  |false=>
   have iJ:e.key≠k:=fun q=>by have:=Xz.2 q.symm;cases this
   rw [nY,ay iJ]
   simp [Instr.findAsking,hr,Result.andThen,ih]
theorem P8{P:Program}{kt:TypeId}{K:Value→Prop}(hw:(match P.underlying kt with|some (.array _ _)|some (.struct _)=>true|_=>false)=true)
  (hc:∀k,K k→∀(em:Bool) (w:World),(Instr.checkKey em 10000 kt k).run P w= .ok () w)
  (heq:∀a b,K a→K b→∀w,∃r:Bool,(Op.equal kt a b).run P w= .ok r w∧(r=true↔a=b)):AF P kt K:=
 ⟨fun hk=>hc _ hk,fun hk hks w=>by rw [run_findKey_eq w hw];exact Xy heq hk w _ 0 hks⟩
def LU(X:Nat→Prop)(W:World)(S:St)(b:Nat)(es:List MapEntry)(ck:Nat):Prop:=∀w,aU X W w→Mem X W S.mem w→(ak.map b es ck).holds w
section
variable{P:Program}{X:Nat→Prop}{W:World}{n:Nat}{S:St}{ah:List (Nat×Value)}{mem:List ak}{o:Oper}{a:Act}{w:World}{d:Tmp}{x y z:Operand}{t kt et:TypeId}{K:Value→Prop}
theorem LU.ae{b ck:Nat}{es:List MapEntry}{l:List ak}(h:ag S.mem (ak.map b es ck) l):LU X W S b es ck:=fun _ _ hm=>h.holds hm
theorem XA{b ck:Nat}{es:List MapEntry}(h:(ak.map b es ck).holds W)(hk:aU nX W w):(ak.map b es ck).holds w:=by
 have h':W.heap[b]?=some (.map es.toArray ck):=h
 show w.heap[b]?=some (.map es.toArray ck)
 exact(hk.block b (tG h') (by simp [nX])).trans h'
theorem LU.aq{b ck:Nat}{es:List MapEntry}(h:(ak.map b es ck).holds W):LU nX W S b es ck:=fun _ hk _=>XA h hk
end
end Hr
end
end Go.Proofs.YtdahjfmmndjcpaaGreat
