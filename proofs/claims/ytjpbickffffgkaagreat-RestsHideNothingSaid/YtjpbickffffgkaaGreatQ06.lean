/- Part. -/
import Derived.Test.YtjpbickffffgkaaGreatQ04
import Derived.Test.YtjpbickffffgkaaGreatQ05
set_option linter.unusedSimpArgs false
set_option linter.unusedVariables false
set_option maxHeartbeats 40000000
set_option maxRecDepth 100000
namespace Go.Proofs.YtjpbickffffgkaaGreat
open Go Go.RowKit Hr Go.Proofs.Tryz
namespace Tu
def qs(ts:List bj):Prop:=∃n:Int,n≤128∧qp n ts ts.length
theorem qs.of{ts:List bj}{n:Int}(h:oC ts n=0):qs ts:=⟨n,(O6 h).2.1,(O6 h).2.2.2⟩
theorem qs.VT{ts:List bj}(h:qs ts){k:Nat}(hk:k<ts.length):vx (aa ts k)∧1≤(aa ts k).oB∧(aa ts k).oB≤32∧1≤(aa ts k).normal∧(aa ts k).normal≤32:=by
 obtain⟨n,hn,hg⟩:=h
 have hp:=(K8 (hg k hk)).1
 refine⟨K_ hp hn,?_⟩
 unfold lZ at hp;omega
def r8(ts:List bj)(e:Int)(k:Nat):Nat:=((ts.take k).filter fun u=>kT u e).length
theorem VU{ts:List bj}{e:Int}{k:Nat}(hk:k<ts.length)(h:kT (aa ts k) e=true):r8 ts e (k+1)=r8 ts e k+1:=by
 rw [r8,q_ hk,vi];simp [r8,h]
theorem VV{ts:List bj}{e:Int}{k:Nat}(hk:k<ts.length)(h:kT (aa ts k) e=false):r8 ts e (k+1)=r8 ts e k:=by
 rw [r8,q_ hk,vi];simp [r8,h]
theorem Pa{ts:List bj}(hv:qs ts)(e:Int):∀k,k≤ts.length→r8 ts e k≤3
 |0,_=>by simp [r8]
 |k+1,hk=>by
  cases h:kT (aa ts k) e with
  |false=>rw [VV  oM h];exact Pa hv e k  oM
  |true=>
   rw [VU  oM h]
   obtain⟨n,hn,hg⟩:=hv
   have hb:=(K8 (hg k  oM)).2.2
   have h2:r8 ts e k≤(mB ts k (aa ts k).first).length:=by
    refine agq fun u _ hu=>?_
    rw [HI]at hu h
    simp;omega
   by_cases h3:3≤(mB ts k (aa ts k).first).length
   ·exact absurd (.inl h3) hb
   ·omega
def NN(ts:List bj)(e:Int):Nat→Nat
 |0=>1
 |k+1=>if kT (aa ts k) e then NN ts e k*(aa ts k).normal.toNat else NN ts e k
def DD(ts:List bj)(e:Int):Nat→Nat
 |0=>1
 |k+1=>if kT (aa ts k) e then DD ts e k*(aa ts k).oB.toNat else DD ts e k
theorem HJ{ts:List bj}(hv:qs ts)(e:Int):∀k,k≤ts.length→1≤NN ts e k∧NN ts e k≤32^r8 ts e k∧1≤DD ts e k∧DD ts e k≤32^r8 ts e k
 |0,_=>by simp [NN,DD,r8]
 |k+1,hk=>by
  obtain⟨h1,h2,h3,h4⟩:=HJ hv e k  oM
  obtain⟨_,p1,p2,p3,p4⟩:=hv.VT (show k<ts.length by omega)
  cases h:kT (aa ts k) e with
  |false=>rw [VV  oM h,NN,DD,aD (by simp [h]),aD (by simp [h])];exact⟨h1,h2,h3,h4⟩
  |true=>
   rw [VU  oM h,NN,DD,aG h,aG h,Nat.pow_succ]
   exact⟨Nat.mul_pos h1  oM,Nat.mul_le_mul h2  oM,Nat.mul_pos h3  oM,Nat.mul_le_mul h4  oM⟩
theorem VW{k:Nat}(h:k≤3):32^k≤32768:=by
 have:32^k≤32^3:=Nat.pow_le_pow_right  oM h
 exact this
theorem Pb{ts:List bj}(hv:qs ts)(e:Int){k:Nat}(hk:k≤ts.length):1≤NN ts e k∧NN ts e k≤32768:=⟨(HJ hv e k hk).1,j3 (HJ hv e k hk).2.1 (VW (Pa hv e k hk))⟩
theorem Pc{ts:List bj}(hv:qs ts)(e:Int){k:Nat}(hk:k≤ts.length):1≤DD ts e k∧DD ts e k≤32768:=⟨(HJ hv e k hk).2.2.1,j3 (HJ hv e k hk).2.2.2 (VW (Pa hv e k hk))⟩
theorem Lc{ts:List bj}{e:Int}{k:Nat}(h:kT (aa ts k) e=false):NN ts e (k+1)=NN ts e k:=by rw [NN,aD (by simp [h])]
theorem Ld{ts:List bj}{e:Int}{k:Nat}(h:kT (aa ts k) e=false):DD ts e (k+1)=DD ts e k:=by rw [DD,aD (by simp [h])]
def fm(ts:List bj)(e:Int):Nat→Nat×Nat
 |0=>(1,1)
 |k+1=>if kT (aa ts k) e then
   let a:=(fm ts e k).1*(aa ts k).normal.toNat
   let b:=(fm ts e k).2*(aa ts k).oB.toNat
   (a/Nat.gcd a b,b/Nat.gcd a b)else fm ts e k
theorem Pd{ts:List bj}{e:Int}{k:Nat}(h:kT (aa ts k) e=false):fm ts e (k+1)=fm ts e k:=by rw [fm,aD (by simp [h])]
theorem Pe{ts:List bj}{e:Int}{k:Nat}(h:kT (aa ts k) e=true):fm ts e (k+1)=
  ((fm ts e k).1*(aa ts k).normal.toNat/Nat.gcd ((fm ts e k).1*(aa ts k).normal.toNat) ((fm ts e k).2*(aa ts k).oB.toNat),
   (fm ts e k).2*(aa ts k).oB.toNat/Nat.gcd ((fm ts e k).1*(aa ts k).normal.toNat) ((fm ts e k).2*(aa ts k).oB.toNat)):=by rw [fm,aG h]
theorem Pf{ts:List bj}(hv:qs ts)(e:Int):∀k,k≤ts.length→∃g,1≤g∧NN ts e k=g*(fm ts e k).1∧DD ts e k=g*(fm ts e k).2∧Nat.gcd (fm ts e k).1 (fm ts e k).2=1
 |0,_=>⟨1,oM,rfl,rfl,by simp [fm]⟩
 |k+1,hk=>by
  obtain⟨g,h1,h2,h3,h4⟩:=Pf hv e k  oM
  cases h:kT (aa ts k) e with
  |false=>rw [Lc h,Ld h,Pd h];exact⟨g,h1,h2,h3,h4⟩
  |true=>
   have b1:=(Pb hv e (show k+1≤ts.length from hk)).1
   have b2:=(Pc hv e (show k+1≤ts.length from hk)).1
   rw [NN,aG h,h2]at b1
   rw [DD,aG h,h3]at b2
   rw [Pe h,NN,aG h,DD,aG h,h2,h3]
   generalize hA:(fm ts e k).1*(aa ts k).normal.toNat=a
   generalize hB:(fm ts e k).2*(aa ts k).oB.toNat=b
   rw [Nat.mul_assoc,hA]at b1
   have ha:0<a:=by
    rcases Nat.eq_zero_or_pos a with h0|h0
    ·rw [h0]at b1;omega
    ·exact h0
   have hd:0<Nat.gcd a b:=Nat.gcd_pos_of_pos_left b ha
   refine⟨g*Nat.gcd a b,Nat.mul_pos h1 hd,?_,?_,?_⟩
   ·rw [Nat.mul_assoc g,hA,Nat.mul_assoc,Nat.mul_div_cancel' (Nat.gcd_dvd_left a b)]
   ·rw [Nat.mul_assoc g,hB,Nat.mul_assoc,Nat.mul_div_cancel' (Nat.gcd_dvd_right a b)]
   ·exact Nat.gcd_div_gcd_div_gcd_of_pos_left ha
theorem VX{ts:List bj}(hv:qs ts)(e:Int){k:Nat}(hk:k≤ts.length):1≤(fm ts e k).1∧(fm ts e k).1≤32768∧1≤(fm ts e k).2∧(fm ts e k).2≤32768:=by
 obtain⟨g,h1,h2,h3,-⟩:=Pf hv e k hk
 have n1:=Pb hv e hk
 have n2:=Pc hv e hk
 rw [h2]at n1
 rw [h3]at n2
 have key:∀p:Nat,1≤g*p∧g*p≤32768→1≤p∧p≤32768:=by
  intro p hp
  have:p≤g*p:=Nat.le_mul_of_pos_left p h1
  refine⟨?_,oM⟩
  rcases Nat.eq_zero_or_pos p with h0|h0
  ·rw [h0]at hp;omega
  ·exact h0
 exact⟨(key _ n1).1,(key _ n1).2,(key _ n2).1,(key _ n2).2⟩
theorem VY{p:Nat}{x:Int}(hp:p≤32768)(hx:1≤x∧x≤32):0≤(p:Int)*x∧(p:Int)*x≤1048576:=by
 refine⟨Int.mul_nonneg  oM oM,?_⟩
 have h1:(p:Int)*x≤32768*x:=Ox  oM oM
 omega
theorem VZ{x:Int}{p:Nat}(hx:0≤x∧x≤7741440)(hp:p≤32768):0≤x*(p:Int)∧x*(p:Int)≤253671505920:=by
 refine⟨Int.mul_nonneg  oM oM,?_⟩
 have h1:x*(p:Int)≤7741440*(p:Int):=Ox  oM oM
 omega
def ia(ts:List bj)(e x:Int):Int×Int:=if x<0∨7741440<x then(0,2)else if x*NN ts e ts.length%DD ts e ts.length≠0 then(0,16)else(x*NN ts e ts.length/DD ts e ts.length,0)
theorem Pg{ts:List bj}(hv:qs ts)(e x:Int):(x*NN ts e ts.length%DD ts e ts.length=0↔x*((fm ts e ts.length).1:Int)%((fm ts e ts.length).2:Int)=0)∧
  x*NN ts e ts.length/DD ts e ts.length=x*((fm ts e ts.length).1:Int)/((fm ts e ts.length).2:Int):=by
 obtain⟨g,h1,h2,h3,-⟩:=Pf hv e ts.length (cE _)
 rw [h2,h3,GU,GU,show x*((g:Int)*((fm ts e ts.length).1:Int))=(g:Int)*(x*((fm ts e ts.length).1:Int))from by rw [←Int.mul_assoc,Int.mul_comm x,Int.mul_assoc]]
 rw [Int.mul_emod_mul_of_pos _ _  oM,Int.mul_ediv_mul_of_pos _ _  oM]
 refine⟨⟨fun h=>?_,fun h=>by rw [h];simp⟩,rfl⟩
 rcases Int.mul_eq_zero.1 h with h|h
 ·omega
 ·exact h
theorem V0{ts:List bj}{e x:Int}(h:x<0∨7741440<x):ia ts e x=(0,2):=aG h
theorem agr{ts:List bj}{e x:Int}(h:0≤x∧x≤7741440)(hm:x*NN ts e ts.length%DD ts e ts.length≠0):ia ts e x=(0,16):=by rw [ia,aD  oM,aG hm]
theorem Ph{ts:List bj}{e x:Int}(h:0≤x∧x≤7741440)(hm:x*NN ts e ts.length%DD ts e ts.length=0):ia ts e x=(x*NN ts e ts.length/DD ts e ts.length,0):=by rw [ia,aD  oM,aD (by simp [hm])]
theorem ags{ts:List bj}(hv:qs ts)(e x:Int):0≤(ia ts e x).1∧(ia ts e x).1≤253671505920:=by
 unfold ia
 by_cases h:x<0∨7741440<x
 ·rw [aG h];simp
 ·rw [aD h]
  by_cases h2:x*NN ts e ts.length%DD ts e ts.length≠0
  ·rw [aG h2];simp
  ·rw [aD h2]
   have h3:=VZ (x:=x) (p:=NN ts e ts.length)  oM (Pb hv e (cE _)).2
   have h4:=(Pc hv e (cE ts.length)).1
   dsimp only
   refine⟨Kn h3.1  oM,Int.le_trans (Ko _ h3.1) h3.2⟩
def qt(ts:List bj)(w:List Int)(k:Nat):List Int:=(List.range k).map fun i:Nat=>(ia ts (i:Int) (aa w i)).1
def Le(ts:List bj)(w:List Int):Int:=dE (fun i:Nat=>(ia ts (i:Int) (aa w i)).2) w.length 0
def yF(ts:List bj)(w:List Int):List Int×Int:=if oC ts w.length≠0 then([],oC ts w.length)else if Le ts w≠0 then([],Le ts w)else(qt ts w w.length,0)
theorem V1{ts:List bj}{w:List Int}(h:oC ts w.length≠0):yF ts w=([],oC ts w.length):=aG h
theorem agt{f:Nat→Int}{n k:Nat}(hk:k<n)(h:∀j,j<k→f j=0)(h0:f k≠0):dE f n 0=f k:=by
 have key:∀i,i≤k→dE f n 0=dE f (n-i) i:=by
  intro i
  induction i with
  |zero=>intro _;rfl
  |succ i ih=>intro hi;rw [ih  oM,Ch  oM (h i  oM)]
 rw [key k (cE _),AD hk h0]
theorem V2{ts:List bj}{w:List Int}{k:Nat}(hc:oC ts w.length=0)(hk:k<w.length)(h:∀j,j<k→(ia ts (j:Int) (aa w j)).2=0)(h0:(ia ts (k:Int) (aa w k)).2≠0):yF ts w=([],(ia ts (k:Int) (aa w k)).2):=by
 have e:Le ts w=(ia ts (k:Int) (aa w k)).2:=agt hk h h0
 rw [yF,aD (by simp [hc]),e,aG h0]
theorem Pj{ts:List bj}{w:List Int}(hc:oC ts w.length=0)(h:∀j,j<w.length→(ia ts (j:Int) (aa w j)).2=0):yF ts w=(qt ts w w.length,0):=by
 have e:Le ts w=0:=OZ fun j _ hj=>h j  oM
 rw [yF,aD (by simp [hc]),aD (by simp [e])]
theorem Ck(ts:List bj)(w:List Int)(k:Nat):qt ts w (k+1)=qt ts w k++ [(ia ts (k:Int) (aa w k)).1]:=by simp [qt,qY]
theorem ER(ts:List bj)(w:List Int)(k:Nat):(qt ts w k).length=k:=by simp [qt]
theorem agu{P:Nat→Prop}{k:Nat}(h:∀j,j<k→P j)(h0:P k):∀j,j<k+1→P j:=fun j hj=>by
 by_cases e:j=k
 ·subst e;exact h0
 ·exact h j  oM
def ib:List Int→Int
 | []=>0
 |x::l=>x+ib l
theorem HK:∀(l l':List Int),ib (l++l')=ib l+ib l'
 | [],l'=>by simp [ib]
 |x::l,l'=>by rw [BX,ib,ib,HK l l'];omega
theorem ES{l:List Int}{k:Nat}(h:k<l.length):ib (l.take (k+1))=ib (l.take k)+aa l k:=by
 rw [q_ h,HK];simp [ib]
theorem HL{l:List Int}(hb:∀x∈l,0≤x∧x≤253671505920):∀k,k≤l.length→0≤ib (l.take k)∧ib (l.take k)≤(k:Int)*253671505920
 |0,_=>by simp [ib]
 |k+1,h=>by
  rw [ES  oM]
  have h1:=HL hb k  oM
  have h2:=hb _ (aI (show k<l.length by omega))
  omega
theorem ahB{x m:Int}(hx:0≤x∧x≤253671505920)(hm:1≤m∧m≤16):0≤x*m∧x*m≤4058744094720:=by
 refine⟨Int.mul_nonneg hx.1  oM,?_⟩
 have h1:x*m≤253671505920*m:=Ox hx.2  oM
 omega
end Tu
structure aW where
 x:bn
 p:l6
instance:Inhabited aW:=⟨⟨bn.zero,⟨none,0,none,0,none,0⟩⟩⟩
def aW.enc(e:aW):List Value:=Lo e.x e.p
def aW.rd(w:World)(e:aW):Prop:=kD w e.x e.p
def aW.ag(e:aW):List an:= [.ag 149 5 e.p.HA e.x.hs.length e.p.hc (e.x.hs.map Hd.enc),.ag 212 5 e.p.GA e.x.gs.length e.p.gc (e.x.gs.map Gr.enc),.ag 249 2 e.p.LA e.x.ls.length e.p.lc (e.x.ls.map eG.enc)]
structure bF where
 es:List aW
 ts:List Tu.bj
 EA:Option Addr
 ec:Nat
 TA:Option Addr
 tc:Nat
instance:Inhabited bF:=⟨⟨[], [],none,0,none,0⟩⟩
def bF.enc(v:bF):List Value:= [.slice v.EA v.es.length v.ec,.slice v.TA v.ts.length v.tc]
def bF.ag(v:bF):List an:= .ag 143 13 v.EA v.es.length v.ec (v.es.map aW.enc):: .ag 196 4 v.TA v.ts.length v.tc (v.ts.map Tu.bj.enc)::v.es.flatMap aW.ag
structure bF.rd(w:World)(v:bF):Prop where
 e:Rd w v.EA 13 (v.es.map aW.enc)
 t:Rd w v.TA 4 (v.ts.map Tu.bj.enc)
 r:∀x∈v.es,x.rd w
structure jX where
 cA:Int
 xt:Int
instance:Inhabited jX:=⟨⟨0,0⟩⟩
def jX.enc(c:jX):List Value:= [.int .i64 c.cA,.int .i64 c.xt]
structure bA where
 cl:List jX
 vs:List bF
 CA:Option Addr
 cc:Nat
 VA:Option Addr
 vc:Nat
instance:Inhabited bA:=⟨⟨[], [],none,0,none,0⟩⟩
def bA.enc(c:bA):List Value:= [.slice c.CA c.cl.length c.cc,.slice c.VA c.vs.length c.vc]
def bA.ag(c:bA):List an:= .ag 263 2 c.CA c.cl.length c.cc (c.cl.map jX.enc):: .ag 133 2 c.VA c.vs.length c.vc (c.vs.map bF.enc)::c.vs.flatMap bF.ag
structure bA.rd(w:World)(y:bA):Prop where
 c:Rd w y.CA 2 (y.cl.map jX.enc)
 v:Rd w y.VA 2 (y.vs.map bF.enc)
 r:∀x∈y.vs,x.rd w
structure kE where
 cA:Int
 yK:Int
 ahy:Bool
instance:Inhabited kE:=⟨⟨0,0,false⟩⟩
def kE.enc(t:kE):List Value:= [.int .i64 t.cA,.int .i64 t.yK,.bool t.ahy]
structure je where
 ju:Int
 nR:Int
 g0:Int
 g1:Int
 g2:Int
 g3:Int
 g4:Int
 g5:Int
instance:Inhabited je:=⟨⟨0,0,0,0,0,0,0,0⟩⟩
def je.enc(t:je):List Value:= [.int .i64 t.ju,.int .i64 t.nR,.int .i64 t.g0,.int .i64 t.g1,.int .i64 t.g2,.int .i64 t.g3,.int .i64 t.g4,.int .i64 t.g5]
def je.val(t:je):Value:= .agg t.enc.toArray
structure Ls where
 bU:Int
 aL:Int
 met:je
 len:Int
 fg:Int
 start:Bool
 fp:Int
 pK:Int
 rf:Int
 rh:Int
 xu:Int
 Co:Int
 vC:ByteArray
instance:Inhabited Ls:=⟨⟨0,0,default,0,0,false,0,0,0,0,0,0,ByteArray.mk #[]⟩⟩
structure ao where
 n:Ls
 tm:List kE
 cs:List bA
 TA:Option Addr
 tc:Nat
 CA:Option Addr
 cc:Nat
instance:Inhabited ao:=⟨⟨default, [], [],none,0,none,0⟩⟩
def ao.enc(m:ao):List Value:= [.int .i64 m.n.bU,.int .i64 m.n.aL,.int .i64 m.n.met.ju,.int .i64 m.n.met.nR,.int .i64 m.n.met.g0,.int .i64 m.n.met.g1,.int .i64 m.n.met.g2,.int .i64 m.n.met.g3,.int .i64 m.n.met.g4,.int .i64 m.n.met.g5,.int .i64 m.n.len,.int .i64 m.n.fg,.bool m.n.start,.int .i64 m.n.fp,.int .i64 m.n.pK,.int .i64 m.n.rf,.int .i64 m.n.rh,.int .i64 m.n.xu,.int .i64 m.n.Co,.string m.n.vC,.slice m.TA m.tm.length m.tc,.slice m.CA m.cs.length m.cc]
def ao.val(m:ao):Value:= .agg m.enc.toArray
def ao.ag(m:ao):List an:= .ag 136 3 m.TA m.tm.length m.tc (m.tm.map kE.enc):: .ag 128 2 m.CA m.cs.length m.cc (m.cs.map bA.enc)::m.cs.flatMap bA.ag
structure ao.rd(w:World)(y:ao):Prop where
 t:Rd w y.TA 3 (y.tm.map kE.enc)
 c:Rd w y.CA 2 (y.cs.map bA.enc)
 r:∀x∈y.cs,x.rd w
structure eP where
 bU:Int
 aL:Int
 xt:Int
instance:Inhabited eP:=⟨⟨0,0,0⟩⟩
def eP.enc(s:eP):List Value:= [.int .i64 s.bU,.int .i64 s.aL,.int .i64 s.xt]
structure bp where
 bU:Int
 aL:Int
 name:ByteArray
 steps:Int
 semis:Int
 st:List eP
 SA:Option Addr
 sc:Nat
instance:Inhabited bp:=⟨⟨0,0,ByteArray.mk #[],0,0, [],none,0⟩⟩
def bp.enc(p:bp):List Value:= [.int .i64 p.bU,.int .i64 p.aL,.string p.name,.int .i64 p.steps,.int .i64 p.semis,.slice p.SA p.st.length p.sc]
def bp.ag(p:bp):List an:= [.ag 72 3 p.SA p.st.length p.sc (p.st.map eP.enc)]
def bp.rd(w:World)(p:bp):Prop:=Rd w p.SA 3 (p.st.map eP.enc)
structure bu where
 bU:Int
 aL:Int
deriving DecidableEq
instance:Inhabited bu:=⟨⟨0,0⟩⟩
def bu.enc(i:bu):List Value:= [.int .i64 i.bU,.int .i64 i.aL]
def bu.val(i:bu):Value:= .agg i.enc.toArray
structure d_ where
 id:bu
 bo:Int
 lG:bu
 di:bu
instance:Inhabited d_:=⟨⟨default,0,default,default⟩⟩
def d_.enc(s:d_):List Value:= [.int .i64 s.id.bU,.int .i64 s.id.aL,.int .i64 s.bo,.int .i64 s.lG.bU,.int .i64 s.lG.aL,.int .i64 s.di.bU,.int .i64 s.di.aL]
structure ax where
 eD:ByteArray
 iK:Bool
 ps:List bp
 ms:List ao
 sp:List d_
 cN:List bu
 PA:Option Addr
 pc:Nat
 MA:Option Addr
 mc:Nat
 SA:Option Addr
 sc:Nat
 LA:Option Addr
 lc:Nat
def ax.enc(s:ax):List Value:= [.string s.eD,.bool s.iK,.slice s.PA s.ps.length s.pc,.slice s.MA s.ms.length s.mc,.slice s.SA s.sp.length s.sc,.slice s.LA s.cN.length s.lc]
def ax.val(s:ax):Value:= .agg s.enc.toArray
structure ax.rd(w:World)(y:ax):Prop where
 p:Rd w y.PA 6 (y.ps.map bp.enc)
 pr:∀x∈y.ps,x.rd w
 m:Rd w y.MA 22 (y.ms.map ao.enc)
 mr:∀x∈y.ms,x.rd w
 s:Rd w y.SA 7 (y.sp.map d_.enc)
 l:Rd w y.LA 2 (y.cN.map bu.enc)
section
variable{w w':World}
theorem aW.rd.aC{e:aW}(h:e.rd w)(hk:bb nX w w'):e.rd w':=kD.aC h hk
theorem bF.rd.aC{v:bF}(h:v.rd w)(hk:bb nX w w'):v.rd w':=⟨h.e.aC hk,h.t.aC hk,fun x hx=>(h.r x hx).aC hk⟩
theorem bA.rd.aC{c:bA}(h:c.rd w)(hk:bb nX w w'):c.rd w':=⟨h.c.aC hk,h.v.aC hk,fun x hx=>(h.r x hx).aC hk⟩
theorem ao.rd.aC{m:ao}(h:m.rd w)(hk:bb nX w w'):m.rd w':=⟨h.t.aC hk,h.c.aC hk,fun x hx=>(h.r x hx).aC hk⟩
theorem bp.rd.aC{p:bp}(h:p.rd w)(hk:bb nX w w'):p.rd w':=Rd.aC h hk
theorem ax.rd.aC{s:ax}(h:s.rd w)(hk:bb nX w w'):s.rd w':=
 ⟨h.p.aC hk,fun x hx=>(h.pr x hx).aC hk,h.m.aC hk,fun x hx=>(h.mr x hx).aC hk,h.s.aC hk,h.l.aC hk⟩
end
def fq(w:World)(rs:List an):Prop:=∀r∈rs,r.holds w
theorem fq.eY{w:World}{a b:List an}(h:fq w (a++b)):fq w a∧fq w b:=⟨fun r hr=>h r (by simp [hr]),fun r hr=>h r (by simp [hr])⟩
theorem fq.pL{w:World}{α:Type}{l:List α}{f:α→List an}(h:fq w (l.flatMap f)):∀x∈l,fq w (f x):=fun x hx r hr=>h r (j4.2 ⟨x,hx,hr⟩)
theorem aW.bQ{w:World}{e:aW}(h:fq w e.ag):e.rd w:=⟨Hr.bQ (h _ (eA ..)),Hr.bQ (h _ (gR _ (eA ..))),Hr.bQ (h _ (gR _ (gR _ (eA ..))))⟩
theorem fq.PI{w:World}{a b:an}{l:List an}(h:fq w (a::b::l)):fq w l:=fun r hr=>h r (gR _ (gR _ hr))
theorem bF.bQ{w:World}{v:bF}(h:fq w v.ag):v.rd w:=
 ⟨Hr.bQ (h _ (eA ..)),Hr.bQ (h _ (gR _ (eA ..))),fun x hx=>aW.bQ (fq.pL h.PI x hx)⟩
theorem bA.bQ{w:World}{c:bA}(h:fq w c.ag):c.rd w:=
 ⟨Hr.bQ (h _ (eA ..)),Hr.bQ (h _ (gR _ (eA ..))),fun x hx=>bF.bQ (fq.pL h.PI x hx)⟩
theorem ao.bQ{w:World}{m:ao}(h:fq w m.ag):m.rd w:=
 ⟨Hr.bQ (h _ (eA ..)),Hr.bQ (h _ (gR _ (eA ..))),fun x hx=>bA.bQ (fq.pL h.PI x hx)⟩
theorem bp.bQ{w:World}{p:bp}(h:fq w p.ag):p.rd w:=Hr.bQ (h _ (eA ..))
theorem dv{w:World}{rs:List an}(h:(an.aY rs).holds w):fq w rs:=h.1
namespace Hr
theorem ar.jv{a b l:List an}:ar (.aY a:: .aY b::l) (.aY (a++b)::l):=by
 refine .trans .sX (.trans ?_ (.trans (.close_ (rs:=a++b)) .refl))
 intro X W w h
 have h1:=(ar.trans (ar.aK (m':= .aY b::(a++l)) yt) (ar.trans .sX (ar.aK (m':=(a++b)++l) (by
  rw [←cj];exact List.perm_append_comm.append_right l)))) X W w h
 exact h1
theorem ar.EZ{a b l:List an}(h:a.Perm b):ar (.aY a::l) (.aY b::l):= .trans .sX (.trans (.aK (h.append_right l)) .close_)
theorem ar.focus{r:an}{rs a l:List an}(h:rs.Perm (r::a)):ar (.aY rs::l) (r:: .aY a::l):=by
 refine .trans (.EZ h) (.trans .sX ?_)
 show ar (r::(a++l)) _
 exact .cons .ak .refl .close_
theorem ar.HU{r:an}{rs a l:List an}(h:rs.Perm (r::a)):ar (r:: .aY a::l) (.aY rs::l):= .trans .gD (.EZ h.symm)
end Hr
theorem Lt{α:Type} [Inhabited α]{f:α→List an}:∀{l:List α} {i:Nat},i<l.length→∃a,(l.flatMap f).Perm (f (aa l i)++a)∧∀y,((l.set i y).flatMap f).Perm (f y++a)
 |x::l,0,_=>⟨l.flatMap f,.refl _,fun y=> .refl _⟩
 |x::l,i+1,h=>by
  obtain⟨a,h1,h2⟩:=Lt (l:=l) (i:=i) (by simpa using h)
  refine⟨f x++a,?_,fun y=>?_⟩
  ·show(f x++l.flatMap f).Perm _
   have e:aa (x::l) (i+1)=aa l i:=by simp [aa]
   rw [e,←cj]
   exact(h1.append_left _).trans (by rw [←cj];exact List.perm_append_comm.append_right _)
  ·show(f x++(l.set i y).flatMap f).Perm _
   rw [←cj]
   exact((h2 y).append_left _).trans (by rw [←cj];exact List.perm_append_comm.append_right _)
structure eI where
 steps:Int
 semis:Int
deriving DecidableEq
instance:Inhabited eI:=⟨⟨0,0⟩⟩
def eI.enc(i:eI):List Value:= [.int .i64 i.steps,.int .i64 i.semis]
def eI.val(i:eI):Value:= .agg i.enc.toArray
def ie:List eI:= [⟨0,0⟩,⟨0,0⟩,⟨1,2⟩,⟨5,9⟩,⟨4,7⟩,⟨-7,-12⟩]
theorem ahz{q:Nat}(h:q<6):([[.int .i64 0,.int .i64 0], [.int .i64 0,.int .i64 0], [.int .i64 1,.int .i64 2], [.int .i64 5,.int .i64 9], [.int .i64 4,.int .i64 7], [.int .i64 (-7),.int .i64 (-12)]]:List (List Value))[q]?=some (aa ie q).enc:=by
 have:q=0∨q=1∨q=2∨q=3∨q=4∨q=5:=oM
 rcases this with rfl|rfl|rfl|rfl|rfl|rfl<;>rfl
def rj:List je:= [⟨4,4,0,0,0,0,0,0⟩,⟨3,4,0,0,0,0,0,0⟩,⟨6,8,0,0,0,0,0,0⟩,⟨2,2,0,0,0,0,0,0⟩,⟨5,8,3,2,0,0,0,0⟩]
theorem ahA{q:Nat}(h:q<5):([[.int .i64 4,.int .i64 4,.int .i64 0,.int .i64 0,.int .i64 0,.int .i64 0,.int .i64 0,.int .i64 0], [.int .i64 3,.int .i64 4,.int .i64 0,.int .i64 0,.int .i64 0,.int .i64 0,.int .i64 0,.int .i64 0],
  [.int .i64 6,.int .i64 8,.int .i64 0,.int .i64 0,.int .i64 0,.int .i64 0,.int .i64 0,.int .i64 0], [.int .i64 2,.int .i64 2,.int .i64 0,.int .i64 0,.int .i64 0,.int .i64 0,.int .i64 0,.int .i64 0],
  [.int .i64 5,.int .i64 8,.int .i64 3,.int .i64 2,.int .i64 0,.int .i64 0,.int .i64 0,.int .i64 0]]:List (List Value))[q]?=some (aa rj q).enc:=by
 have:q=0∨q=1∨q=2∨q=3∨q=4:=oM
 rcases this with rfl|rfl|rfl|rfl|rfl<;>rfl
def je.gs(m:je):List Int:= [m.g0,m.g1,m.g2,m.g3,m.g4,m.g5]
def uz(l:List Int):Nat→Int
 |0=>0
 |k+1=>if 0<aa l k then uz l k+aa l k else uz l k
def xv(l:List Int):Nat→Nat
 |0=>0
 |k+1=>if 0<aa l k then xv l k+1 else xv l k
def rn(l:List Int)(k:Nat):Prop:=aa l k<0∨64<aa l k∨(0<aa l k∧k≠xv l k)
instance(l:List Int)(k:Nat):Decidable (rn l k):=by unfold rn;infer_instance
theorem WH(l:List Int):∀k,xv l k≤k
 |0=>cE _
 |k+1=>by have:=WH l k;rw [xv];split<;>omega
theorem WI{l:List Int}:∀k,(∀j,j<k→¬rn l j)→0≤uz l k∧uz l k≤64*k
 |0,_=>by rw [uz];omega
 |k+1,h=>by
  have h1:=WI k (fun j hj=>h j  oM)
  have h2:=h k  oM
  unfold rn at h2
  rw [uz];split<;>omega
def vD(m:je):Prop:=m.g0=0∧m.g1=0∧m.g2=0∧m.g3=0∧m.g4=0∧m.g5=0
instance(m:je):Decidable (vD m):=by unfold vD;infer_instance
def E0(m:je):Prop:=vD m∨((∀k,k<6→¬rn m.gs k)∧uz m.gs 6=m.ju∧2≤xv m.gs 6)
instance(m:je):Decidable (E0 m):=by unfold E0;infer_instance
def xw(m:je):Int:=if m.ju<1∨64<m.ju then 2 else if m.nR<1∨64<m.nR∨Li .i64 m.nR (m.nR-1)≠0 then 17 else if¬E0 m then 19 else 0
def Wm(m:je):Prop:=m∈rj
theorem Wm.all{P:je→Prop}(h:∀q,q<5→P (aa rj q)):∀m,Wm m→P m:=by
 intro m hm
 simp only [Wm,rj,gP,yp,yq]at hm
 rcases hm with rfl|rfl|rfl|rfl|rfl
 ·exact h 0 (by decide)
 ·exact h 1 (by decide)
 ·exact h 2 (by decide)
 ·exact h 3 (by decide)
 ·exact h 4 (by decide)
theorem Lu{q:Nat}(h:q<5):Wm (aa rj q):=aI (l:=rj) h
theorem Wm.uA{m:je}(h:Wm m):xw m=0:=Wm.all (P:=fun m=>xw m=0) (fun q hq=>by
 have:q=0∨q=1∨q=2∨q=3∨q=4:=oM
 rcases this with rfl|rfl|rfl|rfl|rfl<;>decide) m h
def je.ln(m:je):Int:=m.ju*(1935360/m.nR)
theorem Wm.ln{m:je}(h:Wm m):(m.ln=1935360∨m.ln=1451520∨m.ln=1209600)∧1≤m.nR∧1≤m.ju∧m.ju≤64∧m.nR≤64:=Wm.all (P:=fun m=>(m.ln=1935360∨m.ln=1451520∨m.ln=1209600)∧1≤m.nR∧1≤m.ju∧m.ju≤64∧m.nR≤64) (fun q hq=>by
 have:q=0∨q=1∨q=2∨q=3∨q=4:=oM
 rcases this with rfl|rfl|rfl|rfl|rfl<;>decide) m h
theorem ahB{a b:Int}(h:1≤a∧a≤64)(hb:0≤b∧b≤1935360):0≤a*b∧a*b≤123863040:=by
 refine⟨Int.mul_nonneg  oM hb.1,?_⟩
 have h1:a*b≤64*b:=Ox h.2 hb.1
 omega
theorem ahC{m:je}(h:(m.g0==0&&(m.g1==0&&(m.g2==0&&(m.g3==0&&(m.g4==0&&(m.g5==0))))))=true):vD m:=by
 simpa [vD]using h
theorem ahD{m:je}(h:(m.g0==0&&(m.g1==0&&(m.g2==0&&(m.g3==0&&(m.g4==0&&(m.g5==0))))))=false):¬vD m:=fun g=>by
 unfold vD at g
 simp [g]at h
theorem ahE{m:je}{k:Nat}(h:k<6):(#[Value.int .i64 m.g0,.int .i64 m.g1,.int .i64 m.g2,.int .i64 m.g3,.int .i64 m.g4,.int .i64 m.g5])[k]?=some (.int .i64 (aa m.gs k)):=by
 have:k=0∨k=1∨k=2∨k=3∨k=4∨k=5:=oM
 rcases this with rfl|rfl|rfl|rfl|rfl|rfl<;>rfl
theorem WJ{l:List Int}{k:Nat}(h:∀j,j<k→¬rn l j)(h1:¬rn l k):∀j,j<k+1→¬rn l j:=fun j hj=>by
 by_cases e:j=k
 ·subst e;exact h1
 ·exact h j  oM
theorem ahF{m:je}(lX:¬vD m)(fI:∀j,j<6→¬rn m.gs j)(h:uz m.gs 6=m.ju):decide ((2:Int)≤(xv m.gs 6:Int))=decide (E0 m):=by
 rw [ug,jl,jl]
 exact⟨fun g=> .inr ⟨fI,h,oM⟩,fun g=>g.elim (fun g=>absurd g lX) (fun g=>by have:=g.2.2;omega)⟩
theorem ahG{m:je}(lX:¬vD m)(h:¬uz m.gs 6=m.ju):false=decide (E0 m):=(cw (fun g=>g.elim lX (fun g=>h g.2.1))).symm
def iS(n a:Int):Nat→List aZ
 |0=> []
 |k+1=>iS n a k++(if pI k=(n-a)%12∧0≤dp k a ((n-a)/12-1)then [⟨k,a,(n-a)/12-1⟩]else [])
def kF(n:Int):Nat→List aZ
 |0=> []
 |j+1=>kF n j++iS n (2-j) 7
def dt(n:Int):List aZ:=kF n 5
theorem PJ(n a:Int):∀k,(iS n a k).length≤k
 |0=>cE _
 |k+1=>by
  have:=PJ n a k
  rw [iS,aT]
  split<;>simp<;>omega
theorem HV(n:Int):∀j,(kF n j).length≤7*j
 |0=>cE _
 |j+1=>by
  have:=HV n j
  have:=PJ n (2-j) 7
  rw [kF,aT];omega
theorem WK{n a:Int}:∀{k:Nat} {p:aZ},p∈iS n a k→p.aL=n
 |k+1,p,h=>by
  rw [iS,ep]at h
  rcases h with h|h
  ·exact WK h
  ·split at h
   ·rename_i hc
    simp only [c_]at h
    subst h
    have:=(EV hc.2).2
    show dp _ _ _=n
    rw [this,hc.1];omega
   ·cases h
theorem Lv{n:Int}:∀{j:Nat} {p:aZ},p∈kF n j→p.aL=n
 |j+1,p,h=>by
  rw [kF,ep]at h
  rcases h with h|h
  ·exact Lv h
  ·exact WK h
def sd(fl:Bool):Int:=if fl then-1 else 1
theorem ahH{n:Int}(h:40≤n∧n≤100)(fl:Bool):∃p∈dt n,p.cd=0∨p.cd=sd fl:=by
 have key:∀k∈List.range 61,∀b:Bool,((dt ((k:Int)+40)).any fun p=>p.cd==0||p.cd==sd b)=true:=by decide+kernel
 have h1:=key (n-40).toNat (by simp;omega) fl
 rw [show(((n-40).toNat:Nat):Int)+40=n from oM,kR]at h1
 obtain⟨p,hp,h2⟩:=h1
 exact⟨p,hp,by simpa using h2⟩
theorem ahI{c:Int}(h:((if c<0 then(18:Int)else 0)==0)=true):0≤c:=by
 by_cases h2:c<0
 ·rw [aG h2]at h;cases h
 ·omega
theorem ahJ{c:Int}(h:((if c<0 then(18:Int)else 0)==0)=false):¬0≤c:=fun h2=>by
 rw [aD  oM]at h
 cases h
theorem WL{fl:Bool}{q:Nat}(h:q<2):([[.int .i64 0], [.int .i64 (sd fl)]]:List (List Value))[q]?=some [.int .i64 (aa [0,sd fl] q)]:=by
 have:q=0∨q=1:=oM
 rcases this with rfl|rfl<;>rfl
theorem WM{n:Int}{fl:Bool}{i k:Nat}(fI:∀j,j<i→∀p∈dt n,p.cd≠aa [0,sd fl] j)(hk:(dt n).length≤k)(dN:∀j,j<k→(aa (dt n) j).cd≠aa [0,sd fl] i):∀j,j<i+1→∀p∈dt n,p.cd≠aa [0,sd fl] j:=fun j hj p hp=>by
 by_cases e:j=i
 ·subst e
  obtain⟨q,hq,rfl⟩:=gS hp
  have:=dN q  oM
  simpa [aa,fi hq]using this
 ·exact fI j  oM p hp
theorem WN{n:Int}{fl:Bool}{i:Nat}{α:Prop}(hn:40≤n∧n≤100)(fI:∀j,j<i→∀p∈dt n,p.cd≠aa [0,sd fl] j)(hi:2≤i):α:=by
 obtain⟨p,hp,h|h⟩:=ahH hn fl
 ·exact absurd h (fI 0  oM p hp)
 ·exact absurd h (fI 1  oM p hp)
namespace ba
section
variable{α:Type}{p:α→Bool}
def ed(p:α→Bool):List α→Nat
 | []=>0
 |x::r=>if p x=true then 0 else ed p r+1
def ig(p:α→Bool)(l:List α):Int:=if ed p l<l.length then(ed p l:Int)else-1
theorem tf [Inhabited α]{l:List α}{k:Nat}(hk:k<l.length)(h:ed p l=k+ed p (l.drop k))(hp:p (aa l k)=false):ed p l=(k+1)+ed p (l.drop (k+1)):=by
 rw [oA hk,ed,aD (by simp [hp])]at h
 omega
theorem tg [Inhabited α]{l:List α}{k:Nat}(hk:k<l.length)(h:ed p l=k+ed p (l.drop k))(hp:p (aa l k)=true):ig p l=(k:Int):=by
 rw [oA hk,ed,aG hp,Eu]at h
 rw [ig,h,aG hk]
theorem th{l:List α}{k:Nat}(hk:l.length≤k)(h:ed p l=k+ed p (l.drop k)):ig p l= -1:=by
 rw [ig,aD  oM]
theorem WO:∀(l:List α),ed p l≤l.length
 | []=>cE _
 |x::r=>by rw [ed];have:=WO r;split<;>simp<;>omega
def aS(p:α→Bool)(l:List α):List α:=l.filter fun x=> !p x
theorem WQ:∀(l:List α),ed p l=l.length→aS p l=l
 | [],_=>rfl
 |x::r,h=>by
  rw [ed]at h
  by_cases hx:p x=true
  ·rw [aG hx]at h;simp at h
  ·rw [aD hx]at h
   have:=WQ r (by simp at h;omega)
   simp only [aS]at this⊢
   rw [Ev,aG (by simp [hx]),this]
theorem AL{l:List α}(h:ig p l= -1):aS p l=l:=by
 refine WQ l ?_
 have:=WO (p:=p) l
 unfold ig at h
 split at h<;>omega
theorem WR [Inhabited α]:∀(l:List α),ed p l<l.length→aS p (l.take (ed p l+1))=l.take (ed p l)∧p (aa l (ed p l))=true
 | [],h=>by simp at h
 |x::r,h=>by
  rw [ed]at h⊢
  by_cases hx:p x=true
  ·rw [aG hx];simp [aS,hx,aa]
  ·rw [aD hx]at h⊢
   obtain⟨h1,h2⟩:=WR r (by simp at h;omega)
   refine⟨?_,?_⟩
   ·rw [sS,sS,aS,Ev,aG (by simp [hx])]
    rw [aS]at h1;rw [h1]
   ·simpa [aa]using h2
theorem Cp [Inhabited α]{l:List α}(h:ig p l≠-1):∃i:Nat,i<l.length∧ig p l=(i:Int)∧aS p (l.take (i+1))=l.take i∧p (aa l i)=true:=by
 unfold ig at h⊢
 split at h
 ·rename_i bW
  obtain⟨h1,h2⟩:=WR l bW
  exact⟨ed p l,bW,by rw [aG bW],h1,h2⟩
 ·exact absurd rfl h
def kY(p:α→Bool)(l m:List α)(j:Nat):List α:=aS p (l.take j)++m++l.drop j
theorem yL{l m:List α}{j:Nat}(hj:j≤l.length)(hm:(aS p (l.take j)).length+m.length=j):(kY p l m j).length=l.length:=by
 simp only [kY,aT,kQ];omega
theorem PK [Inhabited α]{l m:List α}{j:Nat}(hj:j<l.length)(hm:(aS p (l.take j)).length+m.length=j):aa (kY p l m j) j=aa l j:=by
 have e:(aS p (l.take j)++m).length=j:=by rw [aT];exact hm
 simp only [kY,aa,Aj]
 rw [yj  oM,e]
 simp
theorem Cq [Inhabited α]{l:List α}{j:Nat}(hj:j<l.length)(h:p (aa l j)=true):aS p (l.take (j+1))=aS p (l.take j):=by
 rw [q_ hj,aS,vi];simp [aS,h]
theorem Cr [Inhabited α]{l:List α}{j:Nat}(hj:j<l.length)(h:p (aa l j)=false):aS p (l.take (j+1))=aS p (l.take j)++ [aa l j]:=by
 rw [q_ hj,aS,vi];simp [aS,h]
theorem PL [Inhabited α]{l m:List α}{j:Nat}(hj:j<l.length)(h:p (aa l j)=true):kY p l m j=kY p l (m++ [aa l j]) (j+1):=by
 rw [kY,kY,Cq hj h,oA hj];simp
theorem PM [Inhabited α]{l m:List α}{x:α}{j:Nat}(hj:j<l.length)(h:p (aa l j)=false):(kY p l (x::m) j).set (aS p (l.take j)).length (aa l j)=kY p l (m++ [aa l j]) (j+1):=by
 rw [kY,kY,Cr hj h,oA hj,cj,B4 _ _  oM,wT]
 simp
theorem PN [Inhabited α]{l:List α}{i:Nat}(hi:i<l.length)(h1:aS p (l.take (i+1))=l.take i):kY p l [aa l i] (i+1)=l:=by
 rw [kY,h1,cj,List.singleton_append,←oA hi,mR]
theorem ahK{l m:List α}{j:Nat}(hj:l.length≤j):(kY p l m j).take (aS p l).length=aS p l:=by
 rw [kY,eS hj,vg hj,iF,List.take_left]
theorem PO{enc:α→List Value}{l m:List α}{j:Nat}{zs:List (List Value)}(hj:l.length≤j):(((kY p l m j).map enc).take (aS p (l.take j)).length++zs).take (aS p l).length=(aS p l).map enc:=by
 rw [show l.take j=l from eS hj]
 have h1:(aS p l).length≤(kY p l m j).length:=by
  rw [kY,eS hj];simp
 rw [Kz (by rw [eM,bE];omega),GY,Nat.min_self,←wW,ahK hj]
theorem PQ{l:List α}:(aS p l).length≤l.length:=Ow _ _
end
end ba
def qu(n:Int):Nat→Int
 |0=>n
 |k+1=>qu n k/2
def Cs(n:Int):Nat→Int
 |0=>n
 |k+1=>Cs n k+qu n (k+1)
theorem E1{n:Int}(h:0≤n∧n≤3870720):∀k,0≤qu n k∧qu n k≤3870720
 |0=>h
 |k+1=>by
  have:=E1 h k
  rw [qu];omega
theorem WS{n:Int}(h:0≤n∧n≤3870720):∀k,0≤Cs n k∧Cs n k≤3870720*(k+1)
 |0=>by rw [Cs];omega
 |k+1=>by
  have h1:=WS h k
  have h2:=E1 h (k+1)
  rw [Cs];omega
def fC(a b:Int):Int:=Cs (qu 3870720 (a+1).toNat) b.toNat
theorem Lw{a:Int}(h: -1≤a∧a≤8):(3870720:Int).fdiv (2^(min (a+1).toNat IntKind.i64.bits))=qu 3870720 (a+1).toNat:=by
 have:a= -1∨a=0∨a=1∨a=2∨a=3∨a=4∨a=5∨a=6∨a=7∨a=8:=oM
 rcases this with rfl|rfl|rfl|rfl|rfl|rfl|rfl|rfl|rfl|rfl<;>rfl
theorem ahL{x:bn}(h:gH x=0)(h3:x.n.bo≠3):fU x.n.fo x.n.jt:=by
 by_cases hv:fU x.n.fo x.n.jt
 ·exact hv
 ·exfalso
  unfold gH at h
  split at h
  ·cases h
  ·split at h
   ·cases h
   ·split at h
    ·cases h
    ·rw [aG ⟨h3,hv⟩]at h;cases h
section
namespace Hr
open Classical in
noncomputable def oP(k:Value):List MapEntry→Nat→Option (Nat×Value)
 | [],_=>none
 |e::es,i=>if e.key=k then some (i,e.val)else oP k es (i+1)
structure Ba(P:Program)(kt:TypeId)(K:Value→Prop):Prop where
 uA:∀{k:Value},K k→∀(em:Bool) (w:World),(Instr.checkKey em 10000 kt k).run P w= .ok () w
 Mc:∀{k:Value} {es:List MapEntry},K k→(∀x∈es,K x.key)→∀w:World,(Instr.findKey kt k es).run P w= .ok (oP k es 0) w
theorem Yk{P:Program}{kt:TypeId}{K:Value→Prop}(heq:∀a b,K a→K b→∀w,∃r:Bool,(Op.equal kt a b).run P w= .ok r w∧(r=true↔a=b)){k:Value}(hk:K k)(w:World):
  ∀(es:List MapEntry) (i:Nat),(∀x∈es,K x.key)→(Instr.findAsking kt k es i).run P w= .ok (oP k es i) w
 | [],i,_=>by simp [Instr.findAsking,oP]
 |e::es,i,h=>by
  obtain⟨r,hr,Yl⟩:=heq k e.key hk (h e sM) w
  have ih:=Yk heq hk w es (i+1) (fun x hx=>h x (by simp [hx]))
  cases r with
  |true=>rw [oP,aG (Yl.1 rfl).symm];simp [Instr.findAsking,hr,Result.andThen]
  |false=>
   have iU:e.key≠k:=fun q=>by have:=Yl.2 q.symm;cases this
   rw [oP,aD iU]
   simp [Instr.findAsking,hr,Result.andThen,ih]
theorem QT{P:Program}{kt:TypeId}{K:Value→Prop}(hw:(match P.underlying kt with|some (.array _ _)|some (.struct _)=>true|_=>false)=true)
  (hc:∀k,K k→∀(em:Bool) (w:World),(Instr.checkKey em 10000 kt k).run P w= .ok () w)
  (heq:∀a b,K a→K b→∀w,∃r:Bool,(Op.equal kt a b).run P w= .ok r w∧(r=true↔a=b)):Ba P kt K:=
 ⟨fun hk=>hc _ hk,fun hk tz w=>by rw [run_findKey_eq w hw];exact Yk heq hk w _ 0 tz⟩
section
variable{P:Program}{X:Nat→Prop}{W:World}{n:Nat}{S:St}{ai:List (Nat×Value)}{mem:List an}{o:Oper}{a:Act}{w:World}{d:Tmp}{x y z:Operand}{t kt et:TypeId}{K:Value→Prop}
theorem akp{b ck:Nat}{es:List MapEntry}(h:(an.map b es ck).holds W)(hk:bb nX W w):(an.map b es ck).holds w:=by
 have h':W.heap[b]?=some (.map es.toArray ck):=h
 show w.heap[b]?=some (.map es.toArray ck)
 exact(hk.block b (uh h') (by simp [nX])).trans h'
end
end Hr
end
theorem FT:Hr.i_ prog 147 3:=⟨fun w=>by simp [isAgg,dM wY],Hr.Sz.of (by kernel_rfl)⟩
theorem amH:Hr.Sz prog 147 3:=Hr.Sz.of (by kernel_rfl)
theorem iM(n m:Int)(W:World):Calls prog 222 #[Iv n,Iv m] W (Hr.aN W (Iv (if n<0∨m<n then 2 else 0))):=by
 apply Ej 10 func222 ntmps222;apply Sd 0 7;intro _ g7;apply ab 5;apply kp 6 [4,11];exact aw rfl rfl (by rw [aG  oM]);intro _ g7;apply ab 5;apply kp 0 [4,11];apply Cd 0;intros;apply ab 5;exact aw rfl rfl (by rw [aG  oM]);intros;apply ab 6;exact aw rfl rfl (by rw [aD  oM])
theorem aao(k:Int)(W:World):Calls prog 223 #[Iv k] W (Hr.aN W (.bool (decide (1≤k∧k≤4)))):=by
 apply Ej 9 func223 ntmps223;apply Sd 0 5;intro _ g5;apply ab 5;apply kp 1 [2];exact aw rfl rfl (ay Value.bool (by rw [ug];(try simp only [jl,Al,false_iff,true_iff]);omega));intro _ g5;apply ab 5;apply kp 1 [2];exact aw rfl rfl (ay Value.bool (by rw [ug];(try simp only [jl,Al,false_iff,true_iff]);omega))
theorem wh(l:List Int)(A:Option Addr)(ca:Nat)(W:World)(hr:Rd W A 1 (l.map eC))(hl:l.length≤1000):Calls prog 221 #[.slice A l.length ca] W (Hr.aN W (Iv (Ky.l4 l))):=by
 apply Ej 12 func221 ntmps221;apply Ks 0 [7,2,5,6] [];refine dY (ι:=Nat) (fun k=>k≤l.length∧Ky.l4 l=Ky.l4 (l.drop k)) (fun k=>Iv k) (fun k=>l.length-k) 0 (by(try dsimp only);exact⟨oM,rfl⟩) rfl ?_;rintro k hq;(try dsimp only at hq);obtain⟨hk,hE⟩:=hq;apply Cd 5;intros;have dB:k<l.length:=oM
 apply ab 5;refine Qq 0 (Qi k rfl (.au hr .no)) ?_;refine Qq 2 (Qk rfl (.au hr .no)) ?_;apply kp 5 [2,4,5,6,7];apply Cd 0;intro uZ _;apply ab 5;apply kp 1 [2,5,6,7];exact aw rfl rfl (by rw [hE,Ky.agO dB uZ]);intros;have h0:aa l k=0:=oM
 apply ab 6;apply kp 0 [2,5,6,7];refine Ag (k+1) ?_;exact⟨oM,by rw [hE,Ky.agN dB h0]⟩;intros;apply ab 1;apply kp 5 [2];exact aw rfl rfl (by rw [hE,vg  oM];rfl)
theorem aap(W:World):Calls prog 258 #[] W (Hr.aN W (.agg #[Iv 0,Iv 2,Iv 4,Iv 5,Iv 7,Iv 9,Iv 11])):=by
 apply Ej 2 func258 ntmps258;refine Nw 3 fun b0=>?_;refine Qq 3 (bO rfl vZ (R8)) ?_;exact cx rfl oZ _ .nil rfl
theorem aaq(s a o:Int)(W:World)(dN:nP s a o):Calls prog 195 #[.agg #[Iv s,Iv a,Iv o]] W (Hr.aN W (Iv (pI s+a+12*(o+1)))):=by
 unfold nP at dN;have hs:=agT (s:=s)  oM ;apply Ej 2 func195 ntmps195;refine Nw 3 fun b1=>?_;apply Dd 4 [0,1,2,3,4,5,6,7,8,9,10,11,12];refine Dq 2 rfl (Qc rfl fun w _ _=>aap w) ?_;refine Dq 6 rfl (KS (q:=s.toNat) rfl underlying359 zO rfl rfl  oM oM (Wq  oM)) ?_;apply kp 1 [2];exact aw rfl rfl (aP  oM)
theorem R9(s a o:Int)(W:World):Calls prog 194 #[.agg #[Iv s,Iv a,Iv o]] W (Hr.aN W (Iv (if dp s a o<0 then 18 else 0))):=by
 apply Ej 2 func194 ntmps194;refine Nw 9 fun b1=>?_;apply Sd 0 7;intro _ g7;apply ab 25;apply kp 6 [1,2,31];exact aw rfl rfl (by rw [EU (by unfold nP;omega)];rfl);intro _ g7;apply Sd 5 12;intro _ iq;apply ab 20;apply kp 6 [1,2,31];exact aw rfl rfl (by rw [EU (by unfold nP;omega)];rfl);intro _ iq;apply Sd 5 17;intro _ j2;apply ab 15;apply kp 6 [1,2,31];exact aw rfl rfl (by rw [EU (by unfold nP;omega)];rfl);intro _ j2;apply Sd 5 22;intro _ I7;apply ab 10;apply kp 6 [1,2,31];exact aw rfl rfl (by rw [EU (by unfold nP;omega)];rfl);intro _ I7;apply Sd 5 27;intro _ kK;apply ab 5;apply kp 6 [1,2,31];exact aw rfl rfl (by rw [EU (by unfold nP;omega)];rfl);intro _ kK;apply ab 5;apply kp 0 [1,2,31];apply Cd 0;intros;apply ab 5;exact aw rfl rfl (by rw [EU (by unfold nP;omega)];rfl);intros;have dN:nP s a o:=by unfold nP;omega
 apply ab 5;refine Qq 2 (Qc rfl fun w _ _=>aaq s a o w dN) ?_;apply kp 5 [2,3];apply Sd 0 36;intro _ oT;apply ab 4;apply kp 6 [2,39];exact aw rfl rfl (by rw [Wr dN  oM];rfl);intro _ oT;apply ab 4;apply kp 0 [2,39];apply Cd 0;intros;apply ab 5;exact aw rfl rfl (by rw [Wr dN  oM];rfl);intros;apply ab 6;exact aw rfl rfl (by rw [agU dN  oM,aD  oM])
theorem M4(s a o:Int)(W:World):Calls prog 110 #[.agg #[Iv s,Iv a,Iv o]] W (Hr.aN W (.tuple #[Iv (if dp s a o<0 then 0 else dp s a o),Iv (if dp s a o<0 then 18 else 0)])):=by
 apply Ej 2 func110 ntmps110;refine Nw 7 fun b1=>?_;refine Qq 2 (Qc rfl fun w _ _=>R9 s a o w) ?_;apply kp 5 [1,2,3,4];apply Cd 0;intro tG _;have hp:dp s a o<0:=by by_cases h:dp s a o<0;(· exact h);(· rw [aD h]at tG;exact absurd rfl tG)
 apply ab 6;apply kp 1 [1,2,3];exact fc rfl rfl rfl (by rw [aG hp,aG hp]);intro tG _;have hp:0≤dp s a o:=by by_cases h:dp s a o<0;(· rw [aG h]at tG;cases tG);(· omega)
 apply ab 4;refine Qq 3 (Qc rfl fun w _ _=>aaq s a o w (EV hp).1) ?_;apply kp 1 [2,3];exact fc rfl rfl rfl (by rw [aD  oM,aD  oM,(EV hp).2])
theorem R_(s a o:Int)(W:World):Calls prog 275 #[.agg #[Iv s,Iv a,Iv o]] W (Hr.aN W (.tuple #[Iv (if dp s a o<0 then 0 else dp s a o),Iv (if dp s a o<0 then 18 else 0)])):=by
 have hnb:=Lk s a o;apply Ej 2 func275 ntmps275;refine Nw 6 fun b1=>?_;refine Qq 6 (Qc rfl fun w _ _=>M4 s a o w) ?_;apply kp 6 [2,3,4,5];apply Sd 0 13;intro _ FU;apply ab 8;apply kp 7 [2,3,4,20];exact fc rfl rfl rfl (by rw [aG  oM,aG  oM]<;>rfl);intro _ FU;apply Sd 4 17;intro _ j2;apply ab 4;apply kp 7 [2,3,4,20];exact fc rfl rfl rfl (by rw [aG  oM,aG  oM]<;>rfl);intro _ j2;apply ab 4;apply kp 0 [2,3,4,20];apply Cd 0;intros;apply ab 6;exact fc rfl rfl rfl (by rw [aG  oM,aG  oM]<;>rfl);intros;apply ab 7;apply kp 1 [2,3];exact fc rfl rfl rfl (by rw [aD  oM,aD  oM]<;>rfl)
theorem amI(h:Hd)(W:World):Calls prog 274 #[h.val] W (Hr.aN W (Iv (nk h))):=by
 apply Ej 2 func274 ntmps274;refine Nw 6 fun b1=>?_;refine Qq 11 (Qc rfl fun w _ _=>R_ h.step h.cd h.bR w) ?_;refine Qq 0 (Qc rfl fun w _ _=>iM _ _ w) ?_;refine Nw 0 fun FV=>?_;refine Qq 2 (Qc rfl fun w _ hm=>wh [if h.aL<0 then 18 else 0,if h.sb<0∨2<h.sb then 2 else 0] (some ⟨FV,0,none⟩) 2 w (bQ (ae.ak.holds hm)) sM) ?_;apply kp 1 [2];exact aw rfl rfl (aP (by rw [nk,Ky.l4];split<;>(try simp)<;>split<;>simp [Ky.l4]))
namespace Hr
section
variable{P:Program}{fn:Func}{R:Ending→World→Prop}{X:Nat→Prop}{W:World}{n:Nat}{k:List K}{S:St}
theorem zN{c:Code}(m:Nat)(h:bt P fn R X W n (.stop (Code.rounds P c (post P fn R k) m)::k) S):bt P fn R X W n (.bC (.loop c)::k) S:=
 fun a w hs=>wp_loop_rounds m (h a w hs)
theorem eF{c:Code}{m:Nat}(h:bt P fn R X W n (.bC c:: .stop (Code.rounds P c (post P fn R k) m)::k) S):bt P fn R X W n (.stop (Code.rounds P c (post P fn R k) (m+1))::k) S:=fun a w hs=>by
 show Code.rounds P c (post P fn R k) (m+1) a w
 rw [rounds_succ]
 refine BW ?_ (h a w hs)
 intro e a' w' q
 cases e with
 |normal=>exact q
 |_=>exact q
end
section
variable{P:Program}{X:Nat→Prop}{W:World}{n:Nat}{S:St}{o:Oper}{t e:TypeId}{x y:Operand}
theorem NJ{k:IntKind}{i:Int}{len q s:Nat}{cs ys:Array Value}(ho:o.op= .index t x y)(ht:P.underlying t=some (.array len e))(he:i_ P e s)(hx:ev S.ai x=some (.agg cs))(hy:ev S.ai y=some (.int k i))
  (hi:i=(q:Int))(hq:q<len)(hv:cs.extract (q*s) (q*s+s)=ys):Q1 P X W n S o (.agg ys):=
 fun a w hs=> .inl (by
  subst hi
  have h1:(0:Int)≤(q:Int)∧(q:Int)<(len:Int):=oM
  simp [execOp,ho,hs.eval hx,hs.eval hy,Instr.index,asIntOf,dM ht,h1.2,he.2.run,part,he.1,hv,Nat.not_le.2 hq])
end
theorem asC{ls:List (List Value)}{size:Nat}(k:Nat)(hz:∀z∈ls,z.length=size)(hk:k≤ls.length):ls.flatten.drop (k*size)=(ls.drop k).flatten:=by
 have e:ls.flatten=(ls.take k).flatten++(ls.drop k).flatten:=by rw [←Kt,mR]
 have hl:(ls.take k).flatten.length=k*size:=by
  rw [q8 (size:=size) _ (fun z h=>hz z (ue h)),eM,vh hk]
 rw [e,←hl,List.drop_left]
section
variable{P:Program}{X:Nat→Prop}{W:World}{n:Nat}{ai:List (Nat×Value)}{mem:List an}{S:St}{o:Oper}{d:Tmp}{t t' e:TypeId}{x y:Operand}{A:Option Addr}{m c:Nat}{size:Nat}{k:IntKind}
theorem asD{y z u:Operand}{l h r:Int}{k' k'':IntKind}(ho:o.op= .slice t x (some y) (some z) (some u))(ht:P.underlying t=some (.slice e))(fF:Sz P e size)(hx:ev S.ai x=some (.slice A m c))(hy:ev S.ai y=some (.int k l))(hz:ev S.ai z=some (.int k' h))(hu:ev S.ai u=some (.int k'' r))(hh:0≤l∧l≤h∧h≤r∧r≤c):
  Q1 P X W n S o (.slice (o6 A l.toNat r.toNat size) (h.toNat-l.toNat) (r.toNat-l.toNat)):=fun _ w hs=> .inl (by
 have he:P.elem t=e:=by simp [Program.elem,ht]
 have mY:P.underlying t=some (.slice (P.elem t)):=by rw [he];exact ht
 simp [execOp,ho,hs.eval hx,hs.eval hy,hs.eval hz,hs.eval hu,run_sliceAt_slice w t _ _ _ _ mY,run_slice_lhm w t A m c mY k k' k'' l h r hh.1 hh.2.1 hh.2.2.1 hh.2.2.2,he,fF.run,sliced,o6])
theorem asE{w:World}{A:Option Addr}{c j:Nat}{ls:List (List Value)}{ad:Addr}(cp:Rd w (some ad) (size+1) ls)(mX:∀z∈ls,z.length=size+1):∀q u,ls.flatten[q]?=some u→w.cell? (ad.add q)=some u:=by
 intro j u hj
 rcases cp with h|⟨Vi,h,hc⟩
 ·subst h;simp at hj
 ·simp only [Option.some.injEq]at h
  subst h
  have um:j<ls.length*(size+1):=by rw [←q8 ls mX];exact(wN.1 hj).1
  have hq:j/(size+1)<ls.length:=Kq (by rw [ym];exact um)
  have jn:j%(size+1)<(ls[j/(size+1)]).length:=by rw [mX _ (GR hq)];exact Et _  oM
  have h2:=EE ls (size+1) mX (j/(size+1)) _ (fi hq) (j%(size+1)) _ (fi jn)
  have e:j/(size+1)*(size+1)+j%(size+1)=j:=by rw [ym];exact Kr _ _
  rw [e]at h2
  rw [hj]at h2
  have h3:=hc (j/(size+1)) _ (fi hq) (j%(size+1)) _ (fi jn)
  rw [e]at h3
  rw [h3];exact h2.symm
theorem asF{A:Option Addr}{m c i j i' d' c' size bytes:Nat}{ls:List (List Value)}{l:List an}{zs:List Value}{D:Option Addr}(ho:o.op= .call {callee:= .builtin .append,args:= #[x,y],argTypes:= #[t,t]})(hd:o.dst=some d)(hdn:Nat.blt d n=true)
  (ht:P.underlying t=some (.slice e))(hi:vp P e zs (size+1) bytes)(hx:ev ai x=some (.slice A i c))(hy:ev ai y=some (.slice D d' c'))(hD:D=o6 A j c (size+1))(vy:d'=m-j)(lD:i≤j)(K1:j≤m)(kI:0<m)
  (hs:ae mem (.ag e (size+1) A m c ls) l)(h1:∀z∈ls,ja z=true)(da:i'=i+(m-j)):
  H1 P X W n ⟨ai,mem⟩ o (fun _:Unit=>True) (fun _=>⟨(d,.slice A i' c)::ai,.ag e (size+1) A m c (ls.take i++ls.drop j++ls.drop (i+(m-j)))::l⟩):=by
 intro a w cz k Q hk
 subst vy;subst hD;subst da
 have hh:=hs.holds cz.mem
 have fe:=hh.2.1
 have hz:=hh.2.2
 have cp:=bQ hh
 have Pv:=cp.cut (l:=j) (c:=c)
 obtain⟨iz,z,fT,pE,vr,s4,Aw⟩:=hi
 obtain⟨g,eO,rfl,hg,h3,h4,h5,h6⟩:=EJ hh kI
 have ad9:=Pv  oM
 have N7:∀q∈ls.drop j,q.length=size+1:=fun q hq=>hz q (Ex hq)
 have sK:(ls.drop j).flatten.length=(m-j)*(size+1):=by
  rw [q8 (size:=size+1) _ N7,kQ,fe]
 obtain⟨ad,had⟩:∃ad,o6 (some ⟨g,0,none⟩) j c (size+1)=some ad:=by unfold o6;split<;>exact⟨_,rfl⟩
 rw [had]at ad9 hy
 have OQ:=asE (A:=none) (c:=0) (j:=0) ad9 N7
 have HP:∀u∈(ls.drop j).flatten,u.oneCell'=true:=by
  intro u hu
  obtain⟨q,hq,huq⟩:=List.mem_flatten.1 hu
  exact As (h1 q (Ex hq)) u huq
 have xl:i*(size+1)+(m-j)*(size+1)=(i+(m-j))*(size+1):=by rw [←ud]
 have iJ:(i+(m-j))*(size+1)≤m*(size+1):=sQ _  oM
 have Av:m*(size+1)≤c*(size+1):=sQ _ h3
 have hfc:=run_firstCells_some (P:=P) w iz.size (m-j) ad (m-j) c' _ (by rw [sK,s4]) OQ
 have cG:=GP P g (i*iz.size) e (ls.drop j).flatten 0 eO w hg (by rw [s4,sK];omega) HP
 have ON:i+(m-j)≤c:=oM
 have fG:(execOp a.eval o).run P w= .ok (.value (.slice (some ⟨g,0,none⟩) (i+(m-j)) c)) (w.setRow g (eO.toList.take (i*(size+1))++(ls.drop j).flatten++eO.toList.drop (i*(size+1)+(ls.drop j).flatten.length)).toArray):=by
  rw [s4]at cG hfc
  simp only [Eu]at cG
  simp [execOp,ho,resolve,invoke,builtin,cz.eval hx,cz.eval hy,Builtin.append_,dM ht,sizeOf,typeInfo,fT,s4,Builtin.lenOf,ON,hfc,vf,cG]
 refine vq fG ?_
 rw [hd]
 refine hk () _ _ trivial ?_
 have hw:=Hm (e:=e) (o':=i*(size+1)) (ls:=ls) (fH:=ls.take i++ls.drop j++ls.drop (i+(m-j))) (vs:=(ls.drop j).flatten) hg h3 h4 h5 h6 (by rw [sK];omega) (by simp;omega) (fun q hq=>by
  rcases ep.1 hq with h|h
  ·rcases ep.1 h with h|h
   ·exact hz q (ue h)
   ·exact hz q (Ex h)
  ·exact hz q (Ex h)) (by
   rw [Kt,Kt,EO ls (size+1) i hz,sK,xl,asC _ hz  oM])
 have hm:Mem (fun k=>k=g) w [.ag e (size+1) (some ⟨g,0,none⟩) m c (ls.take i++ls.drop j++ls.drop (i+(m-j)))] _:=Mem.nil.cons hw (fun k hk=> .inr (by simpa [an.at,eq_comm]using hk)) sM
 have:=cz.change (Y:=fun k=>k=g) (cs:= [.ag e (size+1) (some ⟨g,0,none⟩) m c ls]) (ls:=l) hs.aK EH (fun k hk=>⟨.ag e (size+1) (some ⟨g,0,none⟩) m c ls,by simp,by simp [hk,an.at]⟩) hm
 exact this.put hdn _
end
end Hr
end Go.Proofs.YtjpbickffffgkaaGreat
