/- Part 3 of listenerHearsItself_holds. -/
import Derived.ChangeKeysEq
import Derived.OwnWalkIn
import Derived.RangeFuncBound
import Derived.RangeFuncCalls
import Derived.RangeFuncLeaves
import Derived.RangeFuncNested
import Derived.Test.YtafaoccjbifbaaaGreatQ01
set_option linter.unusedSimpArgs false
set_option linter.unusedVariables false
set_option maxHeartbeats 40000000
set_option maxRecDepth 100000
namespace Go.Proofs.YtafaoccjbifbaaaGreat
open Go Go.RowKit Hr Go.Proofs.Tryz
structure eB where
 step:Int
 dw:Int
 eK:Int
instance:Inhabited eB:=⟨⟨0,0,0⟩⟩
def eB.enc(p:eB):List Value:= [.int .i64 p.step,.int .i64 p.dw,.int .i64 p.eK]
def eB.val(p:eB):Value:= .agg p.enc.toArray
structure Hd where
 step:Int
 dw:Int
 eK:Int
 oJ:Bool
 uA:Int
instance:Inhabited Hd:=⟨⟨0,0,0,false,0⟩⟩
def Hd.enc(p:Hd):List Value:= [.int .i64 p.step,.int .i64 p.dw,.int .i64 p.eK,.bool p.oJ,.int .i64 p.uA]
def Hd.val(p:Hd):Value:= .agg p.enc.toArray
structure Gr where
 step:Int
 dw:Int
 eK:Int
 fp:Int
 Nf:Bool
instance:Inhabited Gr:=⟨⟨0,0,0,0,false⟩⟩
def Gr.enc(p:Gr):List Value:= [.int .i64 p.step,.int .i64 p.dw,.int .i64 p.eK,.int .i64 p.fp,.bool p.Nf]
structure eT where
 gw:ByteArray
 mg:Int
instance:Inhabited eT:=⟨⟨ByteArray.mk #[],0⟩⟩
def eT.enc(p:eT):List Value:= [.string p.gw,.int .i64 p.mg]
def eT.val(p:eT):Value:= .agg p.enc.toArray
def cI(f:Nat→Int):Nat→Nat→Int
 |0,_=>0
 |n+1,i=>if f i≠0 then f i else cI f n (i+1)
theorem uv{f:Nat→Int}{n i:Nat}(h:i<n)(h0:f i=0):cI f (n-i) i=cI f (n-(i+1)) (i+1):=by
 rw [show n-i=n-(i+1)+1 from oM,cI,aB (by simp [h0])]
theorem tp{f:Nat→Int}{n i:Nat}(h:i<n)(h0:f i≠0):cI f (n-i) i=f i:=by
 rw [show n-i=n-(i+1)+1 from oM,cI,aH h0]
theorem xz{f:Nat→Int}:∀{n i:Nat},cI f n i=0→∀j,j<n→f (i+j)=0
 |n+1,i,h,j,hj=>by
  simp only [cI]at h
  by_cases h0:f i=0
  ·rw [aB (by simp [h0])]at h
   cases j with
   |zero=>simpa using h0
   |succ j=>
    have:=xz h j  oM
    rwa [show i+(j+1)=i+1+j from oM]
  ·rw [aH h0]at h;exact absurd h h0
theorem zd{f:Nat→Int}:∀{n i:Nat},(∀j,i≤j→j<i+n→f j=0)→cI f n i=0
 |0,_,_=>rfl
 |n+1,i,h=>by
  rw [cI,aB (by simp [h i  oM oM])]
  exact zd fun j h1 h2=>h j  oM oM
def xD(s:ByteArray)(k:Nat):Int:=((s[k]?.getD 0).toNat:Int)
theorem Ub{s:ByteArray}{k:Nat}(h:k<s.size):s[k]?=some (s[k]?.getD 0):=by
 rw [getElem?_pos s k h];rfl
def oK(s:Int):Int:=aa [0,2,4,5,7,9,11] s.toNat
def nT(s a o:Int):Prop:=0≤s∧s≤6∧-2≤a∧a≤2∧-1≤o∧o≤9
instance(s a o:Int):Decidable (nT s a o):=by unfold nT;infer_instance
def gj(s a o:Int):Int:=if nT s a o then(if oK s+a+12*(o+1)<0∨127<oK s+a+12*(o+1)then-1 else oK s+a+12*(o+1))else-1
theorem Uc{s:Int}(h:0≤s∧s≤6):0≤oK s∧oK s≤11:=by
 have:s=0∨s=1∨s=2∨s=3∨s=4∨s=5∨s=6:=oM
 rcases this with rfl|rfl|rfl|rfl|rfl|rfl|rfl<;>decide
theorem Ng(s a o:Int): -1≤gj s a o∧gj s a o≤127:=by
 unfold gj
 split
 ·split<;>omega
 ·omega
def Hd.aG(h:Hd):Int:=gj h.step h.dw h.eK
def Gr.aG(h:Gr):Int:=gj h.step h.dw h.eK
def eB.aG(h:eB):Int:=gj h.step h.dw h.eK
theorem Nh{s:Int}(h:0≤s∧s≤6):(#[Value.int .i64 0,.int .i64 2,.int .i64 4,.int .i64 5,.int .i64 7,.int .i64 9,.int .i64 11])[s.toNat]?=some (.int .i64 (oK s)):=by
 have:s=0∨s=1∨s=2∨s=3∨s=4∨s=5∨s=6:=oM
 rcases this with rfl|rfl|rfl|rfl|rfl|rfl|rfl<;>rfl
def bP(n:Int):List Value:= [.int .i64 n]
theorem DC{s a o:Int}(h:¬nT s a o):gj s a o= -1:=aB h
theorem Ud{s a o:Int}(h:nT s a o)(h1:oK s+a+12*(o+1)<0∨127<oK s+a+12*(o+1)):gj s a o= -1:=by rw [gj,aH h,aH h1]
theorem aeh{s a o:Int}(h:nT s a o)(h1:¬(oK s+a+12*(o+1)<0∨127<oK s+a+12*(o+1))):gj s a o=oK s+a+12*(o+1):=by rw [gj,aH h,aB h1]
theorem Js{s a o:Int}(h:0≤gj s a o):nT s a o∧gj s a o=oK s+a+12*(o+1):=by
 unfold gj at h⊢
 split at h
 ·rename_i hi
  split at h
  ·omega
  ·rename_i h1
   exact⟨hi,by rw [aH hi,aB h1]⟩
 ·omega
def nw(h:Hd):Int:=if h.aG<0 then 18 else if h.uA<0∨2<h.uA then 2 else 0
def hF(l:List Hd)(i:Nat):Int:=if nw (aa l i)≠0 then nw (aa l i)else if 0<i∧(aa l i).aG≤(aa l (i-1)).aG then 25 else 0
def oL(l:List Hd):Int:=if l.length=0 then 4 else if 10<l.length then 9 else cI (hF l) l.length 0
def uB(g:Gr):Int:=if g.aG<0 then 18 else if g.fp<1∨6<g.fp then 2 else 0
def gF(l:List Gr)(i:Nat):Int:=uB (aa l i)
def tu(l:List Gr):Int:=if 8<l.length then 9 else cI (gF l) l.length 0
def tv(s:ByteArray)(i:Nat):Int:=if xD s i<32∨xD s i=127 then 6 else 0
def F8(s:ByteArray):Bool:=uz s (ByteArray.mk #[])
def Bo(x:eT):Prop:=F8 x.gw=true∧x.mg=0
instance(x:eT):Decidable (Bo x):=by unfold Bo;infer_instance
def sA(x:eT):Int:=
 if x.mg<0∨2<x.mg then 2 else if 256<x.gw.size then 5 else if cI (tv x.gw) x.gw.size 0≠0 then 6 else if F8 x.gw=true∧x.mg=1 then 3 else 0
def sF(l:List eT)(i:Nat):Int:=sA (aa l i)
def oN(l:List eT):Int:=
 if 4<l.length then 9 else if cI (sF l) l.length 0≠0 then cI (sF l) l.length 0 else if 0<l.length∧Bo (aa l (l.length-1))then 3 else 0
theorem Ni{h:Hd}(h0:¬h.aG<0)(h1:¬(h.uA<0∨2<h.uA)):nw h=0:=by rw [nw,aB h0,aB h1]
theorem aei{h:Gr}(h0:h.aG<0):uB h=18:=by rw [uB,aH h0]
theorem Ue{h:Gr}(h0:¬h.aG<0)(h1:h.fp<1∨6<h.fp):uB h=2:=by rw [uB,aB h0,aH h1]
theorem Nj{h:Gr}(h0:¬h.aG<0)(h1:¬(h.fp<1∨6<h.fp)):uB h=0:=by rw [uB,aB h0,aB h1]
theorem Uf{s:ByteArray}{i:Nat}(h:xD s i<32∨xD s i=127):tv s i=6:=aH h
theorem aej{s:ByteArray}{i:Nat}(h:¬(xD s i<32∨xD s i=127)):tv s i=0:=aB h
theorem Ug{x:eT}(h:x.mg<0∨2<x.mg):sA x=2:=aH h
theorem aek{x:eT}(h:¬(x.mg<0∨2<x.mg))(h1:256<x.gw.size):sA x=5:=by rw [sA,aB h,aH h1]
theorem Uh{x:eT}(h:¬(x.mg<0∨2<x.mg))(h1:¬256<x.gw.size)(h2:cI (tv x.gw) x.gw.size 0≠0):sA x=6:=by rw [sA,aB h,aB h1,aH h2]
theorem ael{x:eT}(h:¬(x.mg<0∨2<x.mg))(h1:¬256<x.gw.size)(h2:cI (tv x.gw) x.gw.size 0=0)(h3:F8 x.gw=true∧x.mg=1):sA x=3:=by rw [sA,aB h,aB h1,aB  oM,aH h3]
theorem Ui{x:eT}(h:¬(x.mg<0∨2<x.mg))(h1:¬256<x.gw.size)(h2:cI (tv x.gw) x.gw.size 0=0)(h3:¬(F8 x.gw=true∧x.mg=1)):sA x=0:=by rw [sA,aB h,aB h1,aB  oM,aB h3]
theorem aem{l:List Hd}(h:l.length=0):oL l=4:=aH h
theorem aen{l:List Hd}(h:¬l.length=0)(h1:10<l.length):oL l=9:=by rw [oL,aB h,aH h1]
theorem Jt{l:List Hd}(h:¬l.length=0)(h1:¬10<l.length):oL l=cI (hF l) l.length 0:=by rw [oL,aB h,aB h1]
theorem aeo{l:List Gr}(h:8<l.length):tu l=9:=aH h
theorem Ju{l:List Gr}(h:¬8<l.length):tu l=cI (gF l) l.length 0:=aB h
theorem aep{l:List eT}(h:4<l.length):oN l=9:=aH h
theorem aeq{l:List eT}(h:¬4<l.length)(h1:cI (sF l) l.length 0≠0):oN l=cI (sF l) l.length 0:=by rw [oN,aB h,aH h1]
theorem aer{l:List eT}(h:¬4<l.length)(h1:cI (sF l) l.length 0=0)(h2:0<l.length∧Bo (aa l (l.length-1))):oN l=3:=by rw [oN,aB h,aB  oM,aH h2]
theorem Uj{l:List eT}(h:¬4<l.length)(h1:cI (sF l) l.length 0=0)(h2:¬(0<l.length∧Bo (aa l (l.length-1)))):oN l=0:=by rw [oN,aB h,aB  oM,aB h2]
theorem aes{n:Int}(h:(if n<0 then(18:Int)else 0)≠0):n<0:=by
 by_cases h0:n<0
 ·exact h0
 ·rw [aB h0]at h;exact absurd rfl h
theorem aet{n:Int}(h:(if n<0 then(18:Int)else 0)=0):¬n<0:=by
 by_cases h0:n<0
 ·rw [aH h0]at h;cases h
 ·exact h0
theorem Uk{l:List Hd}{i:Nat}{v:Int}(h:¬l.length=0)(h1:¬10<l.length)(hE:cI (hF l) l.length 0=cI (hF l) (l.length-i) i)(hi:i<l.length)(hv:hF l i=v)(h0:v≠0):oL l=v:=by
 rw [Jt h h1,hE,tp hi (by rw [hv];exact h0),hv]
theorem Nk{l:List Gr}{i:Nat}{v:Int}(h:¬8<l.length)(hE:cI (gF l) l.length 0=cI (gF l) (l.length-i) i)(hi:i<l.length)(hv:uB (aa l i)=v)(h0:v≠0):tu l=v:=by
 rw [Ju h,hE,tp hi (by rw [gF,hv];exact h0),gF,hv]
theorem aeu{l:List eT}{i:Nat}{v:Int}(h:¬4<l.length)(hE:cI (sF l) l.length 0=cI (sF l) (l.length-i) i)(hi:i<l.length)(hv:sA (aa l i)=v)(h0:v≠0):oN l=v:=by
 have e:cI (sF l) l.length 0=v:=by rw [hE,tp hi (by rw [sF,hv];exact h0),sF,hv]
 rw [aeq h (by rw [e];exact h0),e]
theorem Jv{f:Nat→Int}{n i:Nat}(h:n≤i):cI f (n-i) i=0:=by rw [Nat.sub_eq_zero_of_le h];rfl
theorem aev{h:Hd}(h0:nw h=0):0≤h.aG∧h.aG≤127∧0≤h.uA∧h.uA≤2:=by
 have hb:=Ng h.step h.dw h.eK
 unfold nw at h0
 rw [←Hd.aG]at hb
 split at h0
 ·cases h0
 ·split at h0
  ·cases h0
  ·omega
theorem aew{l:List Hd}{i:Nat}(h:nw (aa l i)≠0):hF l i=nw (aa l i):=by rw [hF,aH h]
theorem aex{l:List Hd}{i:Nat}(h:nw (aa l i)=0)(h1:0<i∧(aa l i).aG≤(aa l (i-1)).aG):hF l i=25:=by rw [hF,aB  oM,aH h1]
theorem aey{l:List Hd}{i:Nat}(h:nw (aa l i)=0)(h1:¬(0<i∧(aa l i).aG≤(aa l (i-1)).aG)):hF l i=0:=by rw [hF,aB  oM,aB h1]
def Nl(l:List Hd)(i:Nat):Int:=if i=0 then-1 else(aa l (i-1)).aG
structure uC where
 bX:Int
 aG:Int
 bf:Int
 fp:Int
 ji:Int
 eU:Int
 dr:Int
 dV:Int
 iW:Int
 jv:Int
instance:Inhabited uC:=⟨⟨0,0,0,0,0,0,0,0,0,0⟩⟩
structure cF where
 n:uC
 hs:List Hd
 gs:List Gr
 ls:List eT
def cF.zero:cF:=⟨default, [], [], []⟩
structure lr where
 HA:Option Addr
 hc:Nat
 GA:Option Addr
 gc:Nat
 LA:Option Addr
 lc:Nat
def Nn(x:cF)(p:lr):List Value:= [.int .i64 x.n.bX,.int .i64 x.n.aG,.int .i64 x.n.bf,.int .i64 x.n.fp,.int .i64 x.n.ji,.slice p.HA x.hs.length p.hc,.slice p.GA x.gs.length p.gc,.int .i64 x.n.eU,.int .i64 x.n.dr,.int .i64 x.n.dV,.slice p.LA x.ls.length p.lc,.int .i64 x.n.iW,.int .i64 x.n.jv]
def mh(x:cF)(p:lr):Value:= .agg (Nn x p).toArray
structure jX(w:World)(x:cF)(p:lr):Prop where
 h:Rd w p.HA 5 (x.hs.map Hd.enc)
 g:Rd w p.GA 5 (x.gs.map Gr.enc)
 l:Rd w p.LA 2 (x.ls.map eT.enc)
theorem jX.aC{w w':World}{x:cF}{p:lr}(h:jX w x p)(hk:aS nX w w'):jX w' x p:=⟨h.h.aC hk,h.g.aC hk,h.l.aC hk⟩
def cF.gG(x:cF):Prop:=x.hs.length≤100000∧x.gs.length≤100000∧x.ls.length≤100000∧x.n.eU≤9223372036854775807
def uD(a:Int):Int:=if 0≤a∧a/16%2=1 then 16 else 0
def fz(k:Int):Prop:=k=2∨k=3∨k=4
instance(k:Int):Decidable (fz k):=by unfold fz;infer_instance
def kz(x:cF):cF:=
 if fz x.n.bf then⟨⟨x.n.bX,x.n.aG,x.n.bf,if x.n.bf=3 then 0 else x.n.fp,if x.n.bf=3 then 0 else x.n.ji,if x.n.bf=4 then 0 else uD x.n.eU,0,x.n.dV,0,0⟩, [], [], []⟩else x
def tw(x:cF)(p:lr):lr:=if fz x.n.bf then⟨none,0,none,0,none,0⟩else p
theorem F9{x:cF}(h:¬fz x.n.bf):kz x=x:=aB h
theorem Ul{x:cF}{p:lr}(h:¬fz x.n.bf):tw x p=p:=aB h
theorem Um{x:cF}{p:lr}(h:¬fz x.n.bf):mh (kz x) (tw x p)=mh x p:=by rw [F9 h,Ul h]
theorem aez{x:cF}{p:lr}(h:x.n.bf=2):mh (kz x) (tw x p)= .agg #[.int .i64 x.n.bX,.int .i64 x.n.aG,.int .i64 x.n.bf,.int .i64 x.n.fp,.int .i64 x.n.ji,.slice none 0 0,.slice none 0 0,.int .i64 (uD x.n.eU),.int .i64 0,.int .i64 x.n.dV,.slice none 0 0,.int .i64 0,.int .i64 0]:=by
 have hb:fz x.n.bf:= .inl h
 have h3:¬x.n.bf=3:=oM
 have h4:¬x.n.bf=4:=oM
 simp only [kz,tw,aH hb,aB h3,aB h4];rfl
theorem aeA{x:cF}{p:lr}(h:x.n.bf=3):mh (kz x) (tw x p)= .agg #[.int .i64 x.n.bX,.int .i64 x.n.aG,.int .i64 x.n.bf,.int .i64 0,.int .i64 0,.slice none 0 0,.slice none 0 0,.int .i64 (uD x.n.eU),.int .i64 0,.int .i64 x.n.dV,.slice none 0 0,.int .i64 0,.int .i64 0]:=by
 have hb:fz x.n.bf:= .inr (.inl h)
 have h3:x.n.bf=3:=h
 have h4:¬x.n.bf=4:=oM
 simp only [kz,tw,aH hb,aH h3,aB h4];rfl
theorem aeB{x:cF}{p:lr}(h:x.n.bf=4):mh (kz x) (tw x p)= .agg #[.int .i64 x.n.bX,.int .i64 x.n.aG,.int .i64 x.n.bf,.int .i64 x.n.fp,.int .i64 x.n.ji,.slice none 0 0,.slice none 0 0,.int .i64 0,.int .i64 0,.int .i64 x.n.dV,.slice none 0 0,.int .i64 0,.int .i64 0]:=by
 have hb:fz x.n.bf:= .inr (.inr h)
 have h3:¬x.n.bf=3:=oM
 have h4:x.n.bf=4:=h
 simp only [kz,tw,aH hb,aB h3,aH h4];rfl
theorem jX.No{w:World}{x:cF}{p:lr}(h:jX w x p):jX w (kz x) (tw x p):=by
 by_cases hb:fz x.n.bf
 ·rw [kz,tw,aH hb,aH hb];exact⟨.inl rfl,.inl rfl,.inl rfl⟩
 ·rw [F9 hb,Ul hb];exact h
theorem aeC{a:Int}(h:a<0∨¬a/16%2=1):(0:Int)=uD a:=by rw [uD,aB  oM]
theorem aeD{a:Int}(h:0≤a)(h1:a≤9223372036854775807):F7 .i64 a 16=uD a:=by
 obtain⟨n,rfl⟩:∃n:Nat,a=(n:Int):=⟨a.toNat,oM⟩
 have hn:n<2^63:=oM
 have e:n&&&16=n/16%2*16:=by
  apply Nat.eq_of_testBit_eq
  intro i
  rw [Nat.testBit_and,show(16:Nat)=2^4 from rfl,Nat.testBit_two_pow]
  by_cases hi:4=i
  ·subst hi
   rcases Nat.mod_two_eq_zero_or_one (n/2^4)with h2|h2
   ·rw [h2];simp [Nat.testBit_eq_decide_div_mod_eq,h2]
   ·rw [h2];simp [Nat.testBit_eq_decide_div_mod_eq,h2]
  ·rcases Nat.mod_two_eq_zero_or_one (n/2^4)with h2|h2
   ·rw [h2];simp [hi]
   ·rw [h2,Nat.one_mul,Nat.testBit_two_pow];simp [hi]
 have h2:(BitVec.ofInt 64 (n:Int)&&&BitVec.ofInt 64 16:BitVec 64).toNat=n/16%2*16:=by
  rw [BitVec.toNat_and,BitVec.toNat_ofInt,BitVec.toNat_ofInt]
  have h3:((n:Int)%((2^64:Nat):Int)).toNat=n:=oM
  have h4:((16:Int)%((2^64:Nat):Int)).toNat=16:=by decide
  rw [h3,h4,e]
 show IntKind.wrap .i64 (((BitVec.ofInt 64 (n:Int)&&&BitVec.ofInt 64 16:BitVec 64).toNat:Nat):Int)=_
 rw [h2,fF,uD]
 split<;>omega
def iA{α:Type}(r:α→α→Bool):List α→List α→Bool
 | [], []=>true
 |a::x,b::y=>r a b&&iA r x y
 |_,_=>false
theorem Un{α:Type}{r:α→α→Bool}:∀{x y:List α},iA r x y=true→x.length=y.length
 | [], [],_=>rfl
 |a::x,b::y,h=>by
  simp only [iA,fu]at h
  simp [Un h.2]
 | [],_::_,h=>by cases h
 |_::_, [],h=>by cases h
theorem Np{α:Type}{r:α→α→Bool}{x y:List α}(h:x.length≠y.length):iA r x y=false:=by
 cases e:iA r x y
 ·rfl
 ·exact absurd (Un e) h
theorem Jw{α:Type}{r:α→α→Bool}(hr:∀a,r a a=true):∀x:List α,iA r x x=true
 | []=>rfl
 |a::x=>by rw [iA,hr a,Jw hr x];rfl
theorem Nq{α:Type} [Inhabited α]{r:α→α→Bool}{x y:List α}{k:Nat}(hk:k<x.length)(hl:x.length=y.length)(h:r (aa x k) (aa y k)=true):iA r (x.drop k) (y.drop k)=iA r (x.drop (k+1)) (y.drop (k+1)):=by
 rw [ku hk,ku (show k<y.length by omega),iA,h];rfl
theorem Nr{α:Type} [Inhabited α]{r:α→α→Bool}{x y:List α}{k:Nat}(hk:k<x.length)(hl:x.length=y.length)(h:r (aa x k) (aa y k)=false):iA r (x.drop k) (y.drop k)=false:=by
 rw [ku hk,ku (show k<y.length by omega),iA,h];rfl
theorem Ns{α:Type}{r:α→α→Bool}{x y:List α}{k:Nat}(hk:x.length≤k)(hl:x.length=y.length):iA r (x.drop k) (y.drop k)=true:=by
 rw [ox hk,ox  oM];rfl
def vY(a b:Hd):Bool:=a.step==b.step&&(a.dw==b.dw&&(a.eK==b.eK&&(a.oJ==b.oJ&&(a.uA==b.uA))))
def wa(a b:Gr):Bool:=a.step==b.step&&(a.dw==b.dw&&(a.eK==b.eK&&(a.fp==b.fp&&(a.Nf==b.Nf))))
def xE(a b:eT):Bool:=uz a.gw b.gw&&(a.mg==b.mg)
theorem aeE(a:Hd):vY a a=true:=by simp [vY]
theorem aeF(a:Gr):wa a a=true:=by simp [wa]
theorem aeG(a:eT):xE a a=true:=by simp [xE,uz]
def jY(x y:cF):Prop:=x.n.bf=y.n.bf∧(x.n.fp=y.n.fp∧x.n.ji=y.n.ji)∧x.n.eU=y.n.eU∧x.n.dr=y.n.dr∧x.n.dV=y.n.dV∧x.n.iW=y.n.iW∧x.n.jv=y.n.jv∧
 iA vY x.hs y.hs=true∧iA wa x.gs y.gs=true∧iA xE x.ls y.ls=true
instance(x y:cF):Decidable (jY x y):=by unfold jY;infer_instance
theorem Nt(x:cF):jY x x:=⟨rfl,⟨rfl,rfl⟩,rfl,rfl,rfl,rfl,rfl,Jw aeE _,Jw aeF _,Jw aeG _⟩
theorem Jy{b:Bool}(h:(!b)=true):b=false:=by simpa using h
theorem F_{b:Bool}(h:(!b)=false):b=true:=by simpa using h
theorem DE{a b:Int}(h:(a==b)=true):a=b:=by simpa using h
theorem aeH{x y:cF}(h:(x.n.bf==y.n.bf)=false):¬jY x y:=fun g=>by simp [g.1]at h
theorem aeI{x y:cF}(h:(x.n.fp==y.n.fp&&(x.n.ji==y.n.ji))=false):¬jY x y:=fun g=>by simp [g.2.1]at h
theorem aeJ{x y:cF}(h:(x.n.eU==y.n.eU)=false):¬jY x y:=fun g=>by simp [g.2.2.1]at h
theorem aeK{x y:cF}(h:(x.n.dr==y.n.dr)=false):¬jY x y:=fun g=>by simp [g.2.2.2.1]at h
theorem aeL{x y:cF}(h:(x.n.dV==y.n.dV)=false):¬jY x y:=fun g=>by simp [g.2.2.2.2.1]at h
theorem aeM{x y:cF}(h:(x.n.iW==y.n.iW)=false):¬jY x y:=fun g=>by simp [g.2.2.2.2.2.1]at h
theorem aeN{x y:cF}(h:(x.n.jv==y.n.jv)=false):¬jY x y:=fun g=>by simp [g.2.2.2.2.2.2.1]at h
theorem aeO{x y:cF}(h:iA vY x.hs y.hs=false):¬jY x y:=fun g=>by rw [g.2.2.2.2.2.2.2.1]at h;cases h
theorem aeP{x y:cF}(h:iA wa x.gs y.gs=false):¬jY x y:=fun g=>by rw [g.2.2.2.2.2.2.2.2.1]at h;cases h
theorem aeQ{x y:cF}(h0:(x.n.bf==y.n.bf)=true)(h1:(x.n.fp==y.n.fp&&(x.n.ji==y.n.ji))=true)(h2:(x.n.eU==y.n.eU)=true)(h3:(x.n.dr==y.n.dr)=true)(h4:(x.n.dV==y.n.dV)=true)(h5:(x.n.iW==y.n.iW)=true)(h6:(x.n.jv==y.n.jv)=true)
  (h7:iA vY x.hs y.hs=true)(h8:iA wa x.gs y.gs=true):decide (jY x y)=iA xE x.ls y.ls:=by
 rw [C_,ir]
 exact⟨fun h=>h.2.2.2.2.2.2.2.2.2,fun h=>⟨DE h0,by simpa using h1,DE h2,DE h3,DE h4,DE h5,DE h6,h7,h8,h⟩⟩
def Uo(x y:cF):Prop:=(x.n.bX=y.n.bX∧x.n.aG=y.n.aG)∧jY x y
instance(x y:cF):Decidable (Uo x y):=by unfold Uo;infer_instance
def gx(a b:Int):Prop:= -1≤a∧a≤8∧0≤b∧b≤3
instance(a b:Int):Decidable (gx a b):=by unfold gx;infer_instance
def mi(x:uC):Prop:=0≤x.bX∧x.bX≤99∧0≤x.aG∧x.aG≤1073741824
instance(x:uC):Decidable (mi x):=by unfold mi;infer_instance
def wc(x:uC):Prop:=(0≤x.eU∧x.eU≤31)∧(0≤x.dr∧x.dr≤4)∧(0≤x.dV∧x.dV≤9)∧(0≤x.iW∧x.iW≤2)∧(0≤x.jv∧x.jv≤2)
instance(x:uC):Decidable (wc x):=by unfold wc;infer_instance
def mj(x:cF):Int:=if oL x.hs≠0 then oL x.hs else if tu x.gs≠0 then tu x.gs else oN x.ls
def Ga(x:uC):Int:=if wc x then 0 else 2
def ig(x:cF):Int:=
 if¬mi x.n then 2 else if x.n.bf<1∨4<x.n.bf then 11 else if¬jY x (kz x)then 3 else if x.n.bf≠3∧¬gx x.n.fp x.n.ji then 17
 else if x.n.bf=1∧mj x≠0 then mj x else Ga x.n
theorem aeR{x:cF}(h:¬mi x.n):ig x=2:=by rw [ig,aH h]
theorem aeS{x:cF}(h:mi x.n)(h1:x.n.bf<1∨4<x.n.bf):ig x=11:=by rw [ig,aB (by simpa using h),aH h1]
theorem aeT{x:cF}(h:mi x.n)(h1:¬(x.n.bf<1∨4<x.n.bf))(h2:¬jY x (kz x)):ig x=3:=by rw [ig,aB (by simpa using h),aB h1,aH h2]
theorem aeU{x:cF}(h:mi x.n)(h1:¬(x.n.bf<1∨4<x.n.bf))(h2:jY x (kz x))(h3:x.n.bf≠3∧¬gx x.n.fp x.n.ji):ig x=17:=by rw [ig,aB (by simpa using h),aB h1,aB (by simpa using h2),aH h3]
theorem Nu{x:cF}(h:mi x.n)(h1:¬(x.n.bf<1∨4<x.n.bf))(h2:jY x (kz x))(h3:¬(x.n.bf≠3∧¬gx x.n.fp x.n.ji))(h4:x.n.bf=1∧mj x≠0):ig x=mj x:=by rw [ig,aB (by simpa using h),aB h1,aB (by simpa using h2),aB h3,aH h4]
theorem zg{x:cF}(h:mi x.n)(h1:¬(x.n.bf<1∨4<x.n.bf))(h2:jY x (kz x))(h3:¬(x.n.bf≠3∧¬gx x.n.fp x.n.ji))(h4:¬(x.n.bf=1∧mj x≠0)):ig x=Ga x.n:=by rw [ig,aB (by simpa using h),aB h1,aB (by simpa using h2),aB h3,aB h4]
theorem cF.gG.No{x:cF}(h:x.gG):(kz x).gG:=by
 obtain⟨h1,h2,h3,h4⟩:=h
 unfold kz
 split
 ·refine⟨lI _,lI _,lI _,?_⟩
  show(if x.n.bf=4 then(0:Int)else uD x.n.eU)≤9223372036854775807
  split
  ·decide
  ·unfold uD;split<;>decide
 ·exact⟨h1,h2,h3,h4⟩
theorem Uq(x:uC):Ky.ky [if x.bX<0∨99<x.bX then 2 else 0,if x.aG<0∨1073741824<x.aG then 2 else 0]=if mi x then 0 else 2:=by
 by_cases h1:x.bX<0∨99<x.bX
 ·rw [aH h1,aB (show¬mi x by unfold mi;omega)];rfl
 ·rw [aB h1]
  by_cases h2:x.aG<0∨1073741824<x.aG
  ·rw [aH h2,aB (show¬mi x by unfold mi;omega)];rfl
  ·rw [aB h2,aH (show mi x by unfold mi;omega)];rfl
theorem aeV(b:Prop) [Decidable b](l:List Int):Ky.ky ((if b then 2 else 0)::l)=if b then 2 else Ky.ky l:=by
 by_cases h:b
 ·rw [aH h,aH h];rfl
 ·rw [aB h,aB h];rfl
theorem DF(x:uC):Ky.ky [if x.eU<0∨31<x.eU then 2 else 0,if x.dr<0∨4<x.dr then 2 else 0,if x.dV<0∨9<x.dV then 2 else 0,if x.iW<0∨2<x.iW then 2 else 0,if x.jv<0∨2<x.jv then 2 else 0]=Ga x:=by
 simp only [aeV,Ga]
 by_cases h:wc x
 ·rw [aH h]
  unfold wc at h
  rw [aB  oM,aB  oM,aB  oM,aB  oM,aB  oM];rfl
 ·rw [aB h]
  unfold wc at h
  by_cases h1:x.eU<0∨31<x.eU
  ·rw [aH h1]
  ·rw [aB h1]
   by_cases h2:x.dr<0∨4<x.dr
   ·rw [aH h2]
   ·rw [aB h2]
    by_cases h3:x.dV<0∨9<x.dV
    ·rw [aH h3]
    ·rw [aB h3]
     by_cases h4:x.iW<0∨2<x.iW
     ·rw [aH h4]
     ·rw [aB h4,aH  oM]
theorem DG(x:cF):Ky.ky [oL x.hs,tu x.gs,oN x.ls]=mj x:=by
 rw [mj,Ky.ky,Ky.ky,Ky.ky]
 by_cases h3:oN x.ls=0
 ·rw [h3];rfl
 ·rw [aH h3]
theorem Ur{x:uC}(h:wc x):Ga x=0:=aH h
structure a8 where
 x:cF
 p:lr
instance:Inhabited a8:=⟨⟨cF.zero,⟨none,0,none,0,none,0⟩⟩⟩
def a8.enc(e:a8):List Value:=Nn e.x e.p
def a8.rd(w:World)(e:a8):Prop:=jX w e.x e.p
def a8.ae(e:a8):List an:= [.ae 186 5 e.p.HA e.x.hs.length e.p.hc (e.x.hs.map Hd.enc),.ae 276 5 e.p.GA e.x.gs.length e.p.gc (e.x.gs.map Gr.enc),.ae 374 2 e.p.LA e.x.ls.length e.p.lc (e.x.ls.map eT.enc)]
structure cV where
 es:List a8
 ts:List Tu.aX
 EA:Option Addr
 ec:Nat
 TA:Option Addr
 tc:Nat
instance:Inhabited cV:=⟨⟨[], [],none,0,none,0⟩⟩
def cV.enc(v:cV):List Value:= [.slice v.EA v.es.length v.ec,.slice v.TA v.ts.length v.tc]
def cV.ae(v:cV):List an:= .ae 169 13 v.EA v.es.length v.ec (v.es.map a8.enc):: .ae 289 4 v.TA v.ts.length v.tc (v.ts.map Tu.aX.enc)::v.es.flatMap a8.ae
structure cV.rd(w:World)(v:cV):Prop where
 e:Rd w v.EA 13 (v.es.map a8.enc)
 t:Rd w v.TA 4 (v.ts.map Tu.aX.enc)
 r:∀x∈v.es,x.rd w
structure DH where
 fJ:Int
 uE:Int
instance:Inhabited DH:=⟨⟨0,0⟩⟩
def DH.enc(c:DH):List Value:= [.int .i64 c.fJ,.int .i64 c.uE]
structure eC where
 cl:List DH
 vs:List cV
 CA:Option Addr
 cc:Nat
 VA:Option Addr
 vc:Nat
instance:Inhabited eC:=⟨⟨[], [],none,0,none,0⟩⟩
def eC.enc(c:eC):List Value:= [.slice c.CA c.cl.length c.cc,.slice c.VA c.vs.length c.vc]
def eC.ae(c:eC):List an:= .ae 266 2 c.CA c.cl.length c.cc (c.cl.map DH.enc):: .ae 161 2 c.VA c.vs.length c.vc (c.vs.map cV.enc)::c.vs.flatMap cV.ae
structure eC.rd(w:World)(y:eC):Prop where
 c:Rd w y.CA 2 (y.cl.map DH.enc)
 v:Rd w y.VA 2 (y.vs.map cV.enc)
 r:∀x∈y.vs,x.rd w
structure Bp where
 fJ:Int
 cC:Int
 mT:Bool
instance:Inhabited Bp:=⟨⟨0,0,false⟩⟩
def Bp.enc(t:Bp):List Value:= [.int .i64 t.fJ,.int .i64 t.cC,.bool t.mT]
structure ij where
 oO:Int
 ny:Int
 g0:Int
 g1:Int
 g2:Int
 g3:Int
 g4:Int
 g5:Int
instance:Inhabited ij:=⟨⟨0,0,0,0,0,0,0,0⟩⟩
def ij.enc(t:ij):List Value:= [.int .i64 t.oO,.int .i64 t.ny,.int .i64 t.g0,.int .i64 t.g1,.int .i64 t.g2,.int .i64 t.g3,.int .i64 t.g4,.int .i64 t.g5]
def ij.val(t:ij):Value:= .agg t.enc.toArray
structure Nv where
 bX:Int
 aG:Int
 met:ij
 len:Int
 jw:Int
 start:Bool
 cy:Int
 Gb:Int
 Jz:Int
 JA:Int
 we:Int
 JB:Int
 DI:ByteArray
instance:Inhabited Nv:=⟨⟨0,0,default,0,0,false,0,0,0,0,0,0,ByteArray.mk #[]⟩⟩
structure aQ where
 n:Nv
 tm:List Bp
 cs:List eC
 TA:Option Addr
 tc:Nat
 CA:Option Addr
 cc:Nat
instance:Inhabited aQ:=⟨⟨default, [], [],none,0,none,0⟩⟩
def aQ.enc(m:aQ):List Value:= [.int .i64 m.n.bX,.int .i64 m.n.aG,.int .i64 m.n.met.oO,.int .i64 m.n.met.ny,.int .i64 m.n.met.g0,.int .i64 m.n.met.g1,.int .i64 m.n.met.g2,.int .i64 m.n.met.g3,.int .i64 m.n.met.g4,.int .i64 m.n.met.g5,.int .i64 m.n.len,.int .i64 m.n.jw,.bool m.n.start,.int .i64 m.n.cy,.int .i64 m.n.Gb,.int .i64 m.n.Jz,.int .i64 m.n.JA,.int .i64 m.n.we,.int .i64 m.n.JB,.string m.n.DI,.slice m.TA m.tm.length m.tc,.slice m.CA m.cs.length m.cc]
def aQ.val(m:aQ):Value:= .agg m.enc.toArray
def aQ.ae(m:aQ):List an:= .ae 144 3 m.TA m.tm.length m.tc (m.tm.map Bp.enc):: .ae 157 2 m.CA m.cs.length m.cc (m.cs.map eC.enc)::m.cs.flatMap eC.ae
structure aQ.rd(w:World)(y:aQ):Prop where
 t:Rd w y.TA 3 (y.tm.map Bp.enc)
 c:Rd w y.CA 2 (y.cs.map eC.enc)
 r:∀x∈y.cs,x.rd w
structure lu where
 bX:Int
 aG:Int
 uE:Int
instance:Inhabited lu:=⟨⟨0,0,0⟩⟩
def lu.enc(s:lu):List Value:= [.int .i64 s.bX,.int .i64 s.aG,.int .i64 s.uE]
structure dD where
 bX:Int
 aG:Int
 name:ByteArray
 fK:Int
 fL:Int
 st:List lu
 SA:Option Addr
 sc:Nat
instance:Inhabited dD:=⟨⟨0,0,ByteArray.mk #[],0,0, [],none,0⟩⟩
def dD.enc(p:dD):List Value:= [.int .i64 p.bX,.int .i64 p.aG,.string p.name,.int .i64 p.fK,.int .i64 p.fL,.slice p.SA p.st.length p.sc]
def dD.ae(p:dD):List an:= [.ae 95 3 p.SA p.st.length p.sc (p.st.map lu.enc)]
def dD.rd(w:World)(p:dD):Prop:=Rd w p.SA 3 (p.st.map lu.enc)
structure bY where
 bX:Int
 aG:Int
deriving DecidableEq
instance:Inhabited bY:=⟨⟨0,0⟩⟩
def bY.enc(i:bY):List Value:= [.int .i64 i.bX,.int .i64 i.aG]
def bY.val(i:bY):Value:= .agg i.enc.toArray
structure iB where
 id:bY
 bf:Int
 xF:bY
 iM:bY
instance:Inhabited iB:=⟨⟨default,0,default,default⟩⟩
def iB.enc(s:iB):List Value:= [.int .i64 s.id.bX,.int .i64 s.id.aG,.int .i64 s.bf,.int .i64 s.xF.bX,.int .i64 s.xF.aG,.int .i64 s.iM.bX,.int .i64 s.iM.aG]
structure aP where
 dR:ByteArray
 e9:Bool
 ps:List dD
 ms:List aQ
 sp:List iB
 cL:List bY
 PA:Option Addr
 pc:Nat
 MA:Option Addr
 mc:Nat
 SA:Option Addr
 sc:Nat
 LA:Option Addr
 lc:Nat
def aP.enc(s:aP):List Value:= [.string s.dR,.bool s.e9,.slice s.PA s.ps.length s.pc,.slice s.MA s.ms.length s.mc,.slice s.SA s.sp.length s.sc,.slice s.LA s.cL.length s.lc]
def aP.val(s:aP):Value:= .agg s.enc.toArray
structure aP.rd(w:World)(y:aP):Prop where
 p:Rd w y.PA 6 (y.ps.map dD.enc)
 pr:∀x∈y.ps,x.rd w
 m:Rd w y.MA 22 (y.ms.map aQ.enc)
 mr:∀x∈y.ms,x.rd w
 s:Rd w y.SA 7 (y.sp.map iB.enc)
 l:Rd w y.LA 2 (y.cL.map bY.enc)
section
variable{w w':World}
theorem a8.rd.aC{e:a8}(h:e.rd w)(hk:aS nX w w'):e.rd w':=jX.aC h hk
theorem cV.rd.aC{v:cV}(h:v.rd w)(hk:aS nX w w'):v.rd w':=⟨h.e.aC hk,h.t.aC hk,fun x hx=>(h.r x hx).aC hk⟩
theorem eC.rd.aC{c:eC}(h:c.rd w)(hk:aS nX w w'):c.rd w':=⟨h.c.aC hk,h.v.aC hk,fun x hx=>(h.r x hx).aC hk⟩
theorem aQ.rd.aC{m:aQ}(h:m.rd w)(hk:aS nX w w'):m.rd w':=⟨h.t.aC hk,h.c.aC hk,fun x hx=>(h.r x hx).aC hk⟩
theorem dD.rd.aC{p:dD}(h:p.rd w)(hk:aS nX w w'):p.rd w':=Rd.aC h hk
theorem aP.rd.aC{s:aP}(h:s.rd w)(hk:aS nX w w'):s.rd w':=
 ⟨h.p.aC hk,fun x hx=>(h.pr x hx).aC hk,h.m.aC hk,fun x hx=>(h.mr x hx).aC hk,h.s.aC hk,h.l.aC hk⟩
end
def jj(w:World)(rs:List an):Prop:=∀r∈rs,r.holds w
theorem jj.eN{w:World}{a b:List an}(h:jj w (a++b)):jj w a∧jj w b:=⟨fun r hr=>h r (by simp [hr]),fun r hr=>h r (by simp [hr])⟩
theorem jj.uF{w:World}{α:Type}{l:List α}{f:α→List an}(h:jj w (l.flatMap f)):∀x∈l,jj w (f x):=fun x hx r hr=>h r (q9.2 ⟨x,hx,hr⟩)
theorem a8.b_{w:World}{e:a8}(h:jj w e.ae):e.rd w:=⟨Hr.b_ (h _ (fi ..)),Hr.b_ (h _ (gB _ (fi ..))),Hr.b_ (h _ (gB _ (gB _ (fi ..))))⟩
theorem jj.Nx{w:World}{a b:an}{l:List an}(h:jj w (a::b::l)):jj w l:=fun r hr=>h r (gB _ (gB _ hr))
theorem cV.b_{w:World}{v:cV}(h:jj w v.ae):v.rd w:=
 ⟨Hr.b_ (h _ (fi ..)),Hr.b_ (h _ (gB _ (fi ..))),fun x hx=>a8.b_ (jj.uF h.Nx x hx)⟩
theorem eC.b_{w:World}{c:eC}(h:jj w c.ae):c.rd w:=
 ⟨Hr.b_ (h _ (fi ..)),Hr.b_ (h _ (gB _ (fi ..))),fun x hx=>cV.b_ (jj.uF h.Nx x hx)⟩
theorem aQ.b_{w:World}{m:aQ}(h:jj w m.ae):m.rd w:=
 ⟨Hr.b_ (h _ (fi ..)),Hr.b_ (h _ (gB _ (fi ..))),fun x hx=>eC.b_ (jj.uF h.Nx x hx)⟩
theorem dD.b_{w:World}{p:dD}(h:jj w p.ae):p.rd w:=Hr.b_ (h _ (fi ..))
theorem rp{w:World}{rs:List an}(h:(an.aZ rs).holds w):jj w rs:=h.1
namespace Hr
theorem ax.jF{a b l:List an}:ax (.aZ a:: .aZ b::l) (.aZ (a++b)::l):=by
 refine .trans .xt (.trans ?_ (.trans (.close_ (rs:=a++b)) .refl))
 intro X W w h
 have h1:=(ax.trans (ax.aI (m':= .aZ b::(a++l)) Fs) (ax.trans .xt (ax.aI (m':=(a++b)++l) (by
  rw [←bj];exact List.perm_append_comm.append_right l)))) X W w h
 exact h1
theorem ax.Ny{a b l:List an}(h:a.Perm b):ax (.aZ a::l) (.aZ b::l):= .trans .xt (.trans (.aI (h.append_right l)) .close_)
theorem ax.focus{r:an}{rs a l:List an}(h:rs.Perm (r::a)):ax (.aZ rs::l) (r:: .aZ a::l):=by
 refine .trans (.Ny h) (.trans .xt ?_)
 show ax (r::(a++l)) _
 exact .cons .ak .refl .close_
theorem ax.aeW{r:an}{rs a l:List an}(h:rs.Perm (r::a)):ax (r:: .aZ a::l) (.aZ rs::l):= .trans .k8 (.Ny h.symm)
end Hr
theorem Us{α:Type} [Inhabited α]{f:α→List an}:∀{l:List α} {i:Nat},i<l.length→∃a,(l.flatMap f).Perm (f (aa l i)++a)∧∀y,((l.set i y).flatMap f).Perm (f y++a)
 |x::l,0,_=>⟨l.flatMap f,.refl _,fun y=> .refl _⟩
 |x::l,i+1,h=>by
  obtain⟨a,h1,h2⟩:=Us (l:=l) (i:=i) (by simpa using h)
  refine⟨f x++a,?_,fun y=>?_⟩
  ·show(f x++l.flatMap f).Perm _
   have e:aa (x::l) (i+1)=aa l i:=by simp [aa]
   rw [e,←bj]
   exact(h1.append_left _).trans (by rw [←bj];exact List.perm_append_comm.append_right _)
  ·show(f x++(l.set i y).flatMap f).Perm _
   rw [←bj]
   exact((h2 y).append_left _).trans (by rw [←bj];exact List.perm_append_comm.append_right _)
structure tx where
 fK:Int
 fL:Int
deriving DecidableEq
instance:Inhabited tx:=⟨⟨0,0⟩⟩
def tx.enc(i:tx):List Value:= [.int .i64 i.fK,.int .i64 i.fL]
def tx.val(i:tx):Value:= .agg i.enc.toArray
def iC:List tx:= [⟨0,0⟩,⟨0,0⟩,⟨1,2⟩,⟨5,9⟩,⟨4,7⟩,⟨-7,-12⟩]
theorem aeX{q:Nat}(h:q<6):([[.int .i64 0,.int .i64 0], [.int .i64 0,.int .i64 0], [.int .i64 1,.int .i64 2], [.int .i64 5,.int .i64 9], [.int .i64 4,.int .i64 7], [.int .i64 (-7),.int .i64 (-12)]]:List (List Value))[q]?=some (aa iC q).enc:=by
 have:q=0∨q=1∨q=2∨q=3∨q=4∨q=5:=oM
 rcases this with rfl|rfl|rfl|rfl|rfl|rfl<;>rfl
def qy:List ij:= [⟨4,4,0,0,0,0,0,0⟩,⟨3,4,0,0,0,0,0,0⟩,⟨6,8,0,0,0,0,0,0⟩,⟨2,2,0,0,0,0,0,0⟩,⟨5,8,3,2,0,0,0,0⟩]
theorem aeY{q:Nat}(h:q<5):([[.int .i64 4,.int .i64 4,.int .i64 0,.int .i64 0,.int .i64 0,.int .i64 0,.int .i64 0,.int .i64 0], [.int .i64 3,.int .i64 4,.int .i64 0,.int .i64 0,.int .i64 0,.int .i64 0,.int .i64 0,.int .i64 0],
  [.int .i64 6,.int .i64 8,.int .i64 0,.int .i64 0,.int .i64 0,.int .i64 0,.int .i64 0,.int .i64 0], [.int .i64 2,.int .i64 2,.int .i64 0,.int .i64 0,.int .i64 0,.int .i64 0,.int .i64 0,.int .i64 0],
  [.int .i64 5,.int .i64 8,.int .i64 3,.int .i64 2,.int .i64 0,.int .i64 0,.int .i64 0,.int .i64 0]]:List (List Value))[q]?=some (aa qy q).enc:=by
 have:q=0∨q=1∨q=2∨q=3∨q=4:=oM
 rcases this with rfl|rfl|rfl|rfl|rfl<;>rfl
def ij.gs(m:ij):List Int:= [m.g0,m.g1,m.g2,m.g3,m.g4,m.g5]
def tz(l:List Int):Nat→Int
 |0=>0
 |k+1=>if 0<aa l k then tz l k+aa l k else tz l k
def wg(l:List Int):Nat→Nat
 |0=>0
 |k+1=>if 0<aa l k then wg l k+1 else wg l k
def qz(l:List Int)(k:Nat):Prop:=aa l k<0∨64<aa l k∨(0<aa l k∧k≠wg l k)
instance(l:List Int)(k:Nat):Decidable (qz l k):=by unfold qz;infer_instance
theorem Ut(l:List Int):∀k,wg l k≤k
 |0=>ct _
 |k+1=>by have:=Ut l k;rw [wg];split<;>omega
theorem Uu{l:List Int}:∀k,(∀j,j<k→¬qz l j)→0≤tz l k∧tz l k≤64*k
 |0,_=>by rw [tz];omega
 |k+1,h=>by
  have h1:=Uu k (fun j hj=>h j  oM)
  have h2:=h k  oM
  unfold qz at h2
  rw [tz];split<;>omega
def uG(m:ij):Prop:=m.g0=0∧m.g1=0∧m.g2=0∧m.g3=0∧m.g4=0∧m.g5=0
instance(m:ij):Decidable (uG m):=by unfold uG;infer_instance
def DJ(m:ij):Prop:=uG m∨((∀k,k<6→¬qz m.gs k)∧tz m.gs 6=m.oO∧2≤wg m.gs 6)
instance(m:ij):Decidable (DJ m):=by unfold DJ;infer_instance
def wh(m:ij):Int:=if m.oO<1∨64<m.oO then 2 else if m.ny<1∨64<m.ny∨F7 .i64 m.ny (m.ny-1)≠0 then 17 else if¬DJ m then 19 else 0
def Wm(m:ij):Prop:=m∈qy
theorem Wm.all{P:ij→Prop}(h:∀q,q<5→P (aa qy q)):∀m,Wm m→P m:=by
 intro m hm
 simp only [Wm,qy,gu,uf,ug]at hm
 rcases hm with rfl|rfl|rfl|rfl|rfl
 ·exact h 0 (by decide)
 ·exact h 1 (by decide)
 ·exact h 2 (by decide)
 ·exact h 3 (by decide)
 ·exact h 4 (by decide)
theorem JC{q:Nat}(h:q<5):Wm (aa qy q):=aN (l:=qy) h
theorem Wm.sB{m:ij}(h:Wm m):wh m=0:=Wm.all (P:=fun m=>wh m=0) (fun q hq=>by
 have:q=0∨q=1∨q=2∨q=3∨q=4:=oM
 rcases this with rfl|rfl|rfl|rfl|rfl<;>decide) m h
def ij.ln(m:ij):Int:=m.oO*(1935360/m.ny)
theorem Wm.ln{m:ij}(h:Wm m):(m.ln=1935360∨m.ln=1451520∨m.ln=1209600)∧1≤m.ny∧1≤m.oO∧m.oO≤64∧m.ny≤64:=Wm.all (P:=fun m=>(m.ln=1935360∨m.ln=1451520∨m.ln=1209600)∧1≤m.ny∧1≤m.oO∧m.oO≤64∧m.ny≤64) (fun q hq=>by
 have:q=0∨q=1∨q=2∨q=3∨q=4:=oM
 rcases this with rfl|rfl|rfl|rfl|rfl<;>decide) m h
theorem TU{a b:Int}(h:1≤a∧a≤64)(hb:0≤b∧b≤1935360):0≤a*b∧a*b≤123863040:=by
 refine⟨py  oM hb.1,?_⟩
 have h1:a*b≤64*b:=nk h.2 hb.1
 omega
theorem aeZ{m:ij}(h:(m.g0==0&&(m.g1==0&&(m.g2==0&&(m.g3==0&&(m.g4==0&&(m.g5==0))))))=true):uG m:=by
 simpa [uG]using h
theorem ae0{m:ij}(h:(m.g0==0&&(m.g1==0&&(m.g2==0&&(m.g3==0&&(m.g4==0&&(m.g5==0))))))=false):¬uG m:=fun g=>by
 unfold uG at g
 simp [g]at h
theorem ae1{m:ij}{k:Nat}(h:k<6):(#[Value.int .i64 m.g0,.int .i64 m.g1,.int .i64 m.g2,.int .i64 m.g3,.int .i64 m.g4,.int .i64 m.g5])[k]?=some (.int .i64 (aa m.gs k)):=by
 have:k=0∨k=1∨k=2∨k=3∨k=4∨k=5:=oM
 rcases this with rfl|rfl|rfl|rfl|rfl|rfl<;>rfl
theorem Uv{l:List Int}{k:Nat}(h:∀j,j<k→¬qz l j)(h1:¬qz l k):∀j,j<k+1→¬qz l j:=fun j hj=>by
 by_cases e:j=k
 ·subst e;exact h1
 ·exact h j  oM
theorem ae2{m:ij}(la:¬uG m)(fH:∀j,j<6→¬qz m.gs j)(h:tz m.gs 6=m.oO):decide ((2:Int)≤(wg m.gs 6:Int))=decide (DJ m):=by
 rw [C_,ir,ir]
 exact⟨fun g=> .inr ⟨fH,h,oM⟩,fun g=>g.elim (fun g=>absurd g la) (fun g=>by have:=g.2.2;omega)⟩
theorem ae3{m:ij}(la:¬uG m)(h:¬tz m.gs 6=m.oO):false=decide (DJ m):=(cz (fun g=>g.elim la (fun g=>h g.2.1))).symm
def iD(n a:Int):Nat→List eB
 |0=> []
 |k+1=>iD n a k++(if oK k=(n-a)%12∧0≤gj k a ((n-a)/12-1)then [⟨k,a,(n-a)/12-1⟩]else [])
def jZ(n:Int):Nat→List eB
 |0=> []
 |j+1=>jZ n j++iD n (2-j) 7
def ly(n:Int):List eB:=jZ n 5
theorem Nz(n a:Int):∀k,(iD n a k).length≤k
 |0=>ct _
 |k+1=>by
  have:=Nz n a k
  rw [iD,ay]
  split<;>simp<;>omega
theorem NA(n:Int):∀j,(jZ n j).length≤7*j
 |0=>ct _
 |j+1=>by
  have:=NA n j
  have:=Nz n (2-j) 7
  rw [jZ,ay];omega
theorem Uw{n a:Int}:∀{k:Nat} {p:eB},p∈iD n a k→p.aG=n
 |k+1,p,h=>by
  rw [iD,dK]at h
  rcases h with h|h
  ·exact Uw h
  ·split at h
   ·rename_i hc
    simp only [c_]at h
    subst h
    have:=(Js hc.2).2
    show gj _ _ _=n
    rw [this,hc.1];omega
   ·cases h
theorem NB{n:Int}:∀{j:Nat} {p:eB},p∈jZ n j→p.aG=n
 |j+1,p,h=>by
  rw [jZ,dK]at h
  rcases h with h|h
  ·exact NB h
  ·exact Uw h
def rq(fl:Bool):Int:=if fl then-1 else 1
theorem ae4{n:Int}(h:40≤n∧n≤100)(fl:Bool):∃p∈ly n,p.dw=0∨p.dw=rq fl:=by
 have key:∀k∈List.range 61,∀b:Bool,((ly ((k:Int)+40)).any fun p=>p.dw==0||p.dw==rq b)=true:=by decide+kernel
 have h1:=key (n-40).toNat (by simp;omega) fl
 rw [show(((n-40).toNat:Nat):Int)+40=n from oM,C4]at h1
 obtain⟨p,hp,h2⟩:=h1
 exact⟨p,hp,by simpa using h2⟩
theorem ae5{c:Int}(h:((if c<0 then(18:Int)else 0)==0)=true):0≤c:=by
 by_cases h2:c<0
 ·rw [aH h2]at h;cases h
 ·omega
theorem ae6{c:Int}(h:((if c<0 then(18:Int)else 0)==0)=false):¬0≤c:=fun h2=>by
 rw [aB  oM]at h
 cases h
theorem Ux{fl:Bool}{q:Nat}(h:q<2):([[.int .i64 0], [.int .i64 (rq fl)]]:List (List Value))[q]?=some [.int .i64 (aa [0,rq fl] q)]:=by
 have:q=0∨q=1:=oM
 rcases this with rfl|rfl<;>rfl
theorem Uy{n:Int}{fl:Bool}{i k:Nat}(fH:∀j,j<i→∀p∈ly n,p.dw≠aa [0,rq fl] j)(hk:(ly n).length≤k)(cU:∀j,j<k→(aa (ly n) j).dw≠aa [0,rq fl] i):∀j,j<i+1→∀p∈ly n,p.dw≠aa [0,rq fl] j:=fun j hj p hp=>by
 by_cases e:j=i
 ·subst e
  obtain⟨q,hq,rfl⟩:=oz hp
  have:=cU q  oM
  simpa [aa,kW hq]using this
 ·exact fH j  oM p hp
theorem Uz{n:Int}{fl:Bool}{i:Nat}{α:Prop}(hn:40≤n∧n≤100)(fH:∀j,j<i→∀p∈ly n,p.dw≠aa [0,rq fl] j)(hi:2≤i):α:=by
 obtain⟨p,hp,h|h⟩:=ae4 hn fl
 ·exact absurd h (fH 0  oM p hp)
 ·exact absurd h (fH 1  oM p hp)
namespace gq
section
variable{α:Type}{p:α→Bool}
def hQ(p:α→Bool):List α→Nat
 | []=>0
 |x::r=>if p x=true then 0 else hQ p r+1
def pJ(p:α→Bool)(l:List α):Int:=if hQ p l<l.length then(hQ p l:Int)else-1
theorem JD [Inhabited α]{l:List α}{k:Nat}(hk:k<l.length)(h:hQ p l=k+hQ p (l.drop k))(hp:p (aa l k)=false):hQ p l=(k+1)+hQ p (l.drop (k+1)):=by
 rw [ku hk,hQ,aB (by simp [hp])]at h
 omega
theorem JE [Inhabited α]{l:List α}{k:Nat}(hk:k<l.length)(h:hQ p l=k+hQ p (l.drop k))(hp:p (aa l k)=true):pJ p l=(k:Int):=by
 rw [ku hk,hQ,aH hp,AP]at h
 rw [pJ,h,aH hk]
theorem JG{l:List α}{k:Nat}(hk:l.length≤k)(h:hQ p l=k+hQ p (l.drop k)):pJ p l= -1:=by
 rw [pJ,aB  oM]
def bu(p:α→Bool)(l:List α):List α:=l.filter fun x=> !p x
theorem UA [Inhabited α]:∀(l:List α),hQ p l<l.length→bu p (l.take (hQ p l+1))=l.take (hQ p l)∧p (aa l (hQ p l))=true
 | [],h=>by simp at h
 |x::r,h=>by
  rw [hQ]at h⊢
  by_cases hx:p x=true
  ·rw [aH hx];simp [bu,hx,aa]
  ·rw [aB hx]at h⊢
   obtain⟨h1,h2⟩:=UA r (by simp at h;omega)
   refine⟨?_,?_⟩
   ·rw [List.take_succ_cons,List.take_succ_cons,bu,List.filter_cons,aH (by simp [hx])]
    rw [bu]at h1;rw [h1]
   ·simpa [aa]using h2
theorem ae7 [Inhabited α]{l:List α}(h:pJ p l≠-1):∃i:Nat,i<l.length∧pJ p l=(i:Int)∧bu p (l.take (i+1))=l.take i∧p (aa l i)=true:=by
 unfold pJ at h⊢
 split at h
 ·rename_i bN
  obtain⟨h1,h2⟩:=UA l bN
  exact⟨hQ p l,bN,by rw [aH bN],h1,h2⟩
 ·exact absurd rfl h
end
end gq
structure oG(l:List Hd):Prop where
 up:∀i,0<i→i<l.length→(aa l (i-1)).aG<(aa l i).aG
 ok:∀i,i<l.length→nw (aa l i)=0
def rr(n:Int):Nat→Int
 |0=>n
 |k+1=>rr n k/2
def Bt(n:Int):Nat→Int
 |0=>n
 |k+1=>Bt n k+rr n (k+1)
theorem DK{n:Int}(h:0≤n∧n≤3870720):∀k,0≤rr n k∧rr n k≤3870720
 |0=>h
 |k+1=>by
  have:=DK h k
  rw [rr];omega
theorem UB{n:Int}(h:0≤n∧n≤3870720):∀k,0≤Bt n k∧Bt n k≤3870720*(k+1)
 |0=>by rw [Bt];omega
 |k+1=>by
  have h1:=UB h k
  have h2:=DK h (k+1)
  rw [Bt];omega
def fQ(a b:Int):Int:=Bt (rr 3870720 (a+1).toNat) b.toNat
theorem JH{a:Int}(h: -1≤a∧a≤8):(3870720:Int).fdiv (2^(min (a+1).toNat IntKind.i64.bits))=rr 3870720 (a+1).toNat:=by
 have:a= -1∨a=0∨a=1∨a=2∨a=3∨a=4∨a=5∨a=6∨a=7∨a=8:=oM
 rcases this with rfl|rfl|rfl|rfl|rfl|rfl|rfl|rfl|rfl|rfl<;>rfl
theorem ae8{x:cF}(h:ig x=0)(h3:x.n.bf≠3):gx x.n.fp x.n.ji:=by
 by_cases hv:gx x.n.fp x.n.ji
 ·exact hv
 ·exfalso
  unfold ig at h
  split at h
  ·cases h
  ·split at h
   ·cases h
   ·split at h
    ·cases h
    ·rw [aH ⟨h3,hv⟩]at h;cases h
structure Up(l:List Hd):Prop where
 up:∀i,0<i→i<l.length→(aa l (i-1)).aG<(aa l i).aG
 ok:∀x∈l,¬x.aG<0
theorem NC{α:Type}{p:α→Bool}:∀l:List α,decide (0≤gq.pJ p l)=l.any p:=by
 intro l
 have h:∀l:List α,decide (gq.hQ p l<l.length)=l.any p:=by
  intro l
  induction l with
  |nil=>rfl
  |cons a r ih=>
   rw [gq.hQ,List.any_cons]
   by_cases ha:p a=true
   ·rw [aH ha,ha];simp
   ·rw [aB ha,←ih,show p a=false from by simpa using ha];simp
 rw [←h l,gq.pJ]
 by_cases h1:gq.hQ p l<l.length
 ·rw [aH h1,de h1];exact de  oM
 ·rw [aB h1,cz h1];rfl
def DL(h:Hd):Bool:=h.oJ
def Bu(h k:Hd):Bool:=k.step==h.step&&(k.dw==h.dw&&(k.eK==h.eK))
def sC(x:cF):Bool:=decide (x.n.bf=1)&&x.hs.any DL
def xG(y:cF)(h:Hd):Bool:= !h.oJ||(decide (y.n.bf=1)&&y.hs.any (Bu h))
def Bv(x y:cF):Bool:= !decide (x.n.bf=1)||x.hs.all (xG y)
def DM{α:Type}(p:α→Bool)(l:List α)(k:Nat):Bool:=(l.take k).all p
theorem UC{α:Type} [Inhabited α]{p:α→Bool}{l:List α}{k:Nat}(h:k<l.length):DM p l (k+1)=(DM p l k&&p (aa l k)):=by simp [DM,nR h]
theorem ae9{α:Type}{p:α→Bool}{l:List α}{k:Nat}(h:l.length≤k):DM p l k=l.all p:=by rw [DM,mL h]
theorem UD{α:Type} [Inhabited α]{p:α→Bool}{l:List α}{k:Nat}(h:k<l.length)(hp:p (aa l k)=false):l.all p=false:=by
 rw [List.all_eq_false]
 exact⟨aa l k,aN h,by simp [hp]⟩
theorem ae_{w:World}{b:Nat}{t:TypeId}{v0 v1 v2 v3 v4:Value}(h:(an.aj b t [(0,v0),(1,v1),(2,v2),(3,v3),(4,v4)]).holds w):Rd w (some ⟨b,0,none⟩) 5 [[v0,v1,v2,v3,v4]]:=
 FX h fun i u hu=>by
  match i,hu with
  |0,hu=>simpa [cW]using hu
  |1,hu=>simpa [cW]using hu
  |2,hu=>simpa [cW]using hu
  |3,hu=>simpa [cW]using hu
  |4,hu=>simpa [cW]using hu
  |i+5,hu=>simp at hu
namespace Hr
section
variable{P:Program}{w:World}{t:TypeId}{cs:Array Value}{off s d:Nat}{v:Value}
theorem fB(h:k9 P t)(hx:cs[off]?=some v):(part t cs off).run P w= .ok v w:=by simp [part,h.1,hx]
theorem JI{ys:Array Value}(h:pC P t s)(hy:cs.extract off (off+s)=ys):(part t cs off).run P w= .ok (.agg ys) w:=by simp [part,h.1,h.2.run,hy]
theorem Gc{xs ys:Array Value}:(Op.eqFields d xs ys []).run P w= .ok true w:=by simp [Op.eqFields]
theorem nU{xs ys:Array Value}{f:Field}{fs:List Field}{a b:Value}{r r':Bool}(hn:f.name≠ "_")(ha:(part f.type xs f.offset).run P w= .ok a w)(hb:(part f.type ys f.offset).run P w= .ok b w)(he:(Op.equalIn d f.type a b).run P w= .ok r w)
  (hr:(Op.eqFields d xs ys fs).run P w= .ok r' w):(Op.eqFields d xs ys (f::fs)).run P w= .ok (r&&r') w:=by
 simp only [Op.eqFields,hn,ne_eq,not_false_eq_true,if_true,pw,ha,hb,he,sf]
 cases r
 ·simp
 ·simpa using hr
end
section
variable{P:Program}{w:World}{e:TypeId}{xs ys:Array Value}{c d i:Nat}{is:List Nat}
theorem afa:(Op.eqItems d e c xs ys []).run P w= .ok true w:=by simp [Op.eqItems]
theorem DN{a b:Value}{r r':Bool}(ha:(part e xs (i*c)).run P w= .ok a w)(hb:(part e ys (i*c)).run P w= .ok b w)(he:(Op.equalIn d e a b).run P w= .ok r w)
  (hr:(Op.eqItems d e c xs ys is).run P w= .ok r' w):(Op.eqItems d e c xs ys (i::is)).run P w= .ok (r&&r') w:=by
 simp only [Op.eqItems,pw,ha,hb,he,sf]
 cases r
 ·simp
 ·simpa using hr
end
section
variable{P:Program}{X:Nat→Prop}{W:World}{n:Nat}{S:St}{o:Oper}{x y:Operand}{t t':TypeId}{i j:Int}{k:IntKind}
theorem lz(ho:o.op= .binOp .quo t x y t')(hx:ev S.ah x=some (.int k i))(hy:ev S.ah y=some (.int k j))(h:0≤i∧1≤j)(hw:k.wrap (i/j)=i/j):Q1 P X W n S o (.int k (i/j)):=by
 have h1:=I2 (P:=P) (X:=X) (W:=W) (n:=n) ho hx hy  oM
 rw [Int.tdiv_eq_ediv_of_nonneg h.1,hw]at h1
 exact h1
end
theorem ND{n:Int}(h:0≤n∧n≤255):IntKind.wrap .u8 n=n:=by simp [IntKind.wrap,IntKind.signed,IntKind.bits]<;>omega
theorem afb{n:Int}(h:0≤n∧n≤65535):IntKind.wrap .u16 n=n:=by simp [IntKind.wrap,IntKind.signed,IntKind.bits]<;>omega
theorem afc(n:Int):0≤IntKind.wrap .u8 n∧IntKind.wrap .u8 n≤255:=by simp [IntKind.wrap,IntKind.signed,IntKind.bits]<;>omega
theorem ru{n m:Int}(h:0≤n∧n≤255)(hm:1≤m):IntKind.wrap .u8 (n/m)=n/m:=ND ⟨vE h.1  oM,vG (Ff _ h.1) h.2⟩
theorem DQ{n m:Int}(h:0≤n∧n≤65535)(hm:1≤m):IntKind.wrap .u16 (n/m)=n/m:=afb ⟨vE h.1  oM,vG (Ff _ h.1) h.2⟩
end Hr
structure lA where
 bf:Int
 value:Int
 Bw:Int
 nV:Int
 DR:Bool
 df:Int
instance:Inhabited lA:=⟨⟨0,0,0,0,false,0⟩⟩
def lA.enc(x:lA):List Value:= [.int .u8 x.bf,.int .u8 x.value,.int .u8 x.Bw,.int .u8 x.nV,.bool x.DR,.int .u16 x.df]
def lA.val(x:lA):Value:= .agg x.enc.toArray
structure lA.ok(x:lA):Prop where
 k:0≤x.bf∧x.bf≤255
 v:0≤x.value∧x.value≤255
 p:0≤x.Bw∧x.Bw≤255
 m:0≤x.nV∧x.nV≤255
 s:0≤x.df∧x.df≤65535
structure wi(l:List Hd):Prop where
 n:l.length=1∨l.length=2
 e:oL l=0
 r:∀h∈l,48≤h.aG∧h.aG≤90
def ry(p:eB)(t:Bool)(s:Int):Hd:=⟨p.step,p.dw,p.eK,t,s⟩
theorem DS(p:eB)(t:Bool)(s:Int):(ry p t s).aG=p.aG:=rfl
theorem afd{p:eB}{t:Bool}(h:48≤p.aG∧p.aG≤90):wi [ry p t 0]:=by
 refine⟨.inl rfl,?_,fun x hx=>?_⟩
 ·have e:nw (ry p t 0)=0:=Ni (by rw [DS];omega) (by show¬((0:Int)<0∨2<(0:Int));decide)
  rw [Jt  sM sM]
  simp [cI,hF,aa,e]
 ·simp only [c_]at hx
  subst hx;exact h
theorem UE{p q:eB}{t u:Bool}{s:Int}(h:48≤p.aG∧p.aG≤90)(h2:p.aG<q.aG∧q.aG≤90)(hs:0≤s∧s≤2):wi [ry p t 0,ry q u s]:=by
 refine⟨.inr rfl,?_,fun x hx=>?_⟩
 ·have e:nw (ry p t 0)=0:=Ni (by rw [DS];omega) (by show¬((0:Int)<0∨2<(0:Int));decide)
  have e2:nw (ry q u s)=0:=Ni (by rw [DS];omega) (by show¬(s<0∨2<s);omega)
  rw [Jt  sM sM]
  have e3:¬(ry q u s).aG≤(ry p t 0).aG:=by rw [DS,DS];omega
  simp [cI,hF,aa,e,e2,e3]
 ·simp only [gu,uf,ug]at hx
  rcases hx with rfl|rfl
  ·exact h
  ·rw [DS];omega
def zh:List ByteArray:= [⟨#[108,97]⟩,⟨#[115,111,108]⟩,⟨#[97]⟩]
theorem UF{q:Nat}(h:q<3):([[.string ⟨#[108,97]⟩], [.string ⟨#[115,111,108]⟩], [.string ⟨#[97]⟩]]:List (List Value))[q]?=some [.string (aa zh q)]:=by
 have:q=0∨q=1∨q=2:=oM
 rcases this with rfl|rfl|rfl<;>rfl
structure iX(x:cF)(id lg d:Int):Prop where
 bX:x.n.bX=1
 aG:x.n.aG=id
 fp:x.n.fp=lg
 ji:x.n.ji=d
 bf:x.n.bf=1∨x.n.bf=2∨x.n.bf=4
 hs:x.n.bf=1→wi x.hs
 Bx:x.n.bf≠1→x.hs= []∧x.gs= []∧x.ls= []∧x.n.eU=0∧x.n.dr=0∧x.n.dV=0
 gs:x.gs= []∨∃g,x.gs= [g]∧48≤g.aG∧g.aG≤90∧g.fp=3
 ls:x.ls= []∨∃q,q<3∧x.ls= [⟨aa zh q,0⟩]
 eU:0≤x.n.eU∧x.n.eU≤3
 dr:0≤x.n.dr∧x.n.dr≤4
 dV:0≤x.n.dV∧x.n.dV≤9
 iW:x.n.iW=0
 jv:x.n.jv=0
theorem iX.gG{x:cF}{id lg d:Int}(h:iX x id lg d):x.gG:=by
 refine⟨?_,?_,?_,by have:=h.eU;omega⟩
 ·by_cases hk:x.n.bf=1
  ·rcases(h.hs hk).n with h1|h1<;>omega
  ·rw [(h.Bx hk).1];decide
 ·rcases h.gs with h1|⟨g,h1,_⟩<;>rw [h1]<;>simp
 ·rcases h.ls with h1|⟨q,_,h1⟩<;>rw [h1]<;>simp
theorem afe{q:Nat}(h:q<3):oN [⟨aa zh q,0⟩]=0:=by
 have:q=0∨q=1∨q=2:=oM
 rcases this with rfl|rfl|rfl<;>decide+kernel
theorem iX.sB{x:cF}{id lg d:Int}(h:iX x id lg d)(hi:0≤id∧id≤1073741824)(hv:gx lg d):ig x=0:=by
 have ha:=h.eU
 have ho:=h.dr
 have hd:=h.dV
 have fX:mi x.n:=by unfold mi;rw [h.bX,h.aG];omega
 have hk:¬(x.n.bf<1∨4<x.n.bf):=by have:=h.bf;omega
 have wj:¬(x.n.bf≠3∧¬gx x.n.fp x.n.ji):=by rw [h.fp,h.ji];exact fun g=>g.2 hv
 have dQ:wc x.n:=by unfold wc;rw [h.iW,h.jv];omega
 have hp:¬(x.n.bf=1∧mj x≠0):=by
  rintro⟨h1,h2⟩
  refine h2 ?_
  have hg:tu x.gs=0:=by
   rcases h.gs with e|⟨g,e,g1,g2,g3⟩
   ·rw [e];rfl
   ·rw [e,Ju sM]
    have e2:uB g=0:=Nj  oM oM
    simp [cI,gF,aa,e2]
  have hl:oN x.ls=0:=by
   rcases h.ls with e|⟨q,hq,e⟩
   ·rw [e];rfl
   ·rw [e];exact afe hq
  rw [mj,(h.hs h1).e,hg,hl];rfl
 have hs:jY x (kz x):=by
  by_cases h1:x.n.bf=1
  ·rw [F9 (by unfold fz;omega)];exact Nt x
  ·obtain⟨b1,b2,b3,b4,b5,b6⟩:=h.Bx h1
   have hb:fz x.n.bf:=by have:=h.bf;unfold fz;omega
   have h3:¬x.n.bf=3:=by have:=h.bf;omega
   rw [kz,aH hb]
   simp only [jY,aB h3,b1,b2,b3,b4,b5,b6,h.iW,h.jv,iA,and_self,true_and,kX]
   split<;>rfl
 rw [zg fX hk hs wj hp,Ur dQ]
theorem Ge{k id lg d:Int}(h:k=2∨k=4):iX ⟨⟨1,id,k,lg,d,0,0,0,0,0⟩, [], [], []⟩ id lg d:=
 ⟨rfl,rfl,rfl,rfl,.inr h,fun h1=>by have e:k=1:=h1;omega,fun _=>⟨rfl,rfl,rfl,rfl,rfl,rfl⟩,.inl rfl,.inl rfl,⟨jT _,show(0:Int)≤3 by decide⟩,⟨jT _,show(0:Int)≤4 by decide⟩,⟨jT _,show(0:Int)≤9 by decide⟩,rfl,rfl⟩
theorem JJ{id lg d eU dr dV:Int}{hs:List Hd}{gs:List Gr}{ls:List eT}(hh:wi hs)(hg:gs= []∨∃g,gs= [g]∧48≤g.aG∧g.aG≤90∧g.fp=3)(hl:ls= []∨∃q,q<3∧ls= [⟨aa zh q,0⟩])(ha:0≤eU∧eU≤3)(ho:0≤dr∧dr≤4)(hd:0≤dV∧dV≤9):
  iX ⟨⟨1,id,1,lg,d,eU,dr,dV,0,0⟩,hs,gs,ls⟩ id lg d:=
 ⟨rfl,rfl,rfl,rfl,.inl rfl,fun _=>hh,fun h=>absurd rfl h,hg,hl,ha,ho,hd,rfl,rfl⟩
theorem Gf{l:List Hd}(h:wi l):0<l.length:=by rcases h.n with h|h<;>omega
theorem UG{l:List Hd}(h:wi l):48≤(aa l 0).aG∧(aa l 0).aG≤90:=h.r _ (aN (Gf h))
def JK(h:Hd)(s:Bool):Gr:=⟨h.step,h.dw,h.eK,3,s⟩
theorem UH{h:Hd}{s:Bool}(hh:48≤h.aG∧h.aG≤90):([JK h s]=([]:List Gr))∨∃g, [JK h s]= [g]∧48≤g.aG∧g.aG≤90∧g.fp=3:= .inr ⟨_,rfl,hh.1,hh.2,rfl⟩
structure nz(ts:List Tu.aX)(m:Int):Prop where
 rz:∀i,i<ts.length→(aa ts i).count=3∧(aa ts i).nt=3∧(aa ts i).normal=2∧0≤(aa ts i).first∧(aa ts i).first+3≤m
 aZ:∀i j,i<j→j<ts.length→(aa ts i).first+3≤(aa ts j).first
theorem nz.fo{ts:List Tu.aX}{m:Int}(h:nz ts m){i:Nat}(hi:i<ts.length):Tu.fo (aa ts i)=(aa ts i).first+3:=by
 rw [Tu.fo,(h.rz i hi).1]
theorem nz.NF{ts:List Tu.aX}{n:Int}(h:nz ts n)(h2:n≤128):Tu.oG n ts ts.length:=by
 intro i hi
 obtain⟨e1,e2,e3,e4,e5⟩:=h.rz i hi
 refine Tu.ML (by unfold Tu.lq;omega) (fun h0=>?_) ?_
 ·have:=h.aZ (i-1) i  oM hi
  unfold Tu.pG;omega
 ·have e:Tu.lL ts i (aa ts i).first= []:=by
   refine Tu.adU fun u hu=>?_
   obtain⟨j,hj,xv,rfl⟩:=Tu.MN hu
   rw [h.fo xv]
   exact h.aZ j i hj hi
  unfold Tu.qw
  rw [e]
  simp
theorem nz.check{ts:List Tu.aX}{n:Int}(h:nz ts n)(h1:0≤n)(h2:n≤128)(h3:ts.length≤16):Tu.nu ts n=0:=Tu.TC h1 h2 h3 (h.NF h2)
theorem NG{ts:List Tu.aX}{e:Int}:∀{k:Nat},(∀j,j<k→Tu.fI (aa ts j) e=false)→Tu.NN ts e k=1∧Tu.DD ts e k=1
 |0,_=>⟨rfl,rfl⟩
 |k+1,h=>by
  obtain⟨h1,h2⟩:=NG (k:=k) fun j hj=>h j  oM
  rw [Tu.Jn (h k  oM),Tu.Jo (h k  oM)]
  exact⟨h1,h2⟩
theorem UI{ts:List Tu.aX}{e:Int}{i:Nat}(h1:Tu.fI (aa ts i) e=true)(hn:(aa ts i).normal=2)(ha:(aa ts i).nt=3):∀{k:Nat},i<k→(∀j,j<k→j≠i→Tu.fI (aa ts j) e=false)→Tu.NN ts e k=2∧Tu.DD ts e k=3
 |k+1,hi,h=>by
  by_cases e0:i=k
  ·subst e0
   obtain⟨g1,g2⟩:=NG (ts:=ts) (e:=e) (k:=i) fun j hj=>h j  oM oM
   rw [Tu.NN,Tu.DD,aH h1,aH h1,g1,g2,hn,ha]
   exact⟨rfl,rfl⟩
  ·obtain⟨g1,g2⟩:=UI h1 hn ha (k:=k)  oM fun j hj=>h j  oM
   rw [Tu.Jn (h k  oM oM),Tu.Jo (h k  oM oM)]
   exact⟨g1,g2⟩
theorem Gg{t:Tu.aX}{e:Int}(h:e<t.first∨Tu.fo t≤e):Tu.fI t e=false:=by
 cases h1:Tu.fI t e with
 |false=>rfl
 |true=>rw [Tu.xB]at h1;omega
theorem UJ{ts:List Tu.aX}{e x:Int}(hx:0≤x∧x≤7741440)(h:∀j,j<ts.length→Tu.fI (aa ts j) e=false):Tu.gV ts e x=(x,0):=by
 obtain⟨h1,h2⟩:=NG h
 rw [Tu.MY hx (by rw [h1,h2];omega),h1,h2]
 simp
theorem aff{ts:List Tu.aX}{m e x:Int}(h:nz ts m)(hx:0≤x∧x≤7741440)(h3:x%3=0){i:Nat}(hi:i<ts.length)(he:(aa ts i).first≤e∧e<(aa ts i).first+3):Tu.gV ts e x=(x*2/3,0):=by
 have h1:Tu.fI (aa ts i) e=true:=by rw [Tu.xB,h.fo hi];exact he
 obtain⟨g1,g2⟩:=UI h1 (h.rz i hi).2.2.1 (h.rz i hi).2.1 hi fun j hj nW=>by
  rcases ie j i with bN|AT
  ·exact Gg (.inr (by rw [h.fo hj];have:=h.aZ j i bN hi;omega))
  ·exact Gg (.inl (by have:=h.aZ i j  oM hj;omega))
 rw [Tu.MY hx (by rw [g1,g2];omega),g1,g2]
 rfl
instance:Inhabited cF:=⟨cF.zero⟩
def cF.bq(x:cF):Int:=if x.n.bf=3 then 0 else fQ x.n.fp x.n.ji
theorem By{a b:Int}(h:gx a b):0≤fQ a b∧fQ a b≤7741440:=by
 unfold gx at h
 have h1:a= -1∨a=0∨a=1∨a=2∨a=3∨a=4∨a=5∨a=6∨a=7∨a=8:=oM
 have h2:b=0∨b=1∨b=2∨b=3:=oM
 rcases h1 with rfl|rfl|rfl|rfl|rfl|rfl|rfl|rfl|rfl|rfl<;>rcases h2 with rfl|rfl|rfl|rfl<;>decide
theorem iX.bq{x:cF}{id lg d:Int}(h:iX x id lg d):x.bq=fQ lg d:=by
 rw [cF.bq,aB (by have:=h.bf;omega),h.fp,h.ji]
def jG(es:List cF):List Int:=es.map cF.bq
def kA(es:List cF)(ts:List Tu.aX):List Int:=Tu.qx ts (jG es) es.length
structure VS(es:List cF)(ts:List Tu.aX)(u:Int):Prop where
 ev:∀j,j<es.length→∃id lg d,iX (aa es j) id lg d∧gx lg d
 rA:nz ts es.length
 JL:∀i,i<ts.length→∃lg:Int,1≤lg∧lg≤4∧∀j:Nat,(aa ts i).first≤j→(j:Int)<(aa ts i).first+3→(aa es j).bq=fQ lg 0
 ok:∀j:Nat,j<es.length→(Tu.gV ts j (aa es j).bq).2=0∧0≤(Tu.gV ts j (aa es j).bq).1
 sum:Tu.gE (kA es ts)=u
theorem VS.nil:VS [] [] 0:=⟨fun j h=>absurd h sM,⟨fun i h=>absurd h sM,fun i j _ h=>absurd h sM⟩,fun i h=>absurd h sM,fun j h=>absurd h sM,rfl⟩
theorem nA{α:Type} [Inhabited α]{l r:List α}{j:Nat}(h:j<l.length):aa (l++r) j=aa l j:=by simp [aa,C0 h]
theorem Gh{α:Type} [Inhabited α]{l r:List α}{j:Nat}(h:l.length≤j):aa (l++r) j=aa r (j-l.length):=by simp [aa,xi h]
theorem xH{es:List cF}{j:Nat}(h:j<es.length):aa (jG es) j=(aa es j).bq:=by
 simp [aa,jG,h]
theorem NH{ts UK:List Tu.aX}{w w':List Int}:∀{n:Nat},(∀j:Nat,j<n→(Tu.gV UK j (aa w' j)).1=(Tu.gV ts j (aa w j)).1)→Tu.qx UK w' n=Tu.qx ts w n
 |0,_=>rfl
 |n+1,h=>by rw [Tu.Bj,Tu.Bj,h n  oM,NH fun j hj=>h j  oM]
theorem VS.one{es:List cF}{ts:List Tu.aX}{u:Int}(h:VS es ts u){e:cF}{id lg d:Int}(he:iX e id lg d)(hv:gx lg d):VS (es++ [e]) ts (u+fQ lg d):=by
 have afg:∀x:Int,0≤x∧x≤7741440→Tu.gV ts es.length x=(x,0):=fun x hx=>UJ hx fun j hj=>Gg (.inr (by rw [h.rA.fo hj];exact(h.rA.rz j hj).2.2.2.2))
 have pK:=afg _ (By hv)
 have e1:∀j,j<es.length→aa (es++ [e]) j=aa es j:=fun j hj=>nA hj
 have e2:aa (es++ [e]) es.length=e:=by rw [Gh (ct _),Fq];rfl
 refine⟨fun j hj=>?_,⟨fun i hi=>?_,h.rA.aZ⟩,fun i hi=>?_,fun j hj=>?_,?_⟩
 ·by_cases bN:j<es.length
  ·rw [e1 j bN];exact h.ev j bN
  ·rw [show j=es.length from by simp at hj;omega,e2];exact⟨_,_,_,he,hv⟩
 ·have:=h.rA.rz i hi
  simp only [ay,sg];omega
 ·obtain⟨l,l1,l2,l3⟩:=h.JL i hi
  refine⟨l,l1,l2,fun j h1 h2=>?_⟩
  have:=(h.rA.rz i hi).2.2.2.2
  rw [e1 j  oM];exact l3 j h1 h2
 ·by_cases bN:j<es.length
  ·rw [e1 j bN];exact h.ok j bN
  ·rw [show j=es.length from by simp at hj;omega,e2,he.bq,pK];exact⟨rfl,(By hv).1⟩
 ·have e3:kA (es++ [e]) ts=kA es ts++ [fQ lg d]:=by
   unfold kA
   rw [ay,sg,Tu.Bj]
   rw [xH sM,e2,he.bq,pK]
   congr 1
   exact NH fun j hj=>by rw [xH (by simp;omega),xH hj,e1 j hj]
  rw [e3,Tu.Bk,h.sum]
  simp [Tu.gE]
def mn(n:Nat):Tu.aX:=⟨n,3,3,2⟩
theorem UL{lg:Int}(h:1≤lg∧lg≤4):fQ lg 0%3=0∧gx lg 0:=by
 have:lg=1∨lg=2∨lg=3∨lg=4:=oM
 rcases this with rfl|rfl|rfl|rfl<;>decide
theorem VS.afh{es:List cF}{ts:List Tu.aX}{u:Int}(h:VS es ts u){a b c:cF}{i1 i2 i3 lg:Int}(ha:iX a i1 lg 0)(hb:iX b i2 lg 0)(hc:iX c i3 lg 0)(hl:1≤lg∧lg≤4):
  VS (es++ [a,b,c]) (ts++ [mn es.length]) (u+2*fQ lg 0):=by
 obtain⟨h3,hv⟩:=UL hl
 have tA:=By hv
 have UM:nz (ts++ [mn es.length]) (es.length+3):=by
  refine⟨fun i hi=>?_,fun i j pF hj=>?_⟩
  ·by_cases bN:i<ts.length
   ·rw [nA bN];have:=h.rA.rz i bN;omega
   ·rw [Gh  oM,show i-ts.length=0 from by simp at hi;omega]
    simp [aa,mn]
  ·by_cases bN:j<ts.length
   ·rw [nA bN,nA  oM];exact h.rA.aZ i j pF bN
   ·have gU:j=ts.length:=by simp at hj;omega
    subst gU
    rw [Gh (ct _),nA pF,Fq]
    exact(h.rA.rz i pF).2.2.2.2
 have gT:((es++ [a,b,c]).length:Int)=es.length+3:=by simp
 have pK:∀k:Nat,k<3→aa (es++ [a,b,c]) (es.length+k)=aa [a,b,c] k:=fun k hk=>by rw [Gh  oM,Nat.add_sub_cancel_left]
 have Bz:∀k:Nat,k<3→(aa (es++ [a,b,c]) (es.length+k)).bq=fQ lg 0:=fun k hk=>by
  rw [pK k hk]
  have:k=0∨k=1∨k=2:=oM
  rcases this with rfl|rfl|rfl
  ·exact ha.bq
  ·exact hb.bq
  ·exact hc.bq
 have tt:aa (ts++ [mn es.length]) ts.length=mn es.length:=by rw [Gh (ct _),Fq];rfl
 have BB:∀k:Nat,k<3→Tu.gV (ts++ [mn es.length]) ((es.length+k:Nat):Int) (fQ lg 0)=(fQ lg 0*2/3,0):=fun k hk=>
  aff UM tA h3 (i:=ts.length)  sM  (by rw [tt];simp [mn];omega)
 have nQ:∀(j:Nat) (x:Int),j<es.length→Tu.gV (ts++ [mn es.length]) j x=Tu.gV ts j x:=fun j x hj=>by
  have hk:∀k,k≤ts.length→Tu.NN (ts++ [mn es.length]) j k=Tu.NN ts j k∧Tu.DD (ts++ [mn es.length]) j k=Tu.DD ts j k:=by
   intro k
   induction k with
   |zero=>intro _;exact⟨rfl,rfl⟩
   |succ k ih=>
    intro hk
    obtain⟨g1,g2⟩:=ih  oM
    rw [Tu.NN,Tu.NN,Tu.DD,Tu.DD,nA  oM,g1,g2]
    exact⟨rfl,rfl⟩
  obtain⟨g1,g2⟩:=hk ts.length (ct _)
  have hb:Tu.fI (aa (ts++ [mn es.length]) ts.length) j=false:=by rw [tt];exact Gg (.inl (by simp [mn];omega))
  have e1:Tu.NN (ts++ [mn es.length]) j (ts++ [mn es.length]).length=Tu.NN ts j ts.length:=by
   rw [ay,sg,Tu.Jn hb,g1]
  have e2:Tu.DD (ts++ [mn es.length]) j (ts++ [mn es.length]).length=Tu.DD ts j ts.length:=by
   rw [ay,sg,Tu.Jo hb,g2]
  unfold Tu.gV
  rw [e1,e2]
 have UN:∀j:Nat,j<(es++ [a,b,c]).length→j<es.length∨∃k,k<3∧j=es.length+k:=fun j hj=>by
  by_cases bN:j<es.length
  ·exact .inl bN
  ·exact .inr ⟨j-es.length,by simp at hj;omega,oM⟩
 refine⟨fun j hj=>?_,by rw [gT];exact UM,fun i hi=>?_,fun j hj=>?_,?_⟩
 ·rcases UN j hj with bN|⟨k,hk,rfl⟩
  ·rw [nA bN];exact h.ev j bN
  ·rw [pK k hk]
   have:k=0∨k=1∨k=2:=oM
   rcases this with rfl|rfl|rfl
   ·exact⟨_,_,_,ha,hv⟩
   ·exact⟨_,_,_,hb,hv⟩
   ·exact⟨_,_,_,hc,hv⟩
 ·by_cases bN:i<ts.length
  ·obtain⟨l,l1,l2,l3⟩:=h.JL i bN
   refine⟨l,l1,l2,?_⟩
   rw [nA bN]
   intro j h1 h2
   have:=(h.rA.rz i bN).2.2.2.2
   rw [nA  oM];exact l3 j h1 h2
  ·have iJ:i=ts.length:=by simp at hi;omega
   subst iJ
   rw [tt]
   refine⟨lg,hl.1,hl.2,fun j h1 h2=>?_⟩
   simp only [mn]at h1 h2
   have:=Bz (j-es.length)  oM
   rwa [show es.length+(j-es.length)=j from oM]at this
 ·rcases UN j hj with bN|⟨k,hk,rfl⟩
  ·rw [nA bN,nQ j _ bN];exact h.ok j bN
  ·rw [Bz k hk,BB k hk];exact⟨rfl,by show 0≤fQ lg 0*2/3;omega⟩
 ·have zi:kA (es++ [a,b,c]) (ts++ [mn es.length])=kA es ts++ [fQ lg 0*2/3,fQ lg 0*2/3,fQ lg 0*2/3]:=by
   unfold kA
   rw [show(es++ [a,b,c]).length=es.length+0+1+1+1 from by simp,Tu.Bj,Tu.Bj,Tu.Bj]
   have q:∀k:Nat,k<3→(Tu.gV (ts++ [mn es.length]) ((es.length+k:Nat):Int) (aa (jG (es++ [a,b,c])) (es.length+k))).1=fQ lg 0*2/3:=fun k hk=>by
    rw [xH (by simp;omega),Bz k hk,BB k hk]
   have q0:=q 0  oM
   rw [AP]at q0
   rw [show es.length+0+1+1=es.length+2 from rfl,show es.length+0+1=es.length+1 from rfl,AP,q0,q 1  oM,q 2  oM]
   rw [bj,bj]
   congr 1
   exact NH fun j hj=>by rw [xH (by simp;omega),xH hj,nA hj,nQ j _ hj]
  rw [zi,Tu.Bk,h.sum]
  simp only [Tu.gE]
  omega
theorem afi{lg:Int}(h:1≤lg∧lg≤4):fQ lg 0=rr 3870720 (lg+1).toNat:=by
 have:lg=1∨lg=2∨lg=3∨lg=4:=oM
 rcases this with rfl|rfl|rfl|rfl<;>rfl
theorem afj{lg L:Int}(h:1≤lg∧lg≤4)(hL: -1≤L∧L≤lg)(he:3*fQ lg 0=3*rr 3870720 (L+1).toNat):L=lg:=by
 have h1:lg=1∨lg=2∨lg=3∨lg=4:=oM
 have h2:L= -1∨L=0∨L=1∨L=2∨L=3∨L=4:=oM
 rcases h1 with rfl|rfl|rfl|rfl<;>rcases h2 with rfl|rfl|rfl|rfl|rfl|rfl<;>first|rfl|(exfalso;revert he;decide)|(exfalso;omega)
theorem Gi{α:Type} [Inhabited α]{l:List α}{k j:Nat}:aa (l.drop k) j=aa l (k+j):=by simp [aa]
theorem nz.drop{ts:List Tu.aX}{m:Int}(h:nz ts m)(k:Nat):nz (ts.drop k) m:=by
 refine⟨fun i hi=>?_,fun i j pF hj=>?_⟩
 ·rw [nL]at hi
  rw [Gi];exact h.rz _  oM
 ·rw [nL]at hj
  rw [Gi,Gi];exact h.aZ _ _  oM oM
theorem nz.afk{ts:List Tu.aX}{m:Int}(h:nz ts m){i:Nat}(hi:i<ts.length){e:Int}(he:e<(aa ts i).first+3):∀j,j<(ts.drop (i+1)).length→Tu.fI (aa (ts.drop (i+1)) j) e=false:=fun j hj=>by
 rw [nL]at hj
 rw [Gi]
 have:=h.aZ i (i+1+j)  oM oM
 exact Gg (.inl  oM)
def pL(l:List Int)(k:Nat):List Int:=l.take k++List.replicate (l.length-k) 0
theorem JM{l:List Int}{k:Nat}(h:k≤l.length):(pL l k).length=l.length:=by simp [pL];omega
theorem afl(l:List Int):pL l 0=List.replicate l.length 0:=by simp [pL]
theorem UO{l:List Int}{k:Nat}(h:l.length≤k):pL l k=l:=by
 rw [pL,mL h,show l.length-k=0 from oM];simp
theorem UP{l:List Int}{k:Nat}(h:k<l.length):((pL l k).map Tu.bP).set k [.int .i64 (aa l k)]=(pL l (k+1)).map Tu.bP:=by
 have e:(l.take k).length=k:=by rw [fN];omega
 rw [pL,pL,nR h,show l.length-k=l.length-(k+1)+1 from oM,List.replicate_succ,bT,C9 _ _ (by rw [bG,e];exact ct _),qq,bG,e,Fq]
 simp [Tu.bP]
theorem afm{l:List Int}{k j:Nat}(hj:j<k)(hl:j<l.length):aa (pL l k) j=aa l j:=by
 rw [pL,nA (by rw [fN];omega)]
 simp [aa,hj]
def j1(l:List Int):List Int:=(List.range l.length).map fun k=>Tu.gE (l.take k)
theorem JN(l:List Int):(j1 l).length=l.length:=by simp [j1]
theorem Gj{l:List Int}{k:Nat}(h:k<l.length):aa (j1 l) k=Tu.gE (l.take k):=by simp [j1,aa,h]
theorem afn{l:List Int}{k:Nat}(h:k+1<l.length):aa (j1 l) (k+1)=aa (j1 l) k+aa l k:=by
 rw [Gj h,Gj  oM,Tu.Jq  oM]
theorem afo{l:List Int}(tB:(j1 l).length=l.length):pL (j1 l) 1=List.replicate l.length 0:=by
 rw [pL,tB]
 cases l with
 |nil=>rfl
 |cons a r=>
  have e:(j1 (a::r)).take 1= [0]:=by
   rw [show 1=0+1 from rfl,nR (by rw [tB];simp),Gj sM]
   simp [Tu.gE]
  rw [e];simp [List.replicate_succ]
theorem UQ{es:List a8}{k:Nat}(h:k<es.length):aa (es.map a8.x) k=(aa es k).x:=by simp [aa,h]
theorem afp{es:List a8}{k:Nat}(h:k<es.length)(h0:ig (aa es k).x=0):aa (jG (es.map a8.x)) k=(if ig (aa es k).x≠0∨(aa es k).x.n.bf=3 then 0 else fQ (aa es k).x.n.fp (aa es k).x.n.ji):=by
 rw [xH (by simpa using h),UQ h,cF.bq]
 by_cases h3:(aa es k).x.n.bf=3
 ·rw [aH h3,aH (.inr h3)]
 ·rw [aB h3,aB  oM]
theorem NI{es:List a8}{ts:List Tu.aX}{u:Int}(h:VS (es.map a8.x) ts u):∀x∈es,x.x.gG∧x.x.n.bf≠3:=fun x hx=>by
 obtain⟨i,hi,rfl⟩:=oz hx
 obtain⟨id,lg,d,he,-⟩:=h.ev i (by simpa using hi)
 rw [UQ hi]at he
 have e:aa es i=es[i]:=by simp [aa,hi]
 rw [e]at he
 exact⟨he.gG,by have:=he.bf;omega⟩
theorem afq{es:List a8}{ts:List Tu.aX}{u:Int}(h:VS (es.map a8.x) ts u):∀j:Nat,j<(jG (es.map a8.x)).length→(Tu.gV ts j (aa (jG (es.map a8.x)) j)).2=0:=fun j hj=>by
 have gU:j<(es.map a8.x).length:=by simpa [jG]using hj
 rw [xH gU]
 exact(h.ok j gU).1
theorem afr{es:List a8}{ts:List Tu.aX}{u:Int}(h:VS (es.map a8.x) ts u):∀i,i<ts.length→∃lg:Int,1≤lg∧lg≤4∧∀j:Nat,(aa ts i).first≤j→(j:Int)<(aa ts i).first+3→aa (jG (es.map a8.x)) j=fQ lg 0:=fun i hi=>by
 obtain⟨lg,l1,l2,l3⟩:=h.JL i hi
 refine⟨lg,l1,l2,fun j h1 h2=>?_⟩
 have:=(h.rA.rz i hi).2.2.2.2
 rw [xH  oM];exact l3 j h1 h2
def xI(v:cV)(n:Int):Prop:=
 (∃x,v.es= [x]∧v.ts= []∧x.x.n.bf=3∧ig x.x=0∧x.x.gG)∨(VS (v.es.map a8.x) v.ts n∧(∀x∈v.es,ig x.x=0)∧0<v.es.length∧v.es.length≤128∧v.ts.length≤16∧v.ts.length≤v.tc)
def VL(v:cV)(n:Int):List Int:=if(aa v.es 0).x.n.bf=3 then [n]else kA (v.es.map a8.x) v.ts
theorem NJ{v:cV}{n:Int}{x:a8}(h:v.es= [x])(h3:x.x.n.bf=3):VL v n= [n]:=by
 rw [VL,h,aH];exact h3
theorem NK{v:cV}{n u:Int}(h:VS (v.es.map a8.x) v.ts u)(hp:0<v.es.length):VL v n=kA (v.es.map a8.x) v.ts:=by
 rw [VL,aB (NI h _ (aN hp)).2]
theorem JO{v:cV}{n:Int}(h:xI v n)(hn:1≤n∧n≤15482880):(0<(VL v n).length∧(VL v n).length≤128)∧Tu.gE (VL v n)=n∧∀x∈VL v n,0≤x∧x≤253671505920:=by
 rcases h with⟨x,e1,e2,oP,h0,hf⟩|⟨hv,h0,hp,hl,dQ,nY⟩
 ·rw [NJ e1 oP]
  refine⟨by simp,by simp [Tu.gE],fun y hy=>?_⟩
  simp only [c_]at hy
  subst hy;omega
 ·rw [NK hv hp]
  have g_:(kA (v.es.map a8.x) v.ts).length=v.es.length:=by simp [kA,Tu.Dv]
  refine⟨oM,hv.sum,fun y hy=>?_⟩
  have hT:Tu.pI v.ts:=⟨_,by simp;omega,hv.rA.NF (by simp;omega)⟩
  simp only [kA,Tu.qx,eS]at hy
  obtain⟨i,_,rfl⟩:=hy
  exact Tu.adY hT _ _
theorem NL{v:cV}{n:Int}(h:xI v n):(VL v n).length=v.es.length:=by
 rcases h with⟨x,e1,e2,oP,h0,hf⟩|⟨hv,h0,hp,hl,dQ,nY⟩
 ·rw [NJ e1 oP,e1];rfl
 ·rw [NK hv hp];simp [kA,Tu.Dv]
theorem afs{j:Nat}{x:Int}(hj:j≤3)(hx:0≤x∧x≤7741440):0≤(j:Int)*x∧(j:Int)*x≤23224320:=by
 refine⟨py  oM hx.1,?_⟩
 have h1:(j:Int)*x≤3*x:=nk  oM hx.1
 omega
namespace Hr
def rB(P:Program)(o:Oper):Prop:=(∀c,o.op≠ .defer c)∧∀(ρ:Operand→Value) (w:World),match(execOp ρ o).run P w with
 | .ok (.value _) _=>True
 | .ok .skip _=>True
 | .halt _ _=>True
 |_=>False
theorem rB.NM{P:Program}{o:Oper}(hd:∀c,o.op≠ .defer c)(h:∀ρ,∃s:Sem Value,execOp ρ o=(do pure (.value (←s)))):rB P o:=⟨hd,fun ρ w=>by
 obtain⟨s,hs⟩:=h ρ
 rw [hs]
 cases hr:s.run P w with
 |ok v w'=>simp [hr]
 |halt x w'=>simp [hr]⟩
theorem rB.aft{P:Program}{o:Oper}(hd:∀c,o.op≠ .defer c)(h:∀ρ,∃s:Sem Unit,execOp ρ o=(do s;pure .skip)):rB P o:=⟨hd,fun ρ w=>by
 obtain⟨s,hs⟩:=h ρ
 rw [hs]
 cases hr:s.run P w with
 |ok v w'=>simp [hr]
 |halt x w'=>simp [hr]⟩
theorem UR{P:Program}{o:Oper}{x:Operand}(ho:o.op= .move x):rB P o:=⟨(by rw [ho];intro c h;cases h),fun ρ w=>by simp [execOp,ho]⟩
theorem JP{P:Program}{o:Oper}{t:TypeId}{x:Operand}(ho:o.op= .load t x):rB P o:= .NM (by rw [ho];intro c h;cases h) fun ρ=>⟨_,by simp only [execOp,ho];rfl⟩
theorem afu{P:Program}{o:Oper}{t:TypeId}{x y:Operand}(ho:o.op= .store t x y):rB P o:= .aft (by rw [ho];intro c h;cases h) fun ρ=>⟨_,by simp only [execOp,ho];rfl⟩
theorem afv{P:Program}{o:Oper}{t:TypeId}{m:Nat}{xs:Array (Nat×Operand)}(ho:o.op= .buildSlice t m xs):rB P o:= .NM (by rw [ho];intro c h;cases h) fun ρ=>⟨_,by simp only [execOp,ho];rfl⟩
theorem afw{P:Program}{o:Oper}{b:BinOp}{t t':TypeId}{x y:Operand}(ho:o.op= .binOp b t x y t'):rB P o:= .NM (by rw [ho];intro c h;cases h) fun ρ=>⟨_,by simp only [execOp,ho];rfl⟩
theorem afx{P:Program}{o:Oper}{x y:Operand}{ts:Array TypeId}(ho:o.op= .call {callee:= .builtin .append,args:= #[x,y],argTypes:=ts}):rB P o:=⟨(by rw [ho];intro c h;cases h),fun ρ w=>by
 simp only [execOp,ho,resolve,invoke,builtin]
 cases hr:Sem.run P (Builtin.append_ ts o.type #[ρ x,ρ y]) w<;>simp [hr]⟩
theorem afy{vs:List Value}{m:Nat}{W:World}(hz:Nat.ble vs.length m=true):cK nX W m ⟨bB 0 vs, []⟩ {tmps:=vs.toArray++Array.replicate (m-vs.toArray.size) undef,defers:= []} W:=by
 have sk:vs.length≤m:=by simpa using hz
 refine⟨by simp;omega,rfl,fun k v hk=>?_,aS.refl _ _,Mem.nil⟩
 obtain⟨_,h2⟩:=FF vs 0 k v hk
 have h3:vs.toArray[k]?=some v:=by simpa using h2
 have bN:=(L8.1 h3).1
 show(vs.toArray++_)[k]?=_
 rw [IL bN,h3]
end Hr
section
namespace Hr
abbrev Fr(ρ:Option Nat):Fence:={Fence.wide with round:=ρ}
def Gk(o:Oper):Bool:=match o.op with
 | .defer _=>false
 |_=>true
theorem afz{o:Oper}(h:Gk o=true):∀c,o.op≠ .defer c:=fun c hc=>by
 unfold Gk at h
 rw [hc]at h
 cases h
theorem BC(a:Act)(d:Option Tmp)(v:Value):(a.put d v).defers=a.defers:=by cases d<;>rfl
theorem Gl(a:Act):({a with defers:= []}:Act).eval=a.eval:=by funext x;cases x<;>rfl
theorem afA{ρ:Option Nat}{P:Program}{o:Oper}{a:Act}{w:World}{k:Act→World→Prop}{Q:Exit→Act→World→Prop}(hd:Gk o=true)
  (h:o.wp P {a with defers:= []} w (fun a' w'=>k {a' with defers:=a'.defers++a.defers} w') (fun _ _ _=>False)):o.wpIn (Fr ρ) 0 P a w k Q:=by
 have ke:∀(ds:List Deferred) (v:Value),({({a with defers:=ds}:Act).put o.dst v with defers:=(({a with defers:=ds}:Act).put o.dst v).defers++a.defers}:Act)=({a with defers:=ds++a.defers}:Act).put o.dst v:=fun ds v=>by cases hd:o.dst<;>rfl
 have kp:∀{v:Value} {w':World},k {({a with defers:= []}:Act).put o.dst v with defers:=(({a with defers:= []}:Act).put o.dst v).defers++a.defers} w'→k (a.put o.dst v) w':=fun{v w'} h'=>by
  rw [ke]at h';exact h'
 unfold Oper.wpIn
 refine⟨fun f _=>trivial,?_⟩
 rw [Oper.semAt_plain (Fr ρ) _ _ (afz hd)]
 unfold Oper.wp at h
 rw [Gl]at h
 generalize (execOp a.eval o).run P w=r at*
 cases r with
 |ok nx w'=>
  cases nx with
  |value v=>exact kp h
  |skip=>exact kp h
  |defer d=>
   have h':k {({a with defers:= [d]}:Act).put o.dst undef with defers:=(({a with defers:= [d]}:Act).put o.dst undef).defers++a.defers} w':=h
   rw [ke]at h';exact h'
  |enter f args=>
   refine⟨(fun h'=>by cases h'),?_⟩
   have h2:=callsIn_wide (n:=0).2 h
   refine CallsIn.mono h2 fun e Mx he=>?_
   cases e with
   |returned v=>exact kp he
   |panicked c=>exact he.elim
   |outgrown=>obtain⟨_,_,he⟩:=he;exact he.elim
  |row r args=>exact⟨(fun h'=>by cases h'),fun c cs _=>let ⟨v,w',r,s⟩:=h c cs;⟨v,w',kp r,stepsIn_wide.2 s⟩⟩
  |_=>exact h.elim
 |halt x w'=>
  cases x with
  |panic v=>exact h.elim
  |_=>exact h.elim
def tC(ρ:Option Nat)(P:Program)(Qb:Exit→Act→World→Prop):List K→Exit→Act→World→Prop
 | []=>Qb
 | .bn c::k=>Exit.then (c.wpIn (Fr ρ) 0 P (tC ρ P Qb k)) (tC ρ P Qb k)
 | .aq all l::k=>Exit.then (wpListIn (Fr ρ) 0 P all (tC ρ P Qb k) l) (tC ρ P Qb k)
 | .aj id::k=>Exit.inBlock id (tC ρ P Qb k)
 | .stop J::k=>Exit.then J (tC ρ P Qb k)
theorem Gm{ρ:Option Nat}{P:Program}{Qb:Exit→Act→World→Prop}{id:Nat}{a:Act}{w:World}:∀{k k':List K},tg id k=some k'→tC ρ P Qb k' .normal a w→tC ρ P Qb k (.exit id) a w
 | [],_,h,_=>by simp [tg]at h
 | .aj xq::k,k',h,hp=>by
  simp only [tg]at h
  simp only [tC,Exit.inBlock]
  by_cases e:id=xq
  ·subst e
   rw [show Nat.beq id id=true from by simp]at h
   simp only [Option.some.injEq]at h
   subst h
   simpa using hp
  ·have hb:Nat.beq id xq=false:=by
    cases hb:Nat.beq id xq with
    |true=>exact absurd (xf hb) e
    |false=>rfl
   rw [hb]at h
   rw [aB e]
   exact Gm h hp
 | .bn _::k,k',h,hp=>Gm (k:=k) h hp
 | .aq _ _::k,k',h,hp=>Gm (k:=k) h hp
 | .stop _::k,k',h,hp=>Gm (k:=k) h hp
theorem Gn{ρ:Option Nat}{P:Program}{Qb:Exit→Act→World→Prop}{a:Act}{w:World}(h:Qb .ret a w):∀(k:List K),tC ρ P Qb k .ret a w
 | []=>h
 | .aj _::k=>Gn h k
 | .bn _::k=>Gn h k
 | .aq _ _::k=>Gn h k
 | .stop _::k=>Gn h k
def SF(ds:List Deferred)(X:Nat→Prop)(W:World)(n:Nat)(S:St)(a:Act)(w:World):Prop:=cK X W n S {a with defers:= []} w∧a.defers=ds
def RF(ρ:Option Nat)(P:Program)(Qb:Exit→Act→World→Prop)(ds:List Deferred)(X:Nat→Prop)(W:World)(n:Nat)(k:List K)(S:St):Prop:=
 ∀a w,SF ds X W n S a w→tC ρ P Qb k .normal a w
section
variable{ρ:Option Nat}{P:Program}{Qb:Exit→Act→World→Prop}{ds:List Deferred}{X:Nat→Prop}{W:World}{n:Nat}{k:List K}{S:St}
theorem SF.eval{a:Act}{w:World}(h:SF ds X W n S a w){x:Operand}{v:Value}(hx:ev S.ah x=some v):a.eval x=v:=by
 have:=h.1.eval hx
 rw [Gl]at this;exact this
theorem afB{x y:Code}(h:RF ρ P Qb ds X W n (.bn x:: .bn y::k) S):RF ρ P Qb ds X W n (.bn (.seq x y)::k) S:=fun a w hs=>wpIn_seq (h a w hs)
theorem afC(h:RF ρ P Qb ds X W n k S):RF ρ P Qb ds X W n (.bn .skip::k) S:=fun a w hs=>wpIn_skip (h a w hs)
theorem afD{id:Nat}{c:Code}(h:RF ρ P Qb ds X W n (.bn c:: .aj id::k) S):RF ρ P Qb ds X W n (.bn (.block id c)::k) S:=fun a w hs=>wpIn_block (h a w hs)
theorem afE{id:Nat}(h:RF ρ P Qb ds X W n k S):RF ρ P Qb ds X W n (.aj id::k) S:=fun a w hs=>h a w hs
theorem afF{id:Nat}{k':List K}(hp:tg id k=some k')(h:RF ρ P Qb ds X W n k' S):RF ρ P Qb ds X W n (.bn (.exit id)::k) S:=fun a w hs=>wpIn_exit (Gm hp (h a w hs))
theorem US(h:∀a w,SF ds X W n S a w→Qb .ret a w):RF ρ P Qb ds X W n (.bn .ret::k) S:=fun a w hs=>wpIn_ret (Gn (h a w hs) k)
theorem afG{c:Operand}{x y:Code}{t:Bool}(hc:ev S.ah c=some (.bool t))(ht:t=true)(h:RF ρ P Qb ds X W n (.bn x::k) S):RF ρ P Qb ds X W n (.bn (.cond c x y)::k) S:=by
 subst ht;exact fun a w hs=>wpIn_cond_true (hs.eval hc) (h a w hs)
theorem UT{c:Operand}{x y:Code}{t:Bool}(hc:ev S.ah c=some (.bool t))(ht:t=false)(h:RF ρ P Qb ds X W n (.bn y::k) S):RF ρ P Qb ds X W n (.bn (.cond c x y)::k) S:=by
 subst ht;exact fun a w hs=>wpIn_cond_false (hs.eval hc) (h a w hs)
theorem pM{c:Operand}{x y:Code}{t:Bool}(hc:ev S.ah c=some (.bool t))(h1:t=true→RF ρ P Qb ds X W n (.bn x::k) S)(h2:t=false→RF ρ P Qb ds X W n (.bn y::k) S):RF ρ P Qb ds X W n (.bn (.cond c x y)::k) S:=
 fun a w hs=>wpIn_cond_split (hs.eval hc) (fun e=>h1 e a w hs) (fun e=>h2 e a w hs)
theorem afH{id:Nat}{l:List Oper}(h:RF ρ P Qb ds X W n (.aq l.toArray l::k) S):RF ρ P Qb ds X W n (.bn (.region id l.toArray false)::k) S:=fun a w hs=>wpIn_region_lit (h a w hs)
theorem afI{all:Array Oper}(h:RF ρ P Qb ds X W n k S):RF ρ P Qb ds X W n (.aq all []::k) S:=fun a w hs=>h a w hs
theorem bU{S':St}(hs:re X W n S S')(h:RF ρ P Qb ds X W n k S'):RF ρ P Qb ds X W n k S:=fun a w h'=>h a w ⟨hs _ w h'.1,h'.2⟩
def Gp(ds:List Deferred)(X:Nat→Prop)(W:World)(n:Nat){ι:Type}(φ:ι→Prop)(dN:ι→St)(μ:ι→Nat)(m:Nat)(a:Act)(w:World):Prop:=∃i,φ i∧μ i<m∧SF ds X W n (dN i) a w
theorem sD{ι:Type}{φ:ι→Prop}{dN:ι→St}{μ:ι→Nat}{m:Nat}(i:ι)(hi:φ i)(hm:μ i<m)(hs:re X W n S (dN i)):RF ρ P Qb ds X W n (.stop (Gp ds X W n φ dN μ m)::k) S:=
 fun a w h=>⟨i,hi,hm,hs _ w h.1,h.2⟩
open Classical in
theorem NP{ι:Type}{c:Code}(φ:ι→Prop)(dN:ι→St)(μ:ι→Nat)(i0:ι)(h0:φ i0)(fm:re X W n S (dN i0))
  (hr:∀i,φ i→RF ρ P Qb ds X W n (.bn c:: .stop (Gp ds X W n φ dN μ (μ i))::k) (dN i)):RF ρ P Qb ds X W n (.bn (.loop c)::k) S:=by
 intro a w hs
 have hl:∀a w,(∃m i,φ i∧μ i=m∧SF ds X W n (dN i) a w)→∃m,(∃i,φ i∧μ i=m∧SF ds X W n (dN i) a w)∧∀k,(∃i,φ i∧μ i=k∧SF ds X W n (dN i) a w)→m≤k:=
  fun a w ⟨m,h⟩=>th m m (ct _) h
 refine wpIn_loop (fun a w=>∃m i,φ i∧μ i=m∧SF ds X W n (dN i) a w)
  (fun a w=>if h:∃m i,φ i∧μ i=m∧SF ds X W n (dN i) a w then Classical.choose (hl a w h)else 0) ⟨_,i0,h0,rfl,fm _ w hs.1,hs.2⟩ ?_
 intro a w hI
 rw [dif_pos hI]
 obtain⟨⟨i,hi,hm,cu⟩,_⟩:=AK (hl a w hI)
 refine wpIn_mono (hr i hi a w cu) ?_
 intro e a' w' q
 cases e with
 |normal=>
  obtain⟨i',iJ,bN,yX⟩:=q
  have uj:∃m i,φ i∧μ i=m∧SF ds X W n (dN i) a' w':=⟨_,i',iJ,rfl,yX⟩
  refine⟨uj,?_⟩
  rw [dif_pos uj]
  have:=(AK (hl a' w' uj)).2 (μ i') ⟨i',iJ,rfl,yX⟩
  omega
 |_=>exact q
end
section
variable{ρ:Option Nat}{P:Program}{Qb:Exit→Act→World→Prop}{ds:List Deferred}{X:Nat→Prop}{W:World}{n:Nat}{k:List K}{S:St}{ah:List (Nat×Value)}{mem:List an}{all:Array Oper}{bu:List Oper}{o:Oper}
theorem UU{a:Act}{w:World}{c:Bool}(hw:cY all ah o c)(hs:SF ds X W n ⟨ah,mem⟩ a w):Region.wanted o (yielded all a.tmps)=c:=by have:=hw.eq hs.1;exact this
theorem gy{ι:Type}{φ:ι→Prop}{next:ι→St}(hw:cY all ah o true)(h:H1 P X W n ⟨ah,mem⟩ o φ next)(hk:∀i,φ i→RF ρ P Qb ds X W n (.aq all bu::k) (next i))(hf:Gk o=true:=by rfl):RF ρ P Qb ds X W n (.aq all (o::bu)::k) ⟨ah,mem⟩:=by
 intro a w hs
 refine wpListIn_step fun K hK=>?_
 rw [aH (UU hw hs)]
 exact afA hf (h _ w hs.1 _ _ fun i a' w' hi cR=>hK _ _ (hk i hi _ _ ⟨⟨cR.size,rfl,cR.ah,cR.dv,cR.mem⟩,by show a'.defers++a.defers=ds;rw [cR.defers,hs.2];rfl⟩))
theorem cD{v:Value}{d:Nat}(hw:cY all ah o true)(hd:o.dst=some d)(hdn:Nat.blt d n=true)(h:Q1 P X W n ⟨ah,mem⟩ o v)(hk:RF ρ P Qb ds X W n (.aq all bu::k) ⟨(d,v)::ah,mem⟩)(hf:Gk o=true:=by rfl):RF ρ P Qb ds X W n (.aq all (o::bu)::k) ⟨ah,mem⟩:=
 gy hw (.dP hd hdn h) (fun _ _=>hk) hf
theorem NQ{d:Nat}(hw:cY all ah o false)(hd:o.dst=some d)(hdn:Nat.blt d n=true)(hk:RF ρ P Qb ds X W n (.aq all bu::k) ⟨(d,undef)::ah,mem⟩):RF ρ P Qb ds X W n (.aq all (o::bu)::k) ⟨ah,mem⟩:=by
 intro a w hs
 refine wpListIn_step fun K hK=>?_
 rw [aB (by rw [UU hw hs];simp)]
 rw [hd]
 exact⟨fun f _=>trivial,hK _ _ (hk _ _ ⟨hs.1.put hdn undef,hs.2⟩)⟩
end
theorem BD{X:Nat→Prop}{W0 W w:World}(h0:aS nX W0 W)(hn:∀b,X b→W0.heap.size≤b)(h:aS X W w):aS nX W0 w:=
 ⟨h.os.trans h0.os,h.tape.trans h0.tape,h.output.trans h0.output,jg h0.size h.size,fun k hk _=>(h.block k (s_ hk h0.size) (fun hx=>absurd (hn k hx)  oM)).trans (h0.block k hk (fun e=>e)),jg h0.drawn h.drawn⟩
theorem Gq{X:Nat→Prop}{W0 W:World}{rs:List an}(h0:aS nX W0 W)(hn:∀b,X b→W0.heap.size≤b)(h:∀r∈rs,∀b,r.at b→W.heap.size≤b∨X b):∀b,aR rs b→W0.heap.size≤b:=by
 rintro b ⟨r,hr,hb⟩
 rcases h r hr b hb with h1|h1
 ·exact jg h0.size h1
 ·exact hn b h1
theorem iT.fY{X:Nat→Prop}{W0 W:World}{S:St}{A:Option Addr}{size:Nat}{ls:List (List Value)}(h:Rd W0 A size ls)(h0:aS nX W0 W)(hn:∀b,X b→W0.heap.size≤b):iT X W S A size ls:=fun _ hk _=>h.aC (BD h0 hn hk)
theorem Gs{W:World}:∀b,nX b→W.heap.size≤b:=fun _ h=>h.elim
def Gt(rs dE:List an)(w w':World):Prop:=aS (aR rs) w w'∧Mem (aR rs) w dE w'
def YR{α:Type}(P:Program)(l:Nat)(encs:α→List Value)(J Jx:List α→List an→Prop)(N:Nat)(W0:World):Prop:=
 ∀cd x rs w,J cd rs→Mem (aR rs) w rs w→cd.length<N→aS nX W0 w→(∀b,aR rs b→W0.heap.size≤b)→
  YieldAt Fence.wide 0 P l (encs x).toArray w fun e w'=>∃dE,Gt rs dE w w'∧((e= .returned (.bool true)∧J (cd++ [x]) dE)∨(e= .returned (.bool false)∧Jx (cd++ [x]) dE))
def zj{α:Type}(J Jx:List α→List an→Prop)(S Sp:List α→Prop)(bQ:List an)(W:World):Ending→World→Prop:=
 fun e w'=>(∃v,e= .returned v)∧∃xs rs,Gt bQ rs W w'∧((S xs∧J xs rs)∨(Sp xs∧Jx xs rs))
def afJ{α:Type}(P:Program)(f:Nat)(NR:List Value)(encs:α→List Value)(S Sp:List α→Prop)(N:Nat)(W0:World)(bQ:List an)(w:World):Prop:=
 ∀(l:Nat) (J Jx:List α→List an→Prop),J [] bQ→YR P l encs J Jx N W0→CallsIn Fence.wide 0 P f (.func (.yield l) #[] #[]::NR).toArray w (zj J Jx S Sp bQ w)
section
variable{P:Program}{fn:Func}{ρ:Option Nat}{Qb:Exit→Act→World→Prop}{ds:List Deferred}{X:Nat→Prop}{W:World}{n:Nat}{k:List K}{S:St}{ah:List (Nat×Value)}{mem:List an}{all:Array Oper}{bu:List Oper}{o:Oper}
theorem DT{f:FuncId}{vs:List Value}{R:Ending→World→Prop}{c:Code}{mem:List an}(hf:P.funcs[f]?=some fn)(hn:fn.ntmps=n)(hb:fn.body=some c)(hz:Nat.ble vs.length n=true)(hm:Mem X W mem W)
  (h:RF none P (bodyPostM Fence.wide 0 P fn R) [] X W n [.bn c] ⟨bB 0 vs,mem⟩):CallsIn Fence.wide 0 P f vs.toArray W R:=by
 refine callsIn_of_wp_marks hf hb trivial ?_
 have hs:=afy (W:=W) hz
 rw [hn]
 exact h _ W ⟨⟨hs.size,rfl,hs.ah,aS.refl _ _,hm⟩,rfl⟩
theorem Gu{f:FuncId}{vs:List Value}{R:Ending→World→Prop}{c:Code}{mem:List an}(hf:P.funcs[f]?=some fn)(hn:fn.ntmps=n)(hb:fn.body=some c)(hz:Nat.ble vs.length n=true)(hm:Mem X W mem W)
  (h:RF none P (bodyPostM Fence.wide 0 P fn R) [] X W n [.bn c] ⟨bB 0 vs,mem⟩):Calls P f vs.toArray W R:=(callsIn_wide (n:=0)).1 (DT hf hn hb hz hm h)
theorem pN{R:Ending→World→Prop}(h:RF none P (bodyPostM Fence.wide 0 P fn R) ds X W n [] S):RF none P (bodyPostM Fence.wide 0 P fn R) ds X W n (.bn .ret::k) S:=US h
theorem sE{R:Ending→World→Prop}(h:aW P fn R X W n [] S):RF none P (bodyPostM Fence.wide 0 P fn R) [] X W n [] S:=by
 intro a w hs
 obtain⟨-,h2⟩:=h _ w hs.1
 show LeavesInM _ _ _ _ _ _ a.defers _ _
 rw [hs.2]
 exact h2
theorem rC{α:Type}{J Jx:List α→List an→Prop}{Sd Sp:List α→Prop}{bQ rs l:List an}(xs:List α)(hr:fn.results= #[])(hs:ag mem (.aZ rs) l)(h:(Sd xs∧J xs rs)∨(Sp xs∧Jx xs rs)):
  aW P fn (zj J Jx Sd Sp bQ W) (aR bQ) W n [] ⟨ah,mem⟩:=by
 intro a w cu
 refine⟨cu.defers,.tuple #[],results_none hr _ _ _,⟨_,rfl⟩,xs,rs,⟨cu.dv,?_⟩,h⟩
 have h1:=(ax.xt _ _ _ (cu.mem.aI hs.aI)).1
 exact h1.sub (List.sublist_append_left _ _)
theorem Gv{bQ:List an}(h:Mem (aR bQ) W bQ W):Mem (aR bQ) W [.aZ bQ] W:=by
 have:=(ax.close_ (rs:=bQ) (l:= []) (aR bQ) W W (by rw [gZ];exact h)).1
 exact this
theorem zk{α:Type}{l d N:Nat}{encs:α→List Value}{J Jx:List α→List an→Prop}{cd:List α}{rs ls:List an}(x:α){y:Operand}{xs:Array Operand}{ts:Array TypeId}{vs:List Value}(hg:o.guard=Option.none)(ho:o.op= .call {callee:= .value y,args:=xs,argTypes:=ts})(hd:o.dst=some d)(hdn:Nat.blt d n=true)
  (hy:ev ah y=some (.func (.yield l) #[] #[]))(hx:kL ah xs.toList vs)(he:vs=encs x)(dd:ag mem (.aZ rs) ls){W0:World}(bC:aS nX W0 W)(mf:∀b,X b→W0.heap.size≤b)(hY:YR P l encs J Jx N W0)(hJ:J cd rs)(hN:cd.length<N)
  (h1:∀dE,J (cd++ [x]) dE→RF ρ P Qb ds X W n (.aq all bu::k) ⟨(d,.bool true)::ah,.aZ dE::ls⟩)
  (h2:∀dE,Jx (cd++ [x]) dE→RF ρ P Qb ds X W n (.aq all bu::k) ⟨(d,.bool false)::ah,.aZ dE::ls⟩):RF ρ P Qb ds X W n (.aq all (o::bu)::k) ⟨ah,mem⟩:=by
 intro a w hs
 refine wpListIn_plain hg fun K hK=>?_
 have hm:=(ax.xt _ _ _ (hs.1.mem.aI dd.aI)).1
 obtain⟨f,tmps,mU,body,qA,hR⟩:=hY cd x rs w hJ hm.gi hN (BD bC mf hs.1.dv) (Gq bC mf (fun r hr=>hm.ae r (Ft _ hr)))
 unfold Oper.wpIn
 refine⟨fun f _=>trivial,?_⟩
 rw [Oper.semAt_plain (Fr ρ) _ _ (by rw [ho];intro c h;cases h)]
 have Dp:xs.map a.eval=(encs x).toArray:=Array.toList_inj.1 (by have:=hx.map hs.1;rw [Gl]at this;rw [Array.toList_map,this,←he])
 have gD:(execOp a.eval o).run P w= .ok (.round l f tmps mU body) w:=by
  simp [execOp,ho,resolve,invoke,Deferred.ofValue,hs.eval hy,Dp,qA]
 rw [gD,Oper.uponIn_round]
 refine⟨(fun h=>by cases h),RoundIn.mono hR fun e w' Gw=>?_⟩
 obtain⟨dE,⟨hk,NS⟩,hj⟩:=Gw
 have dY:=(hs.1.change (cs:= [.aZ rs]) (ls:=ls) (m:= [.aZ dE]) (Y:=aR rs) dd.aI hk (fun b hb=>⟨.aZ rs,by simp,hb⟩) ((ax.close_ (rs:=dE) (l:= []) _ _ _ (by rw [gZ];exact NS)).1))
 rcases hj with⟨rfl,hj⟩|⟨rfl,hj⟩
 ·refine hK _ _ (h1 dE hj _ _ ⟨?_,?_⟩)
  ·rw [hd];exact dY.put hdn _
  ·rw [BC];exact hs.2
 ·refine hK _ _ (h2 dE hj _ _ ⟨?_,?_⟩)
  ·rw [hd];exact dY.put hdn _
  ·rw [BC];exact hs.2
end
abbrev sG(D:Nat):Deferred:={target:= .collected D,args:= #[]}
def df(Ds:List Nat):an:= .any (fun b=>b∈Ds) (fun w=>Ds.Nodup∧∀D∈Ds,w.heap[D]?=some (.deferred (some []))) (fun w h b hb=>q_ (h.2 b hb)) (fun w w' h hk=>⟨h.1,fun D hD=>(hk D hD).trans (h.2 D hD)⟩)
def eQ(l:Nat)(r:Loop):an:= .any (fun b=>l=b) (fun w=>w.heap[l]?=some (.loop r)) (fun w h b hb=>by subst hb;exact q_ h) (fun w w' h hk=>(hk l rfl).trans h)
theorem UW(w:World)(l:Nat)(o:Obj):aS (fun b=>l=b) w (w.putObj l o):=⟨rfl,rfl,rfl,by simp,fun k _ hx=>World.putObj_heap_other (fun e=>hx e.symm),ct _⟩
section
variable{P:Program}{fn:Func}{ρ:Option Nat}{Qb:Exit→Act→World→Prop}{ds:List Deferred}{X:Nat→Prop}{W:World}{n:Nat}{k:List K}{S:St}{ah:List (Nat×Value)}{mem:List an}{a:Act}{w:World}
theorem cK.JQ{l:Nat}{r r':Loop}(h:cK X W n ⟨ah,eQ l r::mem⟩ a w):cK X W n ⟨ah,eQ l r'::mem⟩ a (w.putObj l (.loop r')):=by
 obtain⟨h1,h2,h3,h4⟩:=h.mem.head
 have hl:w.heap[l]?=some (.loop r):=h1
 refine h.change (cs:= [eQ l r]) (ls:=mem) (m:= [eQ l r']) (Y:=fun b=>l=b) (List.Perm.refl _) (UW w l _) (fun b hb=>⟨eQ l r,fi ..,hb⟩) ?_
 exact Mem.nil.cons (World.putObj_heap_same (q_ hl)) (fun b hb=> .inr hb) (fun s hs=>by cases hs)
theorem UX{R:Ending→World→Prop}(h:aW P fn R X W n [] ⟨ah,mem⟩):∀(Ds:List Nat) (w:World),cK X W n ⟨ah,df Ds::mem⟩ {a with defers:= []} w→LeavesInM Fence.wide 0 P fn a.tmps R (Ds.map sG) .returning w
 | [],w,hs=>(h _ w (ar dF.refl (ax.sub (Fl _ _)) _ _ hs)).2
 |D::Ds,w,hs=>by
  obtain⟨h1,h2,h3,h4⟩:=hs.mem.head
  obtain⟨BE,hD⟩:(D::Ds).Nodup∧∀E∈D::Ds,w.heap[E]?=some (.deferred (some [])):=h1
  have hDD:=hD D (fi ..)
  refine⟨(fun e=>by cases e),.inl ⟨D,w.putObj D (.deferred none),rfl,run_takeDeferred hDD,UX h Ds _ ?_⟩⟩
  refine hs.change (cs:= [df (D::Ds)]) (ls:=mem) (m:= [df Ds]) (Y:=fun b=>b∈D::Ds) (List.Perm.refl _) ((aS.refl _ w).step (UW w D _) (fun k _ hx e=>hx (by subst e;exact fi ..))) (fun b hb=>⟨df (D::Ds),fi ..,hb⟩) ?_
  refine Mem.nil.cons ⟨(List.nodup_cons.1 BE).2,fun E hE=>?_⟩ (fun b hb=>?_) (fun s hs=>by cases hs)
  ·exact(World.putObj_heap_other (fun e=>(List.nodup_cons.1 BE).1 (by subst e;exact hE))).trans (hD E (gB _ hE))
  ·exact .inr (gB _ hb)
theorem zl{R:Ending→World→Prop}(Ds:List Nat)(h:aW P fn R X W n [] ⟨ah,mem⟩):RF none P (bodyPostM Fence.wide 0 P fn R) (Ds.map sG) X W n [] ⟨ah,df Ds::mem⟩:=by
 intro a w hs
 show LeavesInM _ _ _ _ _ _ a.defers _ _
 rw [hs.2]
 exact UX h Ds w hs.1
end
def RQ{α:Type}(P:Program)(l:Nat)(r:Loop)(J:List α→List an→Prop)(Jx:Code→List α→List an→Prop)(cd:List α)(bQ:List an)(W:World):Exit→Act→World→Prop:=
 roundPost P l fun e w'=>∃dE,Gt bQ dE W w'∧((e= .returned (.bool true)∧∃rs,dE=eQ l r::rs∧J cd rs)∨(e= .returned (.bool false)∧∃rs c,dE=eQ l {r with state:= .done,pending:=some c}::rs∧Jx c cd rs))
def NT(P:Program)(l:Nat)(body:Code)(Q:Exit→Act→World→Prop)(a:Act)(w:World):Prop:=∃w₂,(Instr.beginRound l).run P w= .ok () w₂∧body.wpIn (Fr (some l)) 0 P Q a w₂
abbrev QF:Exit→Act→World→Prop:=fun _ _ _=>False
abbrev busy(r:Loop):Loop:={r with state:= .busy}
section
variable{P:Program}{fn:Func}{ρ:Option Nat}{Qb:Exit→Act→World→Prop}{ds:List Deferred}{X:Nat→Prop}{W:World}{n:Nat}{k:List K}{S:St}{ah:List (Nat×Value)}{mem:List an}
theorem DU{l:Nat}{r:Loop}{body:Code}{ls:List an}(hr:r.state= .ready)(hs:ag mem (eQ l r) ls)(h:RF (some l) P Qb ds X W n [.bn body] ⟨ah,eQ l (busy r)::ls⟩):
  RF (some l) P QF ds X W n [.stop (NT P l body Qb)] ⟨ah,mem⟩:=by
 intro a w n0
 have cj:cK X W n ⟨ah,eQ l r::ls⟩ {a with defers:= []} w:=ar dF.refl (ax.aI hs.aI) _ _ n0.1
 have hl:w.heap[l]?=some (.loop r):=cj.mem.head.1
 exact⟨_,run_beginRound hl hr,h _ _ ⟨cj.JQ (r':=busy r),n0.2⟩⟩
section
variable{α:Type}{J:List α→List an→Prop}{Jx:Code→List α→List an→Prop}{cd:List α}{bQ rs ls:List an}{l:Nat}{r:Loop}
theorem UY{e:Exit}{a:Act}{w:World}(c:Option Code)(r':Loop)(he:∀R,roundPost P l R e a w=∃v w',(Instr.endRound l c).run P w= .ok v w'∧R (.returned v) w')(hr:{busy r with state:=if c.isNone then .ready else .done,pending:=c}=r')
  (hs:cK (aR bQ) W n ⟨ah,eQ l (busy r)::rs⟩ {a with defers:= []} w){R:Ending→World→Prop}(hR:∀w',Gt bQ (eQ l r'::rs) W w'→R (.returned (.bool c.isNone)) w'):roundPost P l R e a w:=by
 have hl:w.heap[l]?=some (.loop (busy r)):=hs.mem.head.1
 rw [he]
 refine⟨_,_,run_endRound c hl,hR _ ?_⟩
 rw [hr]
 have h:=hs.JQ (r':=r')
 exact⟨h.dv,h.mem⟩
theorem DV(hr:r.state= .ready)(hp:r.pending=none)(hs:ax mem (eQ l (busy r)::rs))(hJ:J cd rs):RF (some l) P (RQ P l r J Jx cd bQ W) ds (aR bQ) W n [] ⟨ah,mem⟩:=fun a w n0=>by
 show RQ P l r J Jx cd bQ W .normal a w
 unfold RQ
 exact UY none r (fun _=>rfl) (by cases r;simp only at hr hp;subst hr;subst hp;rfl) (ar dF.refl hs _ _ n0.1) fun w' ht=>⟨_,ht,.inl ⟨rfl,_,rfl,hJ⟩⟩
theorem UZ(hs:ax mem (eQ l (busy r)::rs))(hJ:Jx .ret cd rs):RF (some l) P (RQ P l r J Jx cd bQ W) ds (aR bQ) W n (.bn .ret::k) ⟨ah,mem⟩:=
 US fun a w n0=>by
 show RQ P l r J Jx cd bQ W .ret a w
 unfold RQ
 exact UY (some .ret) {r with state:= .done,pending:=some .ret} (fun _=>rfl) rfl (ar dF.refl hs _ _ n0.1) fun w' ht=>⟨_,ht,.inr ⟨rfl,_,_,rfl,hJ⟩⟩
end
theorem NU:∀(l:List (Nat×Value)) (S:St) (a:Act) (w:World),cK X W n S a w→(∀p∈l,Nat.blt p.1 n=true)→cK X W n ⟨l.foldl (fun e p=>p::e) S.ah,S.mem⟩ {a with tmps:=l.foldl (fun t p=>t.setIfInBounds p.1 p.2) a.tmps} w
 | [],S,a,w,h,_=>h
 |(d,v)::l,S,a,w,h,hl=>NU l ⟨(d,v)::S.ah,S.mem⟩ (a.put (some d) v) w (h.put (hl _ (fi ..)) v) (fun p hp=>hl p (gB _ hp))
theorem U0{g:Operand}{ps:Array Tmp}{mU body:Code}{gf:Nat}{lb:Array Value}{Q:Exit→Act→World→Prop}{a:Act}{w:World}(hg:a.eval g= .func (.func gf) #[] lb)(rD:fb P gf)
  (h:∀uH,CallsIn Fence.wide 0 P gf (#[.func (.yield (w.heap.size+1)) #[] #[]]++lb) ((w.alloc (.deferred (some []))).alloc (.loop {state:= .ready,pending:=none,fn:=uH,tmps:=a.tmps,params:=ps,assign:=mU,body,defers:=w.heap.size}))
   (rangePost (Fr none) 0 P (w.heap.size+1) Q {a with defers:= [sG w.heap.size]++a.defers})):(Code.rangeFunc g ps mU body).wpIn (Fr none) 0 P Q a w:=by
 refine wpIn_rangeFunc fun uH _=>?_
 refine⟨w.heap.size+1, [sG w.heap.size],((w.alloc (.deferred (some []))).alloc (.loop {state:= .ready,pending:=none,fn:=uH,tmps:=a.tmps,params:=ps,assign:=mU,body,defers:=w.heap.size})),{target:= .fn (.func gf) lb,args:= #[.func (.yield (w.heap.size+1)) #[] #[]]},((w.alloc (.deferred (some []))).alloc (.loop {state:= .ready,pending:=none,fn:=uH,tmps:=a.tmps,params:=ps,assign:=mU,body,defers:=w.heap.size})),gf,#[.func (.yield (w.heap.size+1)) #[] #[]]++lb,((w.alloc (.deferred (some []))).alloc (.loop {state:= .ready,pending:=none,fn:=uH,tmps:=a.tmps,params:=ps,assign:=mU,body,defers:=w.heap.size})),run_enterLoop_outer _ _ _ _ _,?_,?_,?_,?_,?_⟩
 ·simp only [resolve,hg]
  simp [go_sem]
 ·intro f' _;trivial
 ·have:=rD (#[.func (.yield (w.heap.size+1)) #[] #[]]++lb) ((w.alloc (.deferred (some []))).alloc (.loop {state:= .ready,pending:=none,fn:=uH,tmps:=a.tmps,params:=ps,assign:=mU,body,defers:=w.heap.size}))
  simp only [invoke,go_sem]
  simpa using this
 ·intro h;cases h
 ·exact h uH
theorem Gx{α:Type}{g:Operand}{ps:Array Tmp}{mU body:Code}{gf N:Nat}{lb:List Value}{encs:α→List Value}{Sd Sp:List α→Prop}(J:List α→List an→Prop)(Jx:Code→List α→List an→Prop)(bQ bu:List an){W0:World}(bC:aS nX W0 W)(mf:∀b,X b→W0.heap.size≤b)
  (hg:ev ah g=some (.func (.func gf) #[] lb.toArray))(rD:fb P gf)(dI:∀x,(encs x).length=ps.size)(Gy:∀p∈ps.toList,Nat.blt p n=true)(hp:ax mem (bQ++bu))(h0:J [] bQ)
  (NV:∀r w,aS X W w→Mem X W (r::(bQ++bu)) w→aS nX W0 w→(∀b,aR (r::bQ) b→W0.heap.size≤b)→afJ P gf lb encs Sd Sp N W0 (r::bQ) w)
  (NW:∀l r w cd x rs,r.state= .ready→r.pending=none→J cd rs→cd.length<N→Mem (aR (eQ l r::rs)) w (eQ l r::rs) w→aS nX W0 w→(∀b,aR (eQ l r::rs) b→W0.heap.size≤b)→
   RF (some l) P QF [] (aR (eQ l r::rs)) w n [.bn mU,.stop (NT P l body (RQ P l r J Jx (cd++ [x]) (eQ l r::rs) w))] ⟨(ps.toList.zip (encs x)).foldl (fun e p=>p::e) ah,eQ l r::rs⟩)
  (NX:∀D xs rs,Sd xs→J xs rs→RF none P Qb (sG D::ds) X W n k ⟨ah,df [D]::(rs++bu)⟩)
  (NY:∀D c xs rs,Sp xs→Jx c xs rs→RF none P Qb (sG D::ds) X W n (.bn c::k) ⟨ah,df [D]::(rs++bu)⟩):
  RF none P Qb ds X W n (.bn (.rangeFunc g ps mU body)::k) ⟨ah,mem⟩:=by
 intro a w n0
 have fm:cK X W n ⟨ah,bQ++bu⟩ {a with defers:= []} w:=ar dF.refl hp _ _ n0.1
 refine U0 (n0.eval hg) rD fun uH=>?_
 generalize cS:({state:= .ready,pending:=none,fn:=uH,tmps:=a.tmps,params:=ps,assign:=mU,body,defers:=w.heap.size}:Loop)=eV
 have eJ:eV.state= .ready:=by rw [←cS]
 have jk:eV.pending=none:=by rw [←cS]
 have k1:aS nX w (w.alloc (.deferred (some []))):=aS.alloc _ _
 have k2:aS nX (w.alloc (.deferred (some []))) ((w.alloc (.deferred (some []))).alloc (.loop eV)):=aS.alloc _ _
 have e1:(w.alloc (.deferred (some []))).heap.size=w.heap.size+1:=World.size_alloc ..
 have g1:(w.alloc (.deferred (some []))).heap[w.heap.size]?=some (.deferred (some [])):=World.alloc_heap_new _ _
 have g2:((w.alloc (.deferred (some []))).alloc (.loop eV)).heap[w.heap.size+1]?=some (.loop eV):=by rw [←e1];exact World.alloc_heap_new _ _
 have NZ:=fm.dv.size
 have m1:Mem X W (df [w.heap.size]::(bQ++bu)) (w.alloc (.deferred (some []))):=by
  refine(fm.mem.xp k1).cons ⟨by simp,fun D hD=>?_⟩ (fun b hb=>?_) (fun s hs b hb gv=>?_)
  ·obtain rfl:=c_.1 hD;exact g1
  ·obtain rfl:=c_.1 hb;exact .inl NZ
  ·obtain rfl:=c_.1 hb;exact absurd (fm.mem.lt s hs _ gv) (Nat.lt_irrefl _)
 have m2:Mem X W (eQ (w.heap.size+1) eV::df [w.heap.size]::(bQ++bu)) ((w.alloc (.deferred (some []))).alloc (.loop eV)):=by
  refine(m1.xp k2).cons g2 (fun b hb=>?_) (fun s hs b hb gv=>?_)
  ·obtain rfl:w.heap.size+1=b:=hb;exact .inl  oM
  ·obtain rfl:w.heap.size+1=b:=hb
   have:=m1.lt s hs _ gv
   rw [e1]at this
   exact absurd this (Nat.lt_irrefl _)
 have dY:cK X W n ⟨ah,eQ (w.heap.size+1) eV::df [w.heap.size]::(bQ++bu)⟩ {a with defers:= []} ((w.alloc (.deferred (some []))).alloc (.loop eV)):=fm.Mf ((fm.dv.fa k1).fa k2) m2
 generalize (w.alloc (.deferred (some []))).alloc (.loop eV)=w2 at*
 have j3:cK X W n ⟨ah,eQ (w.heap.size+1) eV::(bQ++df [w.heap.size]::bu)⟩ {a with defers:= []} w2:=ar dF.refl (ax.aI (.cons _ (List.perm_middle.symm))) _ _ dY
 have hc:=NV (eQ (w.heap.size+1) eV) w2 j3.dv ((j3.mem.sub (.cons_cons _ (List.Sublist.append_left (Fl _ _) _)))) (BD bC mf j3.dv) (Gq bC mf (fun r hr=>j3.mem.ae r (by rcases gu.1 hr with rfl|hr;(· exact fi ..);(· exact gB _ (Ft _ hr))))) (w.heap.size+1)
  (fun cd dE=>∃rs,dE=eQ (w.heap.size+1) eV::rs∧J cd rs) (fun cd dE=>∃rs c,dE=eQ (w.heap.size+1) {eV with state:= .done,pending:=some c}::rs∧Jx c cd rs) ⟨bQ,rfl,h0⟩ ?yr
 case yr=>
  rintro cd x dE w3 ⟨rs,rfl,hJ⟩ hm hN wk zm
  have hl:w3.heap[w.heap.size+1]?=some (.loop eV):=hm.head.1
  have Gz:eV.params=ps:=by rw [←cS]
  have wm:eV.tmps=a.tmps:=by rw [←cS]
  have lM:eV.body=body:=by rw [←cS]
  have has:eV.assign=mU:=by rw [←cS]
  have hy:=run_yield (P:=P) (args:=(encs x).toArray) hl (by rw [Gz];simp [dI])
  rw [Gz,wm,lM,has]at hy
  refine⟨_,_,_,_,hy,roundIn_of_wpIn trivial ?_⟩
  have GB:cK (aR (eQ (w.heap.size+1) eV::rs)) w3 n ⟨ah,eQ (w.heap.size+1) eV::rs⟩ {a with defers:= []} w3:=⟨n0.1.size,rfl,n0.1.ah,aS.refl _ _,hm⟩
  have qu:=NU (ps.toList.zip (encs x)) _ _ _ GB (fun p hp=>Gy _ (List.of_mem_zip hp).1)
  have he:({tmps:=(ps.zip (encs x).toArray).foldl (fun t (p,v)=>t.setIfInBounds p v) a.tmps,defers:= []}:Act)={({a with defers:= []}:Act)with tmps:=(ps.toList.zip (encs x)).foldl (fun t p=>t.setIfInBounds p.1 p.2) a.tmps}:=by
   congr 1
   rw [←Array.foldl_toList,Array.toList_zip]
  rw [he]
  refine NW (w.heap.size+1) eV w3 cd x rs eJ jk hJ hN hm wk zm _ w3 ?_
  exact⟨qu,rfl⟩
 have ea:(#[.func (.yield (w.heap.size+1)) #[] #[]]++lb.toArray:Array Value)=(.func (.yield (w.heap.size+1)) #[] #[]::lb).toArray:=by simp
 rw [ea]
 refine hc.mono ?_
 rintro e w4 ⟨⟨v,rfl⟩,xs,dE,⟨GC,N0⟩,N1⟩
 have GD:cK X W n ⟨ah,dE++df [w.heap.size]::bu⟩ {a with defers:= []} w4:=j3.change (cs:=eQ (w.heap.size+1) eV::bQ) (ls:=df [w.heap.size]::bu) (m:=dE) (Y:=aR (eQ (w.heap.size+1) eV::bQ)) (List.Perm.refl _) GC (fun b hb=>hb) N0
 have GF:∀r rs,dE=eQ (w.heap.size+1) r::rs→r.state≠ .busy→∃w5,(Instr.endLoop (w.heap.size+1)).run P w4= .ok r.pending w5∧SF (sG w.heap.size::ds) X W n ⟨ah,df [w.heap.size]::(rs++bu)⟩ {a with defers:= [sG w.heap.size]++a.defers} w5:=by
  rintro r rs rfl hb
  have hl:w4.heap[w.heap.size+1]?=some (.loop r):=GD.mem.head.1
  refine⟨_,run_endLoop hl hb,?_,by simp [n0.2]⟩
  have h5:=(show cK X W n ⟨ah,eQ (w.heap.size+1) r::(rs++df [w.heap.size]::bu)⟩ {a with defers:= []} w4 from GD).JQ (r':={r with state:= .exhausted})
  exact ar dF.refl ((ax.sub (Fl _ _)).trans (ax.aI Fs)) _ _ h5
 rcases N1 with⟨hS,rs,BF,hJ⟩|⟨hS,rs,c,BF,hJ⟩
 ·obtain⟨w5,mV,BG⟩:=GF _ _ BF (by rw [eJ];intro h;cases h)
  refine⟨none,w5,by rw [mV,jk],?_⟩
  exact NX _ xs rs hS hJ _ _ BG
 ·obtain⟨w5,mV,BG⟩:=GF _ _ BF (by intro h;cases h)
  refine⟨some c,w5,mV,?_⟩
  exact NY _ c xs rs hS hJ _ _ BG
end
section
variable{ρ:Option Nat}{P:Program}{Qb:Exit→Act→World→Prop}{ds:List Deferred}{X:Nat→Prop}{W:World}{n:Nat}{k:List K}
theorem afL{ι:Type}{c:Code}{bg:List (Nat×Value)}{bh:List an}(φ:ι→Prop)(μ:ι→Nat)(i0:ι)(h0:φ i0)
  (hr:∀i,φ i→RF ρ P Qb ds X W n (.bn c:: .stop (Gp ds X W n φ (fun i=>⟨bg,bh⟩) μ (μ i))::k) ⟨bg,bh⟩):RF ρ P Qb ds X W n (.bn (.loop c)::k) ⟨bg,bh⟩:=by
 exact NP φ (fun i=>⟨bg,bh⟩) μ i0 h0 (ar dF.refl ax.refl) hr
theorem uI{ι:Type}{c:Code}{bg:List (Nat×Value)}{bh:List an}{s0:Nat}{u0:Value}{r0:an}(φ:ι→Prop)(f0:ι→Value)(g0:ι→an)(μ:ι→Nat)(i0:ι)(h0:φ i0)(e0:u0=f0 i0)(q0:cm r0 (g0 i0))
  (hr:∀i,φ i→RF ρ P Qb ds X W n (.bn c:: .stop (Gp ds X W n φ (fun i=>⟨(s0,f0 i)::bg,g0 i::bh⟩) μ (μ i))::k) ⟨(s0,f0 i)::bg,g0 i::bh⟩):RF ρ P Qb ds X W n (.bn (.loop c)::k) ⟨(s0,u0)::bg,r0::bh⟩:=by
 subst e0
 exact NP φ (fun i=>⟨(s0,f0 i)::bg,g0 i::bh⟩) μ i0 h0 (ar dF.refl (ax.cons ag.ak q0 ax.refl)) hr
theorem U1{ι:Type}{c:Code}{bg:List (Nat×Value)}{bh:List an}{s0 s1:Nat}{u0 u1:Value}{r0:an}(φ:ι→Prop)(f0 f1:ι→Value)(g0:ι→an)(μ:ι→Nat)(i0:ι)(h0:φ i0)(e0:u0=f0 i0)(e1:u1=f1 i0)(q0:cm r0 (g0 i0))
  (hr:∀i,φ i→RF ρ P Qb ds X W n (.bn c:: .stop (Gp ds X W n φ (fun i=>⟨(s0,f0 i)::(s1,f1 i)::bg,g0 i::bh⟩) μ (μ i))::k) ⟨(s0,f0 i)::(s1,f1 i)::bg,g0 i::bh⟩):RF ρ P Qb ds X W n (.bn (.loop c)::k) ⟨(s0,u0)::(s1,u1)::bg,r0::bh⟩:=by
 subst e0;subst e1
 exact NP φ (fun i=>⟨(s0,f0 i)::(s1,f1 i)::bg,g0 i::bh⟩) μ i0 h0 (ar dF.refl (ax.cons ag.ak q0 ax.refl)) hr
end
end Hr
end
def gH:List (Int×Int):=(List.range 10).flatMap fun(a:Nat)=>(List.range 4).map fun(d:Nat)=>((a:Int)-1,(d:Int))
theorem JR:gH.length=40:=by decide
theorem afM:∀a∈List.range 10,∀d∈List.range 4,gH.take (4*a+d)++ [((a:Int)-1,(d:Int))]=gH.take (4*a+(d+1)):=by decide
theorem afN{a d:Nat}(ha:a<10)(hd:d<4):gH.take (4*a+d)++ [((a:Int)-1,(d:Int))]=gH.take (4*a+(d+1)):=afM a (jU.2 ha) d (jU.2 hd)
def U2(p:Int×Int):List Value:= [.agg #[.int .i64 p.1,.int .i64 p.2]]
def oQ(p:Int×Int):List Value:= [.int .i64 p.1,.int .i64 p.2]
def qB(v:Int×Int):Prop:=gx v.1 v.2
theorem N2:∀v∈gH,qB v:=by
 unfold qB gx
 decide
theorem afO:((5,0):Int×Int)∈gH:=by decide
def uV(v:Int×Int):Int:=fQ v.1 v.2/945
theorem DW{v:Int×Int}(h:qB v):8≤uV v∧uV v≤8192∧fQ v.1 v.2=945*uV v:=by
 obtain⟨a,b⟩:=v
 unfold qB gx at h
 unfold uV
 simp only at h⊢
 have h1:a= -1∨a=0∨a=1∨a=2∨a=3∨a=4∨a=5∨a=6∨a=7∨a=8:=oM
 have h2:b=0∨b=1∨b=2∨b=3:=oM
 rcases h1 with rfl|rfl|rfl|rfl|rfl|rfl|rfl|rfl|rfl|rfl<;>rcases h2 with rfl|rfl|rfl|rfl<;>decide
theorem afP:uV (5,0)=64:=by decide
theorem rE{α:Type} [Inhabited α]{l r:List α}{k:Nat}(h:k<l.length):aa (l++r) k=aa l k:=by simp [aa,C0 h]
def pO:List Int→Int
 | []=>0
 |x::l=>x+pO l
theorem JS:∀(a b:List Int),pO (a++b)=pO a+pO b
 | [],b=>by simp [pO]
 |x::a,b=>by
  have:=JS a b
  simp only [AL,pO]
  omega
def Ds(ds:List Int):Prop:=(∀i,i<ds.length→8≤aa ds i∧aa ds i≤8192)∧∃i,i<ds.length∧aa ds i=64
theorem afQ{vs:List (Int×Int)}(h:vs.Perm gH):Ds (vs.map uV):=by
 have e:∀i,i<vs.length→aa (vs.map uV) i=uV (aa vs i):=fun i hi=>by simp [aa,oy,kW hi]
 refine⟨fun i hi=>?_,?_⟩
 ·rw [bG]at hi
  rw [e i hi]
  have:=DW (N2 _ (h.mem_iff.1 (aN hi)))
  exact⟨this.1,this.2.1⟩
 ·obtain⟨i,hi,hv⟩:=oz (h.mem_iff.2 afO)
  refine⟨i,by simpa using hi,?_⟩
  rw [e i hi,show aa vs i=(5,0)from by simp [aa,hi,hv]]
  exact afP
theorem nB{α:Type} [Inhabited α]{l:List α}{k:Nat}(h:k<l.length):l.take (k+1)=l.take k++ [aa l k]:=by
 rw [List.take_add_one,kW h];simp [aa,h]
structure DPj(ds a7:List Int)(j:Nat):Prop where
 lo:aa a7 j= -1∨(0≤aa a7 j∧aa a7 j≤j)
 zero:0<j→aa a7 j≠0
 U3:0<aa a7 j→∃i,i<ds.length∧aa ds i≤j∧aa a7 (j-(aa ds i).toNat)=aa a7 j-1
 zn:j%64=0→0≤aa a7 j∧aa a7 j*64≤j
def DP(ds a7:List Int)(k:Nat):Prop:=a7.length=k∧∀j,j<k→DPj ds a7 j
structure sH(ds a7:List Int)(j i:Nat)(c:Int):Prop where
 is:c= -1∨(1≤c∧c≤j∧∃i',i'<i∧aa ds i'≤j∧aa a7 (j-(aa ds i').toNat)=c-1)
 all:∀i',i'<i→aa ds i'≤j→0≤aa a7 (j-(aa ds i').toNat)→1≤c∧c≤aa a7 (j-(aa ds i').toNat)+1
theorem sH.ge{ds a7:List Int}{j i:Nat}{c:Int}(h:sH ds a7 j i c):c= -1∨1≤c:=h.is.imp id (fun g=>g.1)
theorem DP.start{ds:List Int}:DP ds [0] 1:=⟨rfl,fun j hj=>by
 obtain rfl:j=0:=oM
 exact⟨.inr (by decide),fun h=>oM,fun h=>by simp [aa]at h,fun _=>by decide⟩⟩
theorem sH.start{ds a7:List Int}{j:Nat}:sH ds a7 j 0 (-1):=⟨.inl rfl,fun i h=>oM⟩
theorem sH.skip{ds a7:List Int}{j i:Nat}{c:Int}(h:sH ds a7 j i c)(hn:aa ds i≤j→0≤aa a7 (j-(aa ds i).toNat)→1≤c∧c≤aa a7 (j-(aa ds i).toNat)+1):sH ds a7 j (i+1) c:=by
 refine⟨h.is.imp id fun⟨h1,h2,i',h3,h4⟩=>⟨h1,h2,i',oM,h4⟩,fun i' hi h1 h2=>?_⟩
 rcases ie i' i with bN|AT
 ·exact h.all i' bN h1 h2
 ·obtain rfl:i'=i:=oM
  exact hn h1 h2
theorem sH.take{ds a7:List Int}{j i:Nat}{c:Int}(h:sH ds a7 j i c)(hD:DP ds a7 j)(h8:8≤aa ds i)(h1:aa ds i≤j)(h2:0≤aa a7 (j-(aa ds i).toNat))(h3:c<0∨aa a7 (j-(aa ds i).toNat)+1<c):sH ds a7 j (i+1) (aa a7 (j-(aa ds i).toNat)+1):=by
 have hb:=(hD.2 (j-(aa ds i).toNat)  oM).lo
 refine⟨.inr ⟨oM,oM,i,oM,h1,oM⟩,fun i' hi g1 g2=>?_⟩
 rcases ie i' i with bN|AT
 ·have:=h.all i' bN g1 g2
  omega
 ·obtain rfl:i'=i:=oM
  omega
theorem DP.next{ds a7:List Int}{j:Nat}{c:Int}(hD:DP ds a7 j)(j4:Ds ds)(hj:1≤j)(h:sH ds a7 j ds.length c):DP ds (a7++ [c]) (j+1):=by
 have hl:=hD.1
 have e1:∀i,i<j→aa (a7++ [c]) i=aa a7 i:=fun i hi=>rE  oM
 have e2:aa (a7++ [c]) j=c:=by simp [aa,←hl]
 refine⟨by simp [hl],fun q hq=>?_⟩
 rcases ie q j with bN|AT
 ·have g:=hD.2 q bN
  refine⟨by rw [e1 q bN];exact g.lo,by rw [e1 q bN];exact g.zero,fun hp=>?_,by rw [e1 q bN];exact g.zn⟩
  rw [e1 q bN]at hp⊢
  obtain⟨i,hi,h1,h2⟩:=g.U3 hp
  exact⟨i,hi,h1,by rw [e1 _  oM];exact h2⟩
 ·obtain rfl:q=j:=oM
  refine⟨?_,?_,?_,?_⟩
  ·rw [e2];rcases h.is with h|h<;>omega
  ·rw [e2];rcases h.is with h|h<;>omega
  ·rw [e2]
   intro hp
   rcases h.is with h|⟨_,_,i,hi,h1,h2⟩
   ·omega
   ·have:=(j4.1 i hi).1
    exact⟨i,hi,h1,by rw [e1 _  oM];exact h2⟩
  ·rw [e2]
   intro hm
   obtain⟨i,hi,N3⟩:=j4.2
   have g:=(hD.2 (q-64)  oM).zn  oM
   have:=h.all i hi (by rw [N3];omega) (by rw [N3];exact g.1)
   rw [N3]at this
   have e64:(64:Int).toNat=64:=rfl
   rw [e64]at this
   omega
def uJ(a7:List Int)(n:Nat)(d:Int):Bool:=decide (d≤n)&&(aa a7 (n-d.toNat)==aa a7 n-1)
theorem U4{α:Type} [Inhabited α]{p:α→Bool}:∀{l:List α} {i:Nat},i<l.length→p (aa l i)=true→gq.hQ p l<l.length
 | [],i,h,_=>by simp at h
 |x::l,0,_,h=>by
  have h':p x=true:=h
  simp [gq.hQ,h']
 |x::l,i+1,hi,h=>by
  by_cases hx:p x=true
  ·simp [gq.hQ,hx]
  ·have:=U4 (l:=l) (i:=i) (by simpa using hi) h
   simp only [gq.hQ,hx,eF]
   simp
   omega
structure BH(vs:List (Int×Int))(a7:List Int)(n left:Nat)(gX:List (Int×Int)):Prop where
 le:left≤n
 ok:∀v∈gX,qB v
 sum:pO (gX.map uV)+left=n
 len:gX.length+aa a7 left=aa a7 n
 nn:0≤aa a7 left
theorem BH.start{vs:List (Int×Int)}{a7:List Int}{n:Nat}(h:0≤aa a7 n):BH vs a7 n n []:=⟨ct _,by simp,by simp [pO],by simp,h⟩
theorem BH.BI{vs:List (Int×Int)}{a7:List Int}{n left k:Nat}{gX:List (Int×Int)}(h:BH vs a7 n left gX)(hD:DP (vs.map uV) a7 k)(hk:n<k)(hv:∀v∈vs,qB v)(h0:0<left):
  ∃i:Nat,i<vs.length∧gq.pJ (uJ a7 left) (vs.map uV)=i∧uV (aa vs i)≤left∧aa (vs.map uV) i=uV (aa vs i)∧BH vs a7 n (left-(uV (aa vs i)).toNat) (gX++ [aa vs i])∧qB (aa vs i):=by
 have g:=hD.2 left (by have:=h.le;omega)
 have hz:=g.zero h0
 have hn:=h.nn
 obtain⟨i,hi,h1,h2⟩:=g.U3  oM
 have bN:=U4 (p:=uJ a7 left) hi (by simp [uJ,h1,h2])
 have nW:gq.pJ (uJ a7 left) (vs.map uV)≠-1:=by rw [gq.pJ,aH bN];omega
 obtain⟨i',iJ,he,_,hp⟩:=gq.ae7 nW
 rw [bG]at iJ
 have U5:aa (vs.map uV) i'=uV (aa vs i'):=by simp [aa,oy,kW iJ]
 rw [U5]at hp
 simp only [uJ,fu,ir,kh]at hp
 have bW:=hv _ (aN iJ)
 have hb:=DW bW
 refine⟨i',iJ,he,hp.1,U5,⟨by have:=h.le;omega,fun v sm=>?_,?_,?_,?_⟩,bW⟩
 ·rcases dK.1 sm with h'|h'
  ·exact h.ok v h'
  ·rw [c_.1 h'];exact bW
 ·have:=h.sum
  rw [bT,JS]
  simp only [qq,List.map_nil,pO]
  omega
 ·have:=h.len
  rw [ay,sg,hp.2]
  omega
 ·rw [hp.2];omega
def jH(n:Int)(es:List a8):Prop:=∀j,j<es.length→(aa es j).x.n.bX=1∧(aa es j).x.n.aG=n+1+j
theorem jH.nil{n:Int}:jH n []:=fun j h=>absurd h  sM 
theorem jH.n3{n:Int}{es:List a8}(h:jH n es){e:a8}{id lg d:Int}(he:iX e.x id lg d)(fX:id=n+es.length+1):jH n (es++ [e]):=by
 intro j hj
 rw [ay,sg]at hj
 by_cases bN:j<es.length
 ·rw [rE bN];exact h j bN
 ·obtain rfl:j=es.length:=oM
  have e1:aa (es++ [e]) es.length=e:=by simp [aa]
  rw [e1]
  exact⟨he.bX,by rw [he.aG,fX];omega⟩
structure sI(n:Int)(es:List a8)(ts:List Tu.aX)(u:Int):Prop where
 vs:VS (es.map a8.x) ts u
 eW:jH n es
theorem sI.nil{n u:Int}(h:u=0):sI n [] [] u:=by subst h;exact⟨VS.nil,jH.nil⟩
theorem sI.one{n u u':Int}{es:List a8}{ts:List Tu.aX}(h:sI n es ts u){e:a8}{id lg d:Int}(he:iX e.x id lg d)(fX:id=n+es.length+1)(hv:gx lg d)(hu:u'=u+fQ lg d):sI n (es++ [e]) ts u':=by
 subst hu
 refine⟨?_,h.eW.n3 he fX⟩
 rw [bT]
 exact h.vs.one he hv
structure xJ(n lg:Int)(es tr:List a8)(j:Nat):Prop where
 len:tr.length=j
 eW:jH n (es++tr)
 ev:∀i,i<j→∃id,iX (aa tr i).x id lg 0
theorem xJ.start{n lg u:Int}{es:List a8}{ts:List Tu.aX}(h:sI n es ts u):xJ n lg es [] 0:=⟨rfl,by rw [gZ];exact h.eW,fun i hi=>oM⟩
theorem xJ.next{n lg:Int}{es tr:List a8}{j:Nat}(h:xJ n lg es tr j){e:a8}{id d:Int}(he:iX e.x id lg d)(hd:d=0)(fX:id=n+(es++tr).length+1):xJ n lg es (tr++ [e]) (j+1):=by
 subst hd
 refine⟨by rw [ay,h.len];rfl,by rw [←bj];exact h.eW.n3 he fX,fun i hi=>?_⟩
 by_cases bN:i<j
 ·rw [rE (by rw [h.len];exact bN)];exact h.ev i bN
 ·obtain rfl:i=j:=oM
  have e1:aa (tr++ [e]) i=e:=by simp [aa,←h.len]
  rw [e1];exact⟨id,he⟩
theorem xJ.done{n lg u u':Int}{es tr:List a8}{ts:List Tu.aX}(h:xJ n lg es tr 3)(hm:sI n es ts u)(hl:1≤lg∧lg≤4)(hu:u'=u+2*fQ lg 0):sI n (es++tr) (ts++ [mn es.length]) u':=by
 subst hu
 refine⟨?_,h.eW⟩
 obtain⟨a,b,c,rfl⟩:∃a b c,tr= [a,b,c]:=by
  have lN:=h.len
  rcases tr with _|⟨a,_|⟨b,_|⟨c,_|⟨d,t⟩⟩⟩⟩
  ·simp at lN
  ·simp at lN
  ·simp at lN
  ·exact⟨a,b,c,rfl⟩
  ·simp at lN
 obtain⟨i1,h1⟩:=h.ev 0  oM
 obtain⟨i2,h2⟩:=h.ev 1  oM
 obtain⟨i3,h3⟩:=h.ev 2  oM
 have e1:aa [a,b,c] 0=a:=rfl
 have e2:aa [a,b,c] 1=b:=rfl
 have e3:aa [a,b,c] 2=c:=rfl
 rw [e1]at h1
 rw [e2]at h2
 rw [e3]at h3
 have g:=VS.afh hm.vs h1 h2 h3 hl
 rw [bG]at g
 have e4:(es++ [a,b,c]).map a8.x=es.map a8.x++ [a.x,b.x,c.x]:=by simp
 rw [e4]
 exact g
theorem U6{a d:Int}(ha:1≤a∧a≤4)(hd:0≤d∧d≤1):gx a d∧∃k:Nat,fQ a d=60480*k∧1≤k∧k≤48:=by
 have h1:a=1∨a=2∨a=3∨a=4:=oM
 have h2:d=0∨d=1:=oM
 refine⟨by unfold gx;omega,?_⟩
 rcases h1 with rfl|rfl|rfl|rfl<;>rcases h2 with rfl|rfl
 ·exact⟨16,by decide,by decide,by decide⟩
 ·exact⟨24,by decide,by decide,by decide⟩
 ·exact⟨8,by decide,by decide,by decide⟩
 ·exact⟨12,by decide,by decide,by decide⟩
 ·exact⟨4,by decide,by decide,by decide⟩
 ·exact⟨6,by decide,by decide,by decide⟩
 ·exact⟨2,by decide,by decide,by decide⟩
 ·exact⟨3,by decide,by decide,by decide⟩
def oR(id:Int):a8:=⟨⟨⟨1,id,3,0,0,0,0,0,0,0⟩, [], [], []⟩,⟨none,0,none,0,none,0⟩⟩
def N4(id:Int)(v:Int×Int):a8:=⟨⟨⟨1,id,2,v.1,v.2,0,0,0,0,0⟩, [], [], []⟩,⟨none,0,none,0,none,0⟩⟩
theorem U7{id:Int}{v:Int×Int}:iX (N4 id v).x id v.1 v.2:=Ge (.inl rfl)
theorem afT{id:Int}(h:0≤id∧id≤1073741824):ig (oR id).x=0:=by
 have fX:mi (oR id).x.n:=by unfold mi oR;simp only;omega
 have hs:jY (oR id).x (kz (oR id).x):=by
  rw [kz,aH (show fz (oR id).x.n.bf from(by unfold fz;omega:fz (3:Int)))]
  simp [jY,oR,iA,uD]
 rw [zg fX (show¬((3:Int)<1∨4<(3:Int)) by decide) hs (fun g=>g.1 rfl) (fun g=>absurd g.1 (show¬(3:Int)=1 by decide)),Ur (by unfold wc oR;simp)]
def cV.val(v:cV):Value:= .agg v.enc.toArray
structure hU(v:cV)(n a:Int):Prop where
 e:xI v n
 eW:jH a v.es
 len:0<v.es.length∧v.es.length≤56
 ev:∀x∈v.es,(∃id,x.x=(oR id).x)∨∃id lg d,iX x.x id lg d∧gx lg d
theorem hU.bu{n a id:Int}{E:Option Addr}{ec:Nat}(fX:0≤a∧a≤1000000)(he:id=a+1):hU ⟨[oR id], [],E,ec,none,0⟩ n a:=by
 subst he
 refine⟨.inl ⟨_,rfl,rfl,rfl,?_,?_⟩,fun j hj=>?_,by simp,fun x hx=> .inl ⟨a+1,?_⟩⟩
 ·exact afT  oM
 ·exact⟨lI _,lI _,lI _,(show(0:Int)≤9223372036854775807 by decide)⟩
 ·obtain rfl:j=0:=by simpa using hj
  exact⟨rfl,by show a+1=a+1+(0:Nat);omega⟩
 ·rw [c_.1 hx]
theorem hU.of{n a u:Int}{es:List a8}{ts:List Tu.aX}{E T:Option Addr}{ec tc:Nat}(h:sI a es ts u)(hu:u=n)(ha:0≤a∧a≤1000000)(hl:0<es.length∧es.length≤56)(ht:ts.length≤16)(htc:ts.length≤tc):hU ⟨es,ts,E,ec,T,tc⟩ n a:=by
 subst hu
 have zo:∀x∈es,∃id lg d,iX x.x id lg d∧gx lg d∧0≤id∧id≤1073741824:=fun x hx=>by
  obtain⟨j,hj,rfl⟩:=oz hx
  obtain⟨id,lg,d,h1,h2⟩:=h.vs.ev j (by simpa using hj)
  have e1:aa (es.map a8.x) j=es[j].x:=by simp [aa,hj]
  have e2:aa es j=es[j]:=by simp [aa,hj]
  rw [e1]at h1
  have:=(h.eW j hj).2
  rw [e2,h1.aG]at this
  exact⟨id,lg,d,h1,h2,oM,oM⟩
 refine⟨.inr ⟨h.vs,fun x hx=>?_,hl.1,by have:=hl.2;show es.length≤128;omega,ht,htc⟩,h.eW,hl,fun x hx=> .inr ?_⟩
 ·obtain⟨id,lg,d,h1,h2,h3,h4⟩:=zo x hx
  exact h1.sB ⟨h3,h4⟩ h2
 ·obtain⟨id,lg,d,h1,h2,_⟩:=zo x hx
  exact⟨id,lg,d,h1,h2⟩
namespace Hr
theorem cm.eq{a b:an}(h:a=b):cm a b:=by subst h;exact .refl
theorem ax.JT{a b c:an}{rs l:List an}:ax (a::b::c:: .aZ rs::l) (.aZ (rs++ [a,b,c])::l):=by
 have h1:ax (a::b::c:: .aZ rs::l) (.aZ rs::a::b::c::l):= .aI (Fs (a:=an.aZ rs) (l₁:= [a,b,c]) (l₂:=l))
 refine h1.trans (.trans .xt ?_)
 rw [show rs++a::b::c::l=(rs++ [a,b,c])++l from by simp]
 exact .close_
end Hr
structure pP where
 fc:List lA
 A:Option Addr
 c:Nat
instance:Inhabited pP:=⟨⟨[],none,0⟩⟩
def pP.enc(l:pP):List Value:= [.slice l.A l.fc.length l.c]
structure iN where
 met:Int
 key:Int
 GG:Int
 uK:Int
 vs:List pP
 VA:Option Addr
 vc:Nat
instance:Inhabited iN:=⟨⟨0,0,0,0, [],none,0⟩⟩
def iN.enc(b:iN):List Value:= [.int .u8 b.met,.int .u8 b.key,.int .u8 b.GG,.int .u8 b.uK,.slice b.VA b.vs.length b.vc]
def iN.val(b:iN):Value:= .agg b.enc.toArray
structure pP.ok(l:pP):Prop where
 len:l.fc.length≤9223372036854775807
 fc:∀x∈l.fc,x.ok
structure iN.ok(b:iN):Prop where
 m:0≤b.met∧b.met≤255
 k:0≤b.key∧b.key≤255
 f:0≤b.GG∧b.GG≤255
 t:0≤b.uK∧b.uK≤255
 len:b.vs.length≤9223372036854775807
 vs:∀x∈b.vs,x.ok
structure iN.rd(w:World)(b:iN):Prop where
 v:Rd w b.VA 1 (b.vs.map pP.enc)
 r:∀x∈b.vs,Rd w x.A 6 (x.fc.map lA.enc)
def gI(vs:List cV):List a8:=vs.flatMap cV.es
def dt(cs:List eC):List a8:=cs.flatMap fun c=>gI c.vs
theorem pQ(a b:List cV):gI (a++b)=gI a++gI b:=by simp [gI]
theorem JU(a b:List eC):dt (a++b)=dt a++dt b:=by simp [dt]
theorem pR(v:cV):gI [v]=v.es:=by simp [gI]
theorem JV(c:eC):dt [c]=gI c.vs:=by simp [dt]
theorem jH.eN{n:Int}{a b:List a8}(ha:jH n a)(hb:jH (n+a.length) b):jH n (a++b):=by
 intro j hj
 by_cases bN:j<a.length
 ·rw [rE bN];exact ha j bN
 ·have e:aa (a++b) j=aa b (j-a.length):=by simp [aa,xi (show a.length≤j by omega)]
  rw [ay]at hj
  rw [e]
  have:=hb (j-a.length)  oM
  exact⟨this.1,by rw [this.2];omega⟩
structure xK(c:eC)(n:Int):Prop where
 cl:c.cl= []
 len:c.vs.length=1∨c.vs.length=2
 vs:∀v∈c.vs,∃a,hU v n a
theorem JW:∀{vs:List cV} {n:Int},(∀v∈vs,∃a,hU v n a)→(gI vs).length≤56*vs.length
 | [],n,h=>by simp [gI]
 |v::vs,n,h=>by
  obtain⟨a,hv⟩:=h v sM
  have h1:=JW (vs:=vs) (n:=n) fun x hx=>h x (by simp [hx])
  have e:gI (v::vs)=v.es++gI vs:=by simp [gI]
  rw [e,ay,eF]
  have:=hv.len.2
  omega
theorem GH:∀{cs:List eC} {n:Int},(∀c∈cs,xK c n)→(dt cs).length≤112*cs.length
 | [],n,h=>by simp [dt]
 |c::cs,n,h=>by
  have hc:=h c sM
  have h0:=JW hc.vs
  have h1:=GH (cs:=cs) (n:=n) fun x hx=>h x (by simp [hx])
  have e:dt (c::cs)=gI c.vs++dt cs:=by simp [dt]
  rw [e,ay,eF]
  have:=hc.len
  omega
def tD(n:Int)(b:iN):Nv:=⟨1,n+1,aa qy (b.met%5).toNat,0,b.key%9-4,false,0,0,0,0,0,0,ByteArray.mk #[]⟩
structure iY(m:aQ)(k:Nat)(n:Int):Prop where
 met:Wm m.n.met
 xL:m.n.len=0
 id:m.n.bX=1∧m.n.aG=n+1
 jw: -4≤m.n.jw∧m.n.jw≤4
 fz:(m.n.cy=0∨m.n.cy=2∨m.n.cy=3)∧m.n.Gb=0∧m.n.Jz=0∧m.n.JA=0∧(m.n.we=0∨m.n.we=60)∧m.n.JB=0∧m.n.DI=ByteArray.mk #[]
 tm:m.tm= []∨∃t,m.tm= [t]∧t.fJ=0∧300000≤t.cC∧t.cC≤2850000
 cs:m.cs.length=k
 ce:∀c∈m.cs,xK c m.n.met.ln
 eW:jH (n+1) (dt m.cs)
theorem iY.of{n:Int}{b:iN}{k:Nat}{cs:List eC}{tm:List Bp}{TA CA:Option Addr}{tc cc:Nat}(hb:b.ok)(ht:tm= []∨∃t,tm= [t]∧t.fJ=0∧300000≤t.cC∧t.cC≤2850000)(hl:cs.length=k)(hc:∀c∈cs,xK c (aa qy (b.met%5).toNat).ln)(hi:jH (n+1) (dt cs)):
  iY ⟨tD n b,tm,cs,TA,tc,CA,cc⟩ k n:=by
 have hk:=hb.k
 have hm:=hb.m
 exact⟨JC  oM,rfl,⟨rfl,rfl⟩,⟨by show-4≤b.key%9-4;omega,by show b.key%9-4≤4;omega⟩,⟨.inl rfl,rfl,rfl,rfl,.inl rfl,rfl,rfl⟩,ht,hl,hc,hi⟩
theorem afV{q:Nat}(h:q<5):∃u:Nat,(aa qy q).ln=60480*u∧1≤u∧u≤32:=by
 rcases(JC h).ln.1 with e|e|e
 ·exact⟨32,by rw [e];rfl,by decide,by decide⟩
 ·exact⟨24,by rw [e];rfl,by decide,by decide⟩
 ·exact⟨20,by rw [e];rfl,by decide,by decide⟩
theorem U8{b:Nat}{t:TypeId}{cs:List (Nat×Value)}{k:Nat}:aR [.aj b t cs] k↔b=k:=by simp [aR,an.at]
theorem JX{b:Nat}{t:TypeId}{cs xr:List (Nat×Value)}{W w w':World}(h:aS (aR [.aj b t cs]) W w)(h':aS (aR [.aj b t xr]) w w'):aS (aR [.aj b t cs]) W w':=h.step h' fun k _ hx hy=>hx (U8.2 (U8.1 hy))
end Go.Proofs.YtafaoccjbifbaaaGreat
