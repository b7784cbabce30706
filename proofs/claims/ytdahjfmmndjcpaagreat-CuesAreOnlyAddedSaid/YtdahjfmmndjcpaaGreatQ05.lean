/- Part. -/
import Derived.Test.YtdahjfmmndjcpaaGreatQ02
set_option linter.unusedSimpArgs false
set_option linter.unusedVariables false
set_option maxHeartbeats 40000000
set_option maxRecDepth 100000
namespace Go.Proofs.YtdahjfmmndjcpaaGreat
open Go Go.RowKit Hr Go.Proofs.Tryz
namespace Tu
structure bb where
 first:Int
 count:Int
 nE:Int
 normal:Int
instance:Inhabited bb:=⟨⟨0,0,0,0⟩⟩
def bb.enc(t:bb):List Value:= [.int .i64 t.first,.int .i64 t.count,.int .i64 t.nE,.int .i64 t.normal]
def bb.val(t:bb):Value:= .agg t.enc.toArray
def eW(n:Int):List Value:= [.int .i64 n]
def eZ(t:bb):Int:=t.first+t.count
def dw(f:Nat→Int):Nat→Nat→Int
 |0,_=>0
 |n+1,i=>if f i≠0 then f i else dw f n (i+1)
theorem BN{f:Nat→Int}{n i:Nat}(h:i<n)(h0:f i=0):dw f (n-i) i=dw f (n-(i+1)) (i+1):=by
 rw [show n-i=n-(i+1)+1 from oM,dw,ay (by simp [h0])]
theorem z7{f:Nat→Int}{n i:Nat}(h:i<n)(h0:f i≠0):dw f (n-i) i=f i:=by
 rw [show n-i=n-(i+1)+1 from oM,dw,aG h0]
theorem GS{f:Nat→Int}:∀{n i:Nat},dw f n i=0→∀j,j<n→f (i+j)=0
 |n+1,i,h,j,hj=>by
  simp only [dw]at h
  by_cases h0:f i=0
  ·rw [ay (by simp [h0])]at h
   cases j with
   |zero=>simpa using h0
   |succ j=>
    have:=GS h j  oM
    rwa [show i+(j+1)=i+1+j from oM]
  ·rw [aG h0]at h;exact absurd h h0
theorem Ec{f:Nat→Int}:∀{n i:Nat},(∀j,i≤j→j<i+n→f j=0)→dw f n i=0
 |0,_,_=>rfl
 |n+1,i,h=>by
  rw [dw,ay (by simp [h i  oM oM])]
  exact Ec fun j h1 h2=>h j  oM oM
def lK(n:Int)(t:bb):Prop:=1≤t.count∧t.count≤n∧0≤t.first∧t.first≤n-t.count∧1≤t.nE∧t.nE≤32∧1≤t.normal∧t.normal≤32∧t.nE≠t.normal
instance(n:Int)(t:bb):Decidable (lK n t):=by unfold lK;infer_instance
def pW(t p:bb):Prop:=t.first<p.first∨(t.first=p.first∧p.count<t.count)
instance(t p:bb):Decidable (pW t p):=by unfold pW;infer_instance
def mi(ts:List bb)(i:Nat)(f:Int):List bb:=(ts.take i).filter fun u=>decide (f<eZ u)
def qH(ts:List bb)(i:Nat):Prop:=3≤(mi ts i (aa ts i).first).length∨∃u∈mi ts i (aa ts i).first,eZ u<eZ (aa ts i)
instance(ts:List bb)(i:Nat):Decidable (qH ts i):=by unfold qH;infer_instance
def o8(n:Int)(ts:List bb)(i:Nat):Int:=if¬lK n (aa ts i)then 2 else if 0<i∧pW (aa ts i) (aa ts (i-1))then 25 else if qH ts i then 21 else 0
def nF(ts:List bb)(n:Int):Int:=if n<0∨128<n then 2 else if 16<ts.length then 9 else dw (o8 n ts) ts.length 0
theorem KE{n:Int}{ts:List bb}{i:Nat}(h:o8 n ts i=0):lK n (aa ts i)∧(0<i→¬pW (aa ts i) (aa ts (i-1)))∧¬qH ts i:=by
 unfold o8 at h
 by_cases h1:¬lK n (aa ts i)
 ·rw [aG h1]at h;cases h
 rw [ay h1]at h
 by_cases h2:0<i∧pW (aa ts i) (aa ts (i-1))
 ·rw [aG h2]at h;cases h
 rw [ay h2]at h
 by_cases h3:qH ts i
 ·rw [aG h3]at h;cases h
 exact⟨Gh.1 h1,fun h0 ha=>h2 ⟨h0,ha⟩,h3⟩
theorem Om{n:Int}{ts:List bb}{i:Nat}(h1:lK n (aa ts i))(h2:0<i→¬pW (aa ts i) (aa ts (i-1)))(h3:¬qH ts i):o8 n ts i=0:=by
 rw [o8,ay (by simp [h1]),ay (fun h=>h2 h.1 h.2),ay h3]
theorem BP{n:Int}{ts:List bb}{i:Nat}(h:¬lK n (aa ts i)):o8 n ts i=2:=by rw [o8,aG h]
theorem aeZ{n:Int}{ts:List bb}{i:Nat}(h1:lK n (aa ts i))(h0:0<i)(h:pW (aa ts i) (aa ts (i-1))):o8 n ts i=25:=by rw [o8,ay (by simp [h1]),aG ⟨h0,h⟩]
theorem UI{n:Int}{ts:List bb}{i:Nat}(h1:lK n (aa ts i))(h2:0<i→¬pW (aa ts i) (aa ts (i-1)))(h3:qH ts i):o8 n ts i=21:=by
 rw [o8,ay (by simp [h1]),ay (fun h=>h2 h.1 h.2),aG h3]
def jz(n:Int)(ts:List bb)(i:Nat):Prop:=∀j,j<i→o8 n ts j=0
theorem jz.zero{n:Int}{ts:List bb}:jz n ts 0:=fun j h=>oM
theorem jz.succ{n:Int}{ts:List bb}{i:Nat}(h:jz n ts i)(h0:o8 n ts i=0):jz n ts (i+1):=fun j hj=>by
 by_cases e:j=i
 ·subst e;exact h0
 ·exact h j  oM
theorem On{n:Int}{ts:List bb}(h:nF ts n=0):0≤n∧n≤128∧ts.length≤16∧jz n ts ts.length:=by
 unfold nF at h
 by_cases h1:n<0∨128<n
 ·rw [aG h1]at h;cases h
 rw [ay h1]at h
 by_cases h2:16<ts.length
 ·rw [aG h2]at h;cases h
 rw [ay h2]at h
 refine⟨oM,oM,oM,fun j hj=>?_⟩
 have:=GS h j hj
 rwa [xR]at this
theorem UJ{n:Int}{ts:List bb}(h1:0≤n)(h2:n≤128)(h3:ts.length≤16)(h:jz n ts ts.length):nF ts n=0:=by
 rw [nF,ay  oM,ay  oM]
 exact Ec fun j _ hj=>h j  oM
theorem wD{n:Int}{ts:List bb}{i:Nat}{e:Int}(h1:0≤n)(h2:n≤128)(h3:ts.length≤16)(h:jz n ts i)(hi:i<ts.length)(he:o8 n ts i=e)(h0:e≠0):nF ts n=e:=by
 rw [nF,ay  oM,ay  oM]
 have key:∀k,k≤i→dw (o8 n ts) ts.length 0=dw (o8 n ts) (ts.length-k) k:=by
  intro k
  induction k with
  |zero=>intro _;rfl
  |succ k ih=>intro hk;rw [ih  oM,BN  oM (h k  oM)]
 rw [key i (cm _),z7 hi (by rw [he];exact h0),he]
theorem Oo{ts:List bb}{i:Nat}{u:bb}(h:u∈ts.take i):∃j,j<i∧j<ts.length∧u=aa ts j:=by
 obtain⟨j,hj,rfl⟩:=fX h
 rw [fL]at hj
 refine⟨j,oM,oM,?_⟩
 simp [aa,show j<ts.length by omega]
theorem ae0{ts:List bb}{i:Nat}{f:Int}{u:bb}:u∈mi ts i f↔u∈ts.take i∧f<eZ u:=by simp [mi]
def pX(s:List bb)(f:Int):Nat→Nat
 |0=>0
 |k+1=>if eZ (aa s k)≤f then pX s f k else k+1
theorem UK(s:List bb)(f:Int):∀k,pX s f k≤k
 |0=>cm _
 |k+1=>by rw [pX];split;exact Nat.le_succ_of_le (UK s f k);exact cm _
def uX(s:List bb)(f:Int):List bb:=s.take (pX s f s.length)
def wE(s:List bb)(t:bb):Bool:=decide (¬((uX s t.first).length=3∨(0<(uX s t.first).length∧eZ (aa (uX s t.first) ((uX s t.first).length-1))<eZ t)))
def x8(s:List bb)(t:bb):List bb:=if wE s t=true then uX s t.first++ [t]else uX s t.first
def wF(s:List bb):Prop:=s.Pairwise fun u v=>eZ v≤eZ u
theorem ae1{s:List bb}{f:Int}(h:∀u∈s,eZ u≤f):s.filter (fun u=>decide (f<eZ u))= []:=by
 rw [List.filter_eq_nil_iff];intro u hu;have:=h u hu;simp;omega
theorem UL{s:List bb}{f:Int}(h:wF s):uX s f=s.filter fun u=>decide (f<eZ u):=by
 have key:∀k,k≤s.length→s.take (pX s f k)=(s.take k).filter fun u=>decide (f<eZ u):=by
  intro k
  induction k with
  |zero=>intro _;simp [pX]
  |succ k ih=>
   intro hk
   rw [pX]
   by_cases he:eZ (aa s k)≤f
   ·rw [aG he,ih  oM,o6 (show k<s.length by omega),uH]
    have:¬f<eZ (aa s k):=oM
    simp [this]
   ·rw [ay he]
    symm
    rw [J4]
    intro u hu
    obtain⟨j,hj,qD,rfl⟩:=Oo hu
    have:eZ (aa s k)≤eZ (aa s j):=by
     by_cases e:j=k
     ·subst e;exact xV _
     ·have hp:=zB.1 h j k qD  oM oM
      simpa [aa,qD,show k<s.length by omega]using hp
    simp;omega
 have:=key s.length (cm _)
 rw [zC]at this
 exact this
def jf(ts:List bb):Nat→List bb
 |0=> []
 |i+1=>mi ts (i+1) (aa ts i).first
theorem wF.filter{s:List bb}(h:wF s)(p:bb→Bool):wF (s.filter p):=List.Pairwise.filter p h
theorem GU{n:Int}{ts:List bb}{i:Nat}(hg:jz n ts i)(ha:0<i→¬pW (aa ts i) (aa ts (i-1))):(jf ts i).filter (fun u=>decide ((aa ts i).first<eZ u))=mi ts i (aa ts i).first:=by
 cases i with
 |zero=>simp [jf,mi]
 |succ i=>
  have h1:=ha  oM
  rw [DV]at h1
  unfold pW at h1
  rw [jf,mi,mi,List.filter_filter]
  apply List.filter_congr
  intro u _
  by_cases h2:(aa ts (i+1)).first<eZ u
  ·have:(aa ts i).first<eZ u:=oM
   simp [h2,this]
  ·simp [h2]
theorem GV{n:Int}{ts:List bb}{i:Nat}(hg:jz n ts i)(ha:0<i→¬pW (aa ts i) (aa ts (i-1)))(hn:wF (jf ts i))(hl:(jf ts i).length≤3):wE (jf ts i) (aa ts i)=true↔¬qH ts i:=by
 have e:uX (jf ts i) (aa ts i).first=mi ts i (aa ts i).first:=by rw [UL hn,GU hg ha]
 have fD:(mi ts i (aa ts i).first).length≤3:=by
  rw [←GU hg ha];exact la (List.length_filter_le _ _) hl
 have KF:wF (mi ts i (aa ts i).first):=by rw [←GU hg ha];exact hn.filter _
 unfold wE qH
 rw [e,iK]
 generalize mi ts i (aa ts i).first=s at fD KF
 constructor
 ·intro h hb
  apply h
  rcases hb with hb|⟨u,hu,bG⟩
  ·left;omega
  ·right
   have h0:0<s.length:=List.length_pos_of_mem hu
   refine⟨h0,?_⟩
   obtain⟨j,hj,rfl⟩:=fX hu
   by_cases e:j=s.length-1
   ·subst e
    simpa [aa,show s.length-1<s.length by omega]using bG
   ·have hp:=zB.1 KF j (s.length-1) hj  oM oM
    have e3:aa s (s.length-1)=s[s.length-1]' oM :=by simp [aa,show s.length-1<s.length by omega]
    rw [e3]
    omega
 ·intro h hb
  apply h
  rcases hb with hb|⟨h0,bG⟩
  ·left;omega
  ·right
   exact⟨_,by simp only [aa,zy,j4 (show s.length-1<s.length by omega),Gf];exact Bz _,bG⟩
theorem UM{n:Int}{ts:List bb}{i:Nat}(hi:i<ts.length)(hg:jz n ts i)(h0:o8 n ts i=0)(hn:wF (jf ts i))(hl:(jf ts i).length≤3):
  x8 (jf ts i) (aa ts i)=jf ts (i+1)∧wF (jf ts (i+1))∧(jf ts (i+1)).length≤3:=by
 obtain⟨h1,ha,hb⟩:=KE h0
 have e:uX (jf ts i) (aa ts i).first=mi ts i (aa ts i).first:=by rw [UL hn,GU hg ha]
 have KF:wF (mi ts i (aa ts i).first):=by rw [←GU hg ha];exact hn.filter _
 have e2:jf ts (i+1)=mi ts i (aa ts i).first++ [aa ts i]:=by
  have hc:(aa ts i).first<eZ (aa ts i):=by unfold lK at h1;unfold eZ;omega
  rw [jf,mi,o6 hi,uH,mi]
  simp [hc]
 have ae2:=hb
 unfold qH at hb
 refine⟨?_,?_,?_⟩
 ·rw [x8,aG ((GV hg ha hn hl).2 ae2),e,e2]
 ·rw [e2]
  refine rj.2 ⟨KF,by simp,fun u hu v hv=>?_⟩
  simp only [cS]at hv
  subst hv
  by_cases bG:eZ u<eZ (aa ts i)
  ·exact absurd (.inr ⟨u,hu,bG⟩) hb
  ·omega
 ·rw [e2,aP,sC]
  by_cases h3:3≤(mi ts i (aa ts i).first).length
  ·exact absurd (.inl h3) hb
  ·omega
def uY(t:bb):Prop:=0≤t.first∧t.first≤128∧1≤t.count∧t.count≤128
theorem KG{n:Int}{t:bb}(h:lK n t)(hn:n≤128):uY t:=by unfold lK at h;unfold uY;omega
theorem UN{n:Int}{ts:List bb}{i:Nat}(hg:jz n ts i)(hn:n≤128):∀u∈jf ts i,uY u:=by
 intro u hu
 cases i with
 |zero=>simp [jf]at hu
 |succ i=>
  rw [jf,ae0]at hu
  obtain⟨j,hj,_,rfl⟩:=Oo hu.1
  exact KG (KE (hg j hj)).1 hn
theorem UO{s:List bb}{f:Int}{k:Nat}(h:pX s f s.length=k):uX s f=s.take k∧(s.take k).length=k:=by
 have:=UK s f s.length
 exact⟨by rw [uX,h],by rw [fL];omega⟩
theorem Oq{s:List bb}{k j:Nat}(h:j<k):aa (s.take k) j=aa s j:=by simp [aa,h]
theorem KH{s:List bb}{t:bb}{k:Nat}(h:pX s t.first s.length=k)(hk:k=3∨(0<k∧eZ (aa s (k-1))<eZ t)):wE s t=false∧x8 s t=s.take k:=by
 obtain⟨e1,e2⟩:=UO h
 have hf:wE s t=false:=by
  unfold wE
  rw [e1,e2,wj]
  intro hx
  apply hx
  rcases hk with hk|⟨h0,hk⟩
  ·exact .inl hk
  ·exact .inr ⟨h0,by rw [Oq  oM];exact hk⟩
 exact⟨hf,by rw [x8,hf,ay sM,e1]⟩
theorem KI{s:List bb}{t:bb}{k:Nat}(h:pX s t.first s.length=k)(hk:k≠3)(qF:0<k→eZ t≤eZ (aa s (k-1))):wE s t=true∧x8 s t=s.take k++ [t]:=by
 obtain⟨e1,e2⟩:=UO h
 have hf:wE s t=true:=by
  unfold wE
  rw [e1,e2,iK]
  rintro(hx|⟨h0,hx⟩)
  ·exact hk hx
  ·rw [Oq  oM]at hx
   have:=qF h0
   omega
 exact⟨hf,by rw [x8,hf,aG rfl,e1]⟩
def z8(p t:bb):Int:=if p.first≠t.first then(if p.first<t.first then-1 else 1)else if p.count≠t.count then(if t.count<p.count then-1 else 1)else 0
theorem Ot{p t:bb}:0<z8 p t↔pW t p:=by
 unfold z8 pW
 by_cases h1:p.first=t.first
 ·by_cases h2:p.count=t.count
  ·simp [h1,h2]
  ·by_cases h3:t.count<p.count
   ·rw [ay (by simp [h1]),aG h2,aG h3];omega
   ·rw [ay (by simp [h1]),aG h2,ay h3];omega
 ·by_cases h3:p.first<t.first
  ·rw [aG h1,aG h3];omega
  ·rw [aG h1,ay h3];omega
def BQ(n:Int):Bool:=decide (1≤n)&&decide (n≤32)
theorem UP{l:List bb}{k j:Nat}(h:j<k)(hl:j<l.length):((l.take k).map bb.enc)[j]?=some (aa l j).enc:=by
 simp [aa,h,hl,DT]
end Tu
namespace aZ
section
variable{α:Type} [Inhabited α]{lt:α→α→Bool}
def lp(lt:α→α→Bool)(s:List α)(t:α):Nat→Nat
 |0=>0
 |k+1=>if lt t (aa s k)=true then lp lt s t k else k+1
theorem OF(s:List α)(t:α):∀k,lp lt s t k≤k
 |0=>cm _
 |k+1=>by rw [lp];split;exact Nat.le_succ_of_le (OF s t k);exact cm _
theorem OG{s:List α}{t:α}{k:Nat}(h:lt t (aa s k)=true):lp lt s t (k+1)=lp lt s t k:=by rw [lp,aG h]
theorem KM{s:List α}{t:α}{k:Nat}(h:lt t (aa s k)=false):lp lt s t (k+1)=k+1:=by rw [lp,ay (by simp [h])]
def u3(lt:α→α→Bool)(s:List α)(t:α):List α:=s.take (lp lt s t s.length)++t::s.drop (lp lt s t s.length)
theorem aff(s:List α)(t:α):(u3 lt s t).length=s.length+1:=by
 have:=OF (lt:=lt) s t s.length
 simp [u3];omega
def iO(lt:α→α→Bool)(l:List α):Nat→List α
 |0=> []
 |k+1=>u3 lt (iO lt l k) (aa l k)
theorem z_(l:List α):∀k,(iO lt l k).length=k
 |0=>rfl
 |k+1=>by rw [iO,aff,z_ l k]
def gw(s:List α)(t:α)(r:List α)(j:Nat):List α:=s.take j++t::(s.drop j++r)
theorem KN{α:Type}{s:List α}{t:α}{r:List α}{j:Nat}(h:j≤s.length):(gw s t r j).length=s.length+1+r.length:=by simp [gw];omega
theorem OH{s:List α}{t:α}{r:List α}{j:Nat}(h:j≤s.length):aa (gw s t r j) j=t:=by
 have:(s.take j).length=j:=by rw [fL];omega
 simp [gw,aa,uC,this]
theorem OI{s:List α}{t:α}{r:List α}{j:Nat}(h:j+1≤s.length):aa (gw s t r (j+1)) j=aa s j:=by
 have h1:j<(s.take (j+1)).length:=by rw [fL];omega
 simp only [gw,aa,zy]
 rw [Bu h1,List.getElem?_take_of_lt  oM]
theorem Vc{s:List α}{t:α}{r:List α}{j:Nat}(h:j+1≤s.length):((gw s t r (j+1)).set (j+1) (aa s j)).set j t=gw s t r j:=by
 have h1:(s.take j).length=j:=by rw [fL];omega
 have h2:s.take (j+1)=s.take j++ [aa s j]:=o6  oM
 have h3:s.drop j=aa s j::s.drop (j+1):=nD  oM
 unfold gw
 rw [h2,h3]
 simp only [bP,Bt,Bx]
 rw [zG _ _  oM,h1,show j+1-j=1 from oM,zG _ _  oM,h1,zH]
 simp
theorem Vd{α:Type}(s:List α)(t:α)(r:List α):gw s t r s.length=s++t::r:=by simp [gw]
theorem afg(s:List α)(t:α)(r:List α):gw s t r (lp lt s t s.length)=u3 lt s t++r:=by simp [gw,u3]
def cp(lt:α→α→Bool)(l:List α)(i:Nat):List α:=iO lt l (min (i+1) l.length)++l.drop (i+1)
theorem afh(l:List α):cp lt l 0=l:=by
 cases l with
 |nil=>rfl
 |cons t l=>simp [cp,iO,u3,lp,aa,show min 1 (l.length+1)=1 by omega]
theorem afi{l:List α}{i:Nat}(h:i+1<l.length):cp lt l i=gw (iO lt l (i+1)) (aa l (i+1)) (l.drop (i+2)) (i+1):=by
 have:=Vd (iO lt l (i+1)) (aa l (i+1)) (l.drop (i+2))
 rw [z_]at this
 rw [this,cp,show min (i+1) l.length=i+1 from oM,nD h]
theorem Ve{l:List α}{i j:Nat}(h:i+1<l.length)(hj:lp lt (iO lt l (i+1)) (aa l (i+1)) (i+1)=j):gw (iO lt l (i+1)) (aa l (i+1)) (l.drop (i+2)) j=cp lt l (i+1):=by
 have:=afg (lt:=lt) (iO lt l (i+1)) (aa l (i+1)) (l.drop (i+2))
 rw [z_,hj]at this
 rw [this,cp,show min (i+1+1) l.length=i+2 from oM]
 rfl
theorem afj{l:List α}{i:Nat}(h:l.length≤i+1):cp lt l i=iO lt l l.length:=by
 rw [cp,show min (i+1) l.length=l.length from oM,sA h,gT]
theorem afk(s:List α)(t:α):(u3 lt s t).Perm (t::s):=by
 rw [u3]
 refine(wk).trans (.cons _ ?_)
 rw [rk]
theorem Vf(l:List α):∀k,k≤l.length→(iO lt l k).Perm (l.take k)
 |0,_=>by simp [iO]
 |k+1,h=>by
  rw [iO,o6  oM]
  refine(afk _ _).trans (((Vf l k  oM).cons _).trans ?_)
  exact(NT (l₁:= [aa l k]))
theorem Vg(l:List α):(iO lt l l.length).Perm l:=by
 have:=Vf (lt:=lt) l l.length (cm _)
 rwa [zC]at this
def c6(lt:α→α→Bool)(l:List α):Prop:=l.Pairwise fun a b=>lt b a=false
structure tN(lt:α→α→Bool):Prop where
 trans:∀{a b c},lt b a=false→lt c b=false→lt c a=false
 G1:∀{a b},lt a b=true→lt b a=false
theorem c6.take{α:Type}{lt:α→α→Bool}{l:List α}(h:c6 lt l)(k:Nat):c6 lt (l.take k):=h.sublist (List.take_sublist _ _)
theorem Eg{l:List α}{k:Nat}{x:α}(h:x∈l.take k):∃j,j<k∧j<l.length∧aa l j=x:=by
 obtain⟨j,hj,rfl⟩:=fX h
 rw [fL]at hj
 exact⟨j,oM,oM,by simp [aa,show j<l.length by omega]⟩
theorem Aa{l:List α}{k:Nat}{x:α}(h:x∈l.drop k):∃j,k≤j∧j<l.length∧aa l j=x:=by
 obtain⟨j,hj,rfl⟩:=fX h
 rw [pM]at hj
 exact⟨k+j,oM,oM,by simp [aa,show k+j<l.length by omega]⟩
theorem c6.aa{l:List α}(h:c6 lt l){i j:Nat}(j7:i<j)(hj:j<l.length):lt (Hr.aa l j) (Hr.aa l i)=false:=by
 have:=zB.1 h i j  oM hj j7
 simpa [Hr.aa,hj,show i<l.length by omega]using this
theorem Vh{s:List α}{t:α}:∀{k:Nat},∀j,lp lt s t k≤j→j<k→lt t (aa s j)=true
 |0,j,_,h=>oM
 |k+1,j,h1,h2=>by
  by_cases hc:lt t (aa s k)=true
  ·rw [OG hc]at h1
   by_cases e:j=k
   ·rw [e];exact hc
   ·exact Vh j h1  oM
  ·rw [KM (by simpa using hc)]at h1;omega
theorem Vi{s:List α}{t:α}:∀{k:Nat},0<lp lt s t k→lt t (aa s (lp lt s t k-1))=false
 |0,h=>by simp [lp]at h
 |k+1,h=>by
  by_cases hc:lt t (aa s k)=true
  ·rw [OG hc]at h⊢;exact Vi h
  ·rw [KM (by simpa using hc)];simpa using hc
theorem afl(hw:tN lt){s:List α}(hs:c6 lt s)(t:α):c6 lt (u3 lt s t):=by
 have hp:=OF (lt:=lt) s t s.length
 unfold u3
 refine rj.2 ⟨hs.take _,DS.2 ⟨fun x hx=>?_,hs.sublist (List.drop_sublist _ _)⟩,fun a ha b hb=>?_⟩
 ·obtain⟨j,h1,h2,rfl⟩:=Aa hx
  exact hw.G1 (Vh j h1 h2)
 ·obtain⟨i,h1,h2,rfl⟩:=Eg ha
  rcases ib.1 hb with rfl|hb
  ·have Ab:=Vi (lt:=lt) (s:=s) (t:=b) (k:=s.length)  oM
   by_cases e:i=lp lt s b s.length-1
   ·rw [e];exact Ab
   ·exact hw.trans (hs.aa (i:=i) (j:=lp lt s b s.length-1)  oM oM) Ab
  ·obtain⟨j,h3,h4,rfl⟩:=Aa hb
   exact hs.aa  oM h4
theorem OJ(hw:tN lt)(l:List α):∀k,c6 lt (iO lt l k)
 |0=> .nil
 |k+1=>afl hw (OJ hw l k) _
theorem Vj{l:List α}(h:c6 lt l):∀k,k≤l.length→iO lt l k=l.take k
 |0,_=>by simp [iO]
 |k+1,hk=>by
  rw [iO,Vj h k  oM,u3]
  have hl:(l.take k).length=k:=by rw [fL];omega
  have e:lp lt (l.take k) (aa l k) (l.take k).length=k:=by
   rw [hl]
   cases k with
   |zero=>rfl
   |succ k=>
    refine KM ?_
    have:aa (l.take (k+1)) k=aa l k:=by simp [aa]
    rw [this]
    exact h.aa  oM oM
  rw [e,o6  oM,gU  oM,sA  oM]
theorem Vk{l:List α}(h:c6 lt l):iO lt l l.length=l:=by
 rw [Vj h _ (cm _),zC]
end
end aZ
namespace Hr
section
variable{P:Program}{w:World}{t:TypeId}{cs:Array Value}{off s d:Nat}{v:Value}
theorem bW(h:f_ P t)(hx:cs[off]?=some v):(part t cs off).run P w= .ok v w:=by simp [part,h.1,hx]
theorem np{ys:Array Value}(h:iE P t s)(hy:cs.extract off (off+s)=ys):(part t cs off).run P w= .ok (.agg ys) w:=by simp [part,h.1,h.2.run,hy]
theorem tU{xs ys:Array Value}:(Op.eqFields d xs ys []).run P w= .ok true w:=by simp [Op.eqFields]
theorem ep{xs ys:Array Value}{f:Field}{fs:List Field}{a b:Value}{r r':Bool}(hn:f.name≠ "_")(ha:(part f.type xs f.offset).run P w= .ok a w)(hb:(part f.type ys f.offset).run P w= .ok b w)(he:(Op.equalIn d f.type a b).run P w= .ok r w)
  (hr:(Op.eqFields d xs ys fs).run P w= .ok r' w):(Op.eqFields d xs ys (f::fs)).run P w= .ok (r&&r') w:=by
 simp only [Op.eqFields,hn,ne_eq,not_false_eq_true,if_true,wh,ha,hb,he,xS]
 cases r
 ·simp
 ·simpa using hr
end
section
variable{P:Program}{w:World}{e:TypeId}{xs ys:Array Value}{c d i:Nat}{is:List Nat}
theorem V5:(Op.eqItems d e c xs ys []).run P w= .ok true w:=by simp [Op.eqItems]
theorem tV{a b:Value}{r r':Bool}(ha:(part e xs (i*c)).run P w= .ok a w)(hb:(part e ys (i*c)).run P w= .ok b w)(he:(Op.equalIn d e a b).run P w= .ok r w)
  (hr:(Op.eqItems d e c xs ys is).run P w= .ok r' w):(Op.eqItems d e c xs ys (i::is)).run P w= .ok (r&&r') w:=by
 simp only [Op.eqItems,wh,ha,hb,he,xS]
 cases r
 ·simp
 ·simpa using hr
end
section
variable{P:Program}{X:Nat→Prop}{W:World}{n:Nat}{S:St}{o:Oper}{x y:Operand}{t t':TypeId}{i j:Int}{k:IntKind}
theorem mI(ho:o.op= .binOp .quo t x y t')(hx:ev S.ah x=some (.int k i))(hy:ev S.ah y=some (.int k j))(h:0≤i∧1≤j)(hw:k.wrap (i/j)=i/j):Q1 P X W n S o (.int k (i/j)):=by
 have h1:=aei (P:=P) (X:=X) (W:=W) (n:=n) ho hx hy  oM
 rw [Int.tdiv_eq_ediv_of_nonneg h.1,hw]at h1
 exact h1
end
theorem Pa{n:Int}(h:0≤n∧n≤255):IntKind.wrap .u8 n=n:=by simp [IntKind.wrap,IntKind.signed,IntKind.bits]<;>omega
theorem agx{n:Int}(h:0≤n∧n≤65535):IntKind.wrap .u16 n=n:=by simp [IntKind.wrap,IntKind.signed,IntKind.bits]<;>omega
theorem agy(n:Int):0≤IntKind.wrap .u8 n∧IntKind.wrap .u8 n≤255:=by simp [IntKind.wrap,IntKind.signed,IntKind.bits]<;>omega
theorem qM{n m:Int}(h:0≤n∧n≤255)(hm:1≤m):IntKind.wrap .u8 (n/m)=n/m:=Pa ⟨JX h.1  oM,Int.le_trans (JY _ h.1) h.2⟩
theorem EC{n m:Int}(h:0≤n∧n≤65535)(hm:1≤m):IntKind.wrap .u16 (n/m)=n/m:=agx ⟨JX h.1  oM,Int.le_trans (JY _ h.1) h.2⟩
end Hr
end Go.Proofs.YtdahjfmmndjcpaaGreat
