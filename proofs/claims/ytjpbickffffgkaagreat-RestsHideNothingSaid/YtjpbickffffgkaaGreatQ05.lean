/- Part. -/
import Derived.Test.YtjpbickffffgkaaGreatQ02
set_option linter.unusedSimpArgs false
set_option linter.unusedVariables false
set_option maxHeartbeats 40000000
set_option maxRecDepth 100000
namespace Go.Proofs.YtjpbickffffgkaaGreat
open Go Go.RowKit Hr Go.Proofs.Tryz
namespace Tu
structure bj where
 first:Int
 count:Int
 oB:Int
 normal:Int
instance:Inhabited bj:=⟨⟨0,0,0,0⟩⟩
def bj.enc(t:bj):List Value:= [.int .i64 t.first,.int .i64 t.count,.int .i64 t.oB,.int .i64 t.normal]
def bj.val(t:bj):Value:= .agg t.enc.toArray
def eC(n:Int):List Value:= [.int .i64 n]
def fB(t:bj):Int:=t.first+t.count
def dE(f:Nat→Int):Nat→Nat→Int
 |0,_=>0
 |n+1,i=>if f i≠0 then f i else dE f n (i+1)
theorem Ch{f:Nat→Int}{n i:Nat}(h:i<n)(h0:f i=0):dE f (n-i) i=dE f (n-(i+1)) (i+1):=by
 rw [show n-i=n-(i+1)+1 from oM,dE,aD (by simp [h0])]
theorem AD{f:Nat→Int}{n i:Nat}(h:i<n)(h0:f i≠0):dE f (n-i) i=f i:=by
 rw [show n-i=n-(i+1)+1 from oM,dE,aG h0]
theorem VH{f:Nat→Int}:∀{n i:Nat},dE f n i=0→∀j,j<n→f (i+j)=0
 |n+1,i,h,j,hj=>by
  simp only [dE]at h
  by_cases h0:f i=0
  ·rw [aD (by simp [h0])]at h
   cases j with
   |zero=>simpa using h0
   |succ j=>
    have:=VH h j  oM
    rwa [show i+(j+1)=i+1+j from oM]
  ·rw [aG h0]at h;exact absurd h h0
theorem OZ{f:Nat→Int}:∀{n i:Nat},(∀j,i≤j→j<i+n→f j=0)→dE f n i=0
 |0,_,_=>rfl
 |n+1,i,h=>by
  rw [dE,aD (by simp [h i  oM oM])]
  exact OZ fun j h1 h2=>h j  oM oM
def lZ(n:Int)(t:bj):Prop:=1≤t.count∧t.count≤n∧0≤t.first∧t.first≤n-t.count∧1≤t.oB∧t.oB≤32∧1≤t.normal∧t.normal≤32∧t.oB≠t.normal
instance(n:Int)(t:bj):Decidable (lZ n t):=by unfold lZ;infer_instance
def qo(t p:bj):Prop:=t.first<p.first∨(t.first=p.first∧p.count<t.count)
instance(t p:bj):Decidable (qo t p):=by unfold qo;infer_instance
def mB(ts:List bj)(i:Nat)(f:Int):List bj:=(ts.take i).filter fun u=>decide (f<fB u)
def re(ts:List bj)(i:Nat):Prop:=3≤(mB ts i (aa ts i).first).length∨∃u∈mB ts i (aa ts i).first,fB u<fB (aa ts i)
instance(ts:List bj)(i:Nat):Decidable (re ts i):=by unfold re;infer_instance
def pH(n:Int)(ts:List bj)(i:Nat):Int:=if¬lZ n (aa ts i)then 2 else if 0<i∧qo (aa ts i) (aa ts (i-1))then 25 else if re ts i then 21 else 0
def oC(ts:List bj)(n:Int):Int:=if n<0∨128<n then 2 else if 16<ts.length then 9 else dE (pH n ts) ts.length 0
theorem K8{n:Int}{ts:List bj}{i:Nat}(h:pH n ts i=0):lZ n (aa ts i)∧(0<i→¬qo (aa ts i) (aa ts (i-1)))∧¬re ts i:=by
 unfold pH at h
 by_cases h1:¬lZ n (aa ts i)
 ·rw [aG h1]at h;cases h
 rw [aD h1]at h
 by_cases h2:0<i∧qo (aa ts i) (aa ts (i-1))
 ·rw [aG h2]at h;cases h
 rw [aD h2]at h
 by_cases h3:re ts i
 ·rw [aG h3]at h;cases h
 exact⟨GZ.1 h1,fun h0 ha=>h2 ⟨h0,ha⟩,h3⟩
theorem O0{n:Int}{ts:List bj}{i:Nat}(h1:lZ n (aa ts i))(h2:0<i→¬qo (aa ts i) (aa ts (i-1)))(h3:¬re ts i):pH n ts i=0:=by
 rw [pH,aD (by simp [h1]),aD (fun h=>h2 h.1 h.2),aD h3]
theorem Ci{n:Int}{ts:List bj}{i:Nat}(h:¬lZ n (aa ts i)):pH n ts i=2:=by rw [pH,aG h]
theorem agm{n:Int}{ts:List bj}{i:Nat}(h1:lZ n (aa ts i))(h0:0<i)(h:qo (aa ts i) (aa ts (i-1))):pH n ts i=25:=by rw [pH,aD (by simp [h1]),aG ⟨h0,h⟩]
theorem VI{n:Int}{ts:List bj}{i:Nat}(h1:lZ n (aa ts i))(h2:0<i→¬qo (aa ts i) (aa ts (i-1)))(h3:re ts i):pH n ts i=21:=by
 rw [pH,aD (by simp [h1]),aD (fun h=>h2 h.1 h.2),aG h3]
def qp(n:Int)(ts:List bj)(i:Nat):Prop:=∀j,j<i→pH n ts j=0
theorem qp.zero{n:Int}{ts:List bj}:qp n ts 0:=fun j h=>oM
theorem qp.succ{n:Int}{ts:List bj}{i:Nat}(h:qp n ts i)(h0:pH n ts i=0):qp n ts (i+1):=fun j hj=>by
 by_cases e:j=i
 ·subst e;exact h0
 ·exact h j  oM
theorem O6{n:Int}{ts:List bj}(h:oC ts n=0):0≤n∧n≤128∧ts.length≤16∧qp n ts ts.length:=by
 unfold oC at h
 by_cases h1:n<0∨128<n
 ·rw [aG h1]at h;cases h
 rw [aD h1]at h
 by_cases h2:16<ts.length
 ·rw [aG h2]at h;cases h
 rw [aD h2]at h
 refine⟨oM,oM,oM,fun j hj=>?_⟩
 have:=VH h j hj
 rwa [ub]at this
theorem VJ{n:Int}{ts:List bj}(h1:0≤n)(h2:n≤128)(h3:ts.length≤16)(h:qp n ts ts.length):oC ts n=0:=by
 rw [oC,aD  oM,aD  oM]
 exact OZ fun j _ hj=>h j  oM
theorem xh{n:Int}{ts:List bj}{i:Nat}{e:Int}(h1:0≤n)(h2:n≤128)(h3:ts.length≤16)(h:qp n ts i)(hi:i<ts.length)(he:pH n ts i=e)(h0:e≠0):oC ts n=e:=by
 rw [oC,aD  oM,aD  oM]
 have key:∀k,k≤i→dE (pH n ts) ts.length 0=dE (pH n ts) (ts.length-k) k:=by
  intro k
  induction k with
  |zero=>intro _;rfl
  |succ k ih=>intro hk;rw [ih  oM,Ch  oM (h k  oM)]
 rw [key i (cE _),AD hi (by rw [he];exact h0),he]
theorem O7{ts:List bj}{i:Nat}{u:bj}(h:u∈ts.take i):∃j,j<i∧j<ts.length∧u=aa ts j:=by
 obtain⟨j,hj,rfl⟩:=gS h
 rw [eM]at hj
 refine⟨j,oM,oM,?_⟩
 simp [aa,show j<ts.length by omega]
theorem agn{ts:List bj}{i:Nat}{f:Int}{u:bj}:u∈mB ts i f↔u∈ts.take i∧f<fB u:=by simp [mB]
def qq(s:List bj)(f:Int):Nat→Nat
 |0=>0
 |k+1=>if fB (aa s k)≤f then qq s f k else k+1
theorem VK(s:List bj)(f:Int):∀k,qq s f k≤k
 |0=>cE _
 |k+1=>by rw [qq];split;exact Nat.le_succ_of_le (VK s f k);exact cE _
def vw(s:List bj)(f:Int):List bj:=s.take (qq s f s.length)
def xi(s:List bj)(t:bj):Bool:=decide (¬((vw s t.first).length=3∨(0<(vw s t.first).length∧fB (aa (vw s t.first) ((vw s t.first).length-1))<fB t)))
def yE(s:List bj)(t:bj):List bj:=if xi s t=true then vw s t.first++ [t]else vw s t.first
def xj(s:List bj):Prop:=s.Pairwise fun u v=>fB v≤fB u
theorem ago{s:List bj}{f:Int}(h:∀u∈s,fB u≤f):s.filter (fun u=>decide (f<fB u))= []:=by
 rw [List.filter_eq_nil_iff];intro u hu;have:=h u hu;simp;omega
theorem VM{s:List bj}{f:Int}(h:xj s):vw s f=s.filter fun u=>decide (f<fB u):=by
 have key:∀k,k≤s.length→s.take (qq s f k)=(s.take k).filter fun u=>decide (f<fB u):=by
  intro k
  induction k with
  |zero=>intro _;simp [qq]
  |succ k ih=>
   intro hk
   rw [qq]
   by_cases he:fB (aa s k)≤f
   ·rw [aG he,ih  oM,q_ (show k<s.length by omega),vi]
    have:¬f<fB (aa s k):=oM
    simp [this]
   ·rw [aD he]
    symm
    rw [G0]
    intro u hu
    obtain⟨j,hj,um,rfl⟩:=O7 hu
    have:fB (aa s k)≤fB (aa s j):=by
     by_cases e:j=k
     ·subst e;exact uf _
     ·have hp:=B2.1 h j k um  oM oM
      simpa [aa,um,show k<s.length by omega]using hp
    simp;omega
 have:=key s.length (cE _)
 rw [Kw]at this
 exact this
def jr(ts:List bj):Nat→List bj
 |0=> []
 |i+1=>mB ts (i+1) (aa ts i).first
theorem xj.filter{s:List bj}(h:xj s)(p:bj→Bool):xj (s.filter p):=List.Pairwise.filter p h
theorem HG{n:Int}{ts:List bj}{i:Nat}(hg:qp n ts i)(ha:0<i→¬qo (aa ts i) (aa ts (i-1))):(jr ts i).filter (fun u=>decide ((aa ts i).first<fB u))=mB ts i (aa ts i).first:=by
 cases i with
 |zero=>simp [jr,mB]
 |succ i=>
  have h1:=ha  oM
  rw [Kx]at h1
  unfold qo at h1
  rw [jr,mB,mB,List.filter_filter]
  apply List.filter_congr
  intro u _
  by_cases h2:(aa ts (i+1)).first<fB u
  ·have:(aa ts i).first<fB u:=oM
   simp [h2,this]
  ·simp [h2]
theorem HH{n:Int}{ts:List bj}{i:Nat}(hg:qp n ts i)(ha:0<i→¬qo (aa ts i) (aa ts (i-1)))(hn:xj (jr ts i))(hl:(jr ts i).length≤3):xi (jr ts i) (aa ts i)=true↔¬re ts i:=by
 have e:vw (jr ts i) (aa ts i).first=mB ts i (aa ts i).first:=by rw [VM hn,HG hg ha]
 have fe:(mB ts i (aa ts i).first).length≤3:=by
  rw [←HG hg ha];exact j3 (Ow _ _) hl
 have K9:xj (mB ts i (aa ts i).first):=by rw [←HG hg ha];exact hn.filter _
 unfold xi re
 rw [e,jl]
 generalize mB ts i (aa ts i).first=s at fe K9
 constructor
 ·intro h hb
  apply h
  rcases hb with hb|⟨u,hu,bW⟩
  ·left;omega
  ·right
   have h0:0<s.length:=List.length_pos_of_mem hu
   refine⟨h0,?_⟩
   obtain⟨j,hj,rfl⟩:=gS hu
   by_cases e:j=s.length-1
   ·subst e
    simpa [aa,show s.length-1<s.length by omega]using bW
   ·have hp:=B2.1 K9 j (s.length-1) hj  oM oM
    have e3:aa s (s.length-1)=s[s.length-1]' oM :=by simp [aa,show s.length-1<s.length by omega]
    rw [e3]
    omega
 ·intro h hb
  apply h
  rcases hb with hb|⟨h0,bW⟩
  ·left;omega
  ·right
   exact⟨_,by simp only [aa,Aj,fi (show s.length-1<s.length by omega),GX];exact GR _,bW⟩
theorem VN{n:Int}{ts:List bj}{i:Nat}(hi:i<ts.length)(hg:qp n ts i)(h0:pH n ts i=0)(hn:xj (jr ts i))(hl:(jr ts i).length≤3):
  yE (jr ts i) (aa ts i)=jr ts (i+1)∧xj (jr ts (i+1))∧(jr ts (i+1)).length≤3:=by
 obtain⟨h1,ha,hb⟩:=K8 h0
 have e:vw (jr ts i) (aa ts i).first=mB ts i (aa ts i).first:=by rw [VM hn,HG hg ha]
 have K9:xj (mB ts i (aa ts i).first):=by rw [←HG hg ha];exact hn.filter _
 have e2:jr ts (i+1)=mB ts i (aa ts i).first++ [aa ts i]:=by
  have hc:(aa ts i).first<fB (aa ts i):=by unfold lZ at h1;unfold fB;omega
  rw [jr,mB,q_ hi,vi,mB]
  simp [hc]
 have agp:=hb
 unfold re at hb
 refine⟨?_,?_,?_⟩
 ·rw [yE,aG ((HH hg ha hn hl).2 agp),e,e2]
 ·rw [e2]
  refine ua.2 ⟨K9,by simp,fun u hu v hv=>?_⟩
  simp only [c_]at hv
  subst hv
  by_cases bW:fB u<fB (aa ts i)
  ·exact absurd (.inr ⟨u,hu,bW⟩) hb
  ·omega
 ·rw [e2,aT,yn]
  by_cases h3:3≤(mB ts i (aa ts i).first).length
  ·exact absurd (.inl h3) hb
  ·omega
def vx(t:bj):Prop:=0≤t.first∧t.first≤128∧1≤t.count∧t.count≤128
theorem K_{n:Int}{t:bj}(h:lZ n t)(hn:n≤128):vx t:=by unfold lZ at h;unfold vx;omega
theorem VO{n:Int}{ts:List bj}{i:Nat}(hg:qp n ts i)(hn:n≤128):∀u∈jr ts i,vx u:=by
 intro u hu
 cases i with
 |zero=>simp [jr]at hu
 |succ i=>
  rw [jr,agn]at hu
  obtain⟨j,hj,_,rfl⟩:=O7 hu.1
  exact K_ (K8 (hg j hj)).1 hn
theorem VP{s:List bj}{f:Int}{k:Nat}(h:qq s f s.length=k):vw s f=s.take k∧(s.take k).length=k:=by
 have:=VK s f s.length
 exact⟨by rw [vw,h],by rw [eM];omega⟩
theorem VQ{s:List bj}{k j:Nat}(h:j<k):aa (s.take k) j=aa s j:=by simp [aa,h]
theorem La{s:List bj}{t:bj}{k:Nat}(h:qq s t.first s.length=k)(hk:k=3∨(0<k∧fB (aa s (k-1))<fB t)):xi s t=false∧yE s t=s.take k:=by
 obtain⟨e1,e2⟩:=VP h
 have hf:xi s t=false:=by
  unfold xi
  rw [e1,e2,sT]
  intro hx
  apply hx
  rcases hk with hk|⟨h0,hk⟩
  ·exact .inl hk
  ·exact .inr ⟨h0,by rw [VQ  oM];exact hk⟩
 exact⟨hf,by rw [yE,hf,aD sM,e1]⟩
theorem Lb{s:List bj}{t:bj}{k:Nat}(h:qq s t.first s.length=k)(hk:k≠3)(q9:0<k→fB t≤fB (aa s (k-1))):xi s t=true∧yE s t=s.take k++ [t]:=by
 obtain⟨e1,e2⟩:=VP h
 have hf:xi s t=true:=by
  unfold xi
  rw [e1,e2,jl]
  rintro(hx|⟨h0,hx⟩)
  ·exact hk hx
  ·rw [VQ  oM]at hx
   have:=q9 h0
   omega
 exact⟨hf,by rw [yE,hf,aG rfl,e1]⟩
def AE(p t:bj):Int:=if p.first≠t.first then(if p.first<t.first then-1 else 1)else if p.count≠t.count then(if t.count<p.count then-1 else 1)else 0
theorem O_{p t:bj}:0<AE p t↔qo t p:=by
 unfold AE qo
 by_cases h1:p.first=t.first
 ·by_cases h2:p.count=t.count
  ·simp [h1,h2]
  ·by_cases h3:t.count<p.count
   ·rw [aD (by simp [h1]),aG h2,aG h3];omega
   ·rw [aD (by simp [h1]),aG h2,aD h3];omega
 ·by_cases h3:p.first<t.first
  ·rw [aG h1,aG h3];omega
  ·rw [aG h1,aD h3];omega
def Cj(n:Int):Bool:=decide (1≤n)&&decide (n≤32)
theorem VR{l:List bj}{k j:Nat}(h:j<k)(hl:j<l.length):((l.take k).map bj.enc)[j]?=some (aa l j).enc:=by
 simp [aa,h,hl,Eo]
def kT(t:bj)(e:Int):Bool:=decide (t.first≤e)&&decide (e<fB t)
theorem HI{t:bj}{e:Int}:kT t e=true↔t.first≤e∧e<fB t:=by simp [kT]
theorem agq{l:List bj}{p q:bj→Bool}(h:∀u∈l,p u=true→q u=true):(l.filter p).length≤(l.filter q).length:=by
 rw [←List.countP_eq_length_filter,←List.countP_eq_length_filter]
 exact List.countP_mono_left h
end Tu
namespace bh
section
variable{α:Type} [Inhabited α]{lt:α→α→Bool}
def l0(lt:α→α→Bool)(s:List α)(t:α):Nat→Nat
 |0=>0
 |k+1=>if lt t (aa s k)=true then l0 lt s t k else k+1
theorem ta(s:List α)(t:α):∀k,l0 lt s t k≤k
 |0=>cE _
 |k+1=>by rw [l0];split;exact Nat.le_succ_of_le (ta s t k);exact cE _
theorem Pn{s:List α}{t:α}{k:Nat}(h:lt t (aa s k)=true):l0 lt s t (k+1)=l0 lt s t k:=by rw [l0,aG h]
theorem Po{s:List α}{t:α}{k:Nat}(h:lt t (aa s k)=false):l0 lt s t (k+1)=k+1:=by rw [l0,aD (by simp [h])]
def xk(lt:α→α→Bool)(s:List α)(t:α):List α:=s.take (l0 lt s t s.length)++t::s.drop (l0 lt s t s.length)
theorem agE(s:List α)(t:α):(xk lt s t).length=s.length+1:=by
 have:=ta (lt:=lt) s t s.length
 simp [xk];omega
def kC(lt:α→α→Bool)(l:List α):Nat→List α
 |0=> []
 |k+1=>xk lt (kC lt l k) (aa l k)
theorem AH(l:List α):∀k,(kC lt l k).length=k
 |0=>rfl
 |k+1=>by rw [kC,agE,AH l k]
def gy(s:List α)(t:α)(r:List α)(j:Nat):List α:=s.take j++t::(s.drop j++r)
theorem Lf{α:Type}{s:List α}{t:α}{r:List α}{j:Nat}(h:j≤s.length):(gy s t r j).length=s.length+1+r.length:=by simp [gy];omega
theorem Pp{s:List α}{t:α}{r:List α}{j:Nat}(h:j≤s.length):aa (gy s t r j) j=t:=by
 have:(s.take j).length=j:=by rw [eM];omega
 simp [gy,aa,yj,this]
theorem Pr{s:List α}{t:α}{r:List α}{j:Nat}(h:j+1≤s.length):aa (gy s t r (j+1)) j=aa s j:=by
 have h1:j<(s.take (j+1)).length:=by rw [eM];omega
 simp only [gy,aa,Aj]
 rw [El h1,List.getElem?_take_of_lt  oM]
theorem V_{s:List α}{t:α}{r:List α}{j:Nat}(h:j+1≤s.length):((gy s t r (j+1)).set (j+1) (aa s j)).set j t=gy s t r j:=by
 have h1:(s.take j).length=j:=by rw [eM];omega
 have h2:s.take (j+1)=s.take j++ [aa s j]:=q_  oM
 have h3:s.drop j=aa s j::s.drop (j+1):=oA  oM
 unfold gy
 rw [h2,h3]
 simp only [cj,BX,Er]
 rw [B4 _ _  oM,h1,show j+1-j=1 from oM,B4 _ _  oM,h1,wT]
 simp
theorem Wa{α:Type}(s:List α)(t:α)(r:List α):gy s t r s.length=s++t::r:=by simp [gy]
theorem agG(s:List α)(t:α)(r:List α):gy s t r (l0 lt s t s.length)=xk lt s t++r:=by simp [gy,xk]
def steps(lt:α→α→Bool)(l:List α)(i:Nat):List α:=kC lt l (min (i+1) l.length)++l.drop (i+1)
theorem agH(l:List α):steps lt l 0=l:=by
 cases l with
 |nil=>rfl
 |cons t l=>simp [steps,kC,xk,l0,aa,show min 1 (l.length+1)=1 by omega]
theorem agI{l:List α}{i:Nat}(h:i+1<l.length):steps lt l i=gy (kC lt l (i+1)) (aa l (i+1)) (l.drop (i+2)) (i+1):=by
 have:=Wa (kC lt l (i+1)) (aa l (i+1)) (l.drop (i+2))
 rw [AH]at this
 rw [this,steps,show min (i+1) l.length=i+1 from oM,oA h]
theorem Wb{l:List α}{i j:Nat}(h:i+1<l.length)(hj:l0 lt (kC lt l (i+1)) (aa l (i+1)) (i+1)=j):gy (kC lt l (i+1)) (aa l (i+1)) (l.drop (i+2)) j=steps lt l (i+1):=by
 have:=agG (lt:=lt) (kC lt l (i+1)) (aa l (i+1)) (l.drop (i+2))
 rw [AH,hj]at this
 rw [this,steps,show min (i+1+1) l.length=i+2 from oM]
 rfl
theorem agJ{l:List α}{i:Nat}(h:l.length≤i+1):steps lt l i=kC lt l l.length:=by
 rw [steps,show min (i+1) l.length=l.length from oM,vg h,iF]
theorem agK(s:List α)(t:α):(xk lt s t).Perm (t::s):=by
 rw [xk]
 refine(yt).trans (.cons _ ?_)
 rw [mR]
theorem Wc(l:List α):∀k,k≤l.length→(kC lt l k).Perm (l.take k)
 |0,_=>by simp [kC]
 |k+1,h=>by
  rw [kC,q_  oM]
  refine(agK _ _).trans (((Wc l k  oM).cons _).trans ?_)
  exact(Oy (l₁:= [aa l k]))
theorem Wd(l:List α):(kC lt l l.length).Perm l:=by
 have:=Wc (lt:=lt) l l.length (cE _)
 rwa [Kw]at this
def db(lt:α→α→Bool)(l:List α):Prop:=l.Pairwise fun a b=>lt b a=false
structure uv(lt:α→α→Bool):Prop where
 trans:∀{a b c},lt b a=false→lt c b=false→lt c a=false
 HM:∀{a b},lt a b=true→lt b a=false
theorem db.take{α:Type}{lt:α→α→Bool}{l:List α}(h:db lt l)(k:Nat):db lt (l.take k):=h.sublist (KA _ _)
theorem ET{l:List α}{k:Nat}{x:α}(h:x∈l.take k):∃j,j<k∧j<l.length∧aa l j=x:=by
 obtain⟨j,hj,rfl⟩:=gS h
 rw [eM]at hj
 exact⟨j,oM,oM,by simp [aa,show j<l.length by omega]⟩
theorem AI{l:List α}{k:Nat}{x:α}(h:x∈l.drop k):∃j,k≤j∧j<l.length∧aa l j=x:=by
 obtain⟨j,hj,rfl⟩:=gS h
 rw [kQ]at hj
 exact⟨k+j,oM,oM,by simp [aa,show k+j<l.length by omega]⟩
theorem db.aa{l:List α}(h:db lt l){i j:Nat}(lD:i<j)(hj:j<l.length):lt (Hr.aa l j) (Hr.aa l i)=false:=by
 have:=B2.1 h i j  oM hj lD
 simpa [Hr.aa,hj,show i<l.length by omega]using this
theorem We{s:List α}{t:α}:∀{k:Nat},∀j,l0 lt s t k≤j→j<k→lt t (aa s j)=true
 |0,j,_,h=>oM
 |k+1,j,h1,h2=>by
  by_cases hc:lt t (aa s k)=true
  ·rw [Pn hc]at h1
   by_cases e:j=k
   ·rw [e];exact hc
   ·exact We j h1  oM
  ·rw [Po (by simpa using hc)]at h1;omega
theorem Wf{s:List α}{t:α}:∀{k:Nat},0<l0 lt s t k→lt t (aa s (l0 lt s t k-1))=false
 |0,h=>by simp [l0]at h
 |k+1,h=>by
  by_cases hc:lt t (aa s k)=true
  ·rw [Pn hc]at h⊢;exact Wf h
  ·rw [Po (by simpa using hc)];simpa using hc
theorem agM(hw:uv lt){s:List α}(hs:db lt s)(t:α):db lt (xk lt s t):=by
 have hp:=ta (lt:=lt) s t s.length
 unfold xk
 refine ua.2 ⟨hs.take _,Kk.2 ⟨fun x hx=>?_,hs.sublist (G1 _ _)⟩,fun a ha b hb=>?_⟩
 ·obtain⟨j,h1,h2,rfl⟩:=AI hx
  exact hw.HM (We j h1 h2)
 ·obtain⟨i,h1,h2,rfl⟩:=ET ha
  rcases gP.1 hb with rfl|hb
  ·have AJ:=Wf (lt:=lt) (s:=s) (t:=b) (k:=s.length)  oM
   by_cases e:i=l0 lt s b s.length-1
   ·rw [e];exact AJ
   ·exact hw.trans (hs.aa (i:=i) (j:=l0 lt s b s.length-1)  oM oM) AJ
  ·obtain⟨j,h3,h4,rfl⟩:=AI hb
   exact hs.aa  oM h4
theorem Ps(hw:uv lt)(l:List α):∀k,db lt (kC lt l k)
 |0=> .nil
 |k+1=>agM hw (Ps hw l k) _
end
end bh
namespace Ky
def iQ(a b:Int):Int:=if a<b then-1 else if b<a then 1 else 0
def l4:List Int→Int
 | []=>0
 |e::r=>if e≠0 then e else l4 r
theorem agN{l:List Int}{k:Nat}(hk:k<l.length)(h0:aa l k=0):l4 (l.drop k)=l4 (l.drop (k+1)):=by
 rw [oA hk,l4,aD (by simp [h0])]
theorem agO{l:List Int}{k:Nat}(hk:k<l.length)(h0:aa l k≠0):l4 (l.drop k)=aa l k:=by
 rw [oA hk,l4,aG h0]
def gE:List Int→List Int→Int
 |a::x,b::y=>if a<b then-1 else if b<a then 1 else gE x y
 |_,_=>0
theorem Wg:∀(x y:List Int),l4 (List.zipWith iQ x y)=gE x y
 | [],_=>by cases‹List Int›<;>rfl
 |_::_, []=>rfl
 |a::x,b::y=>by
  rw [List.zipWith_cons_cons,l4,gE,Wg x y,iQ]
  by_cases h1:a<b
  ·simp [h1]
  ·by_cases h2:b<a
   ·simp [h1,h2]
   ·simp [h1,h2]
theorem Pu:∀(x y:List Int),x.length=y.length→gE y x= -gE x y
 | [], [],_=>rfl
 |a::x,b::y,h=>by
  have ih:=Pu x y (by simpa using h)
  rw [gE,gE]
  by_cases h1:a<b
  ·rw [aD  oM,aG h1,aG h1];rfl
  ·by_cases h2:b<a
   ·rw [aG h2,aD h1,aG h2]
   ·rw [aD h2,aD h1,aD h1,aD h2,ih]
theorem Wh:∀(x y z:List Int),x.length=y.length→y.length=z.length→gE y x≥0→gE z y≥0→gE z x≥0
 | [], [], [],_,_,_,_=>by simp [gE]
 |a::x,b::y,c::z,h1,h2,h3,h4=>by
  have ih:=Wh x y z (by simpa using h1) (by simpa using h2)
  rw [gE]at h3 h4⊢
  by_cases p1:b<a
  ·rw [aG p1]at h3;omega
  rw [aD p1]at h3
  by_cases p2:c<b
  ·rw [aG p2]at h4;omega
  rw [aD p2]at h4
  rw [aD  oM]
  by_cases p3:a<c
  ·rw [aG p3];omega
  rw [aD p3]
  rw [aD  oM]at h3 h4
  exact ih h3 h4
def cP{α:Type}(key:α→List Int)(a b:α):Bool:=decide (gE (key a) (key b)<0)
theorem agP{α:Type}{key:α→List Int}{n:Nat}(h:∀a,(key a).length=n):bh.uv (cP key):=⟨fun{a b c} h1 h2=>by
 simp only [cP,sT]at h1 h2⊢
 have:=Wh (key a) (key b) (key c) (by rw [h,h]) (by rw [h,h])  oM oM
 omega,fun{a b} h1=>by
 simp only [cP,sT,jl]at h1⊢
 have:=Pu (key a) (key b) (by rw [h,h])
 omega⟩
end Ky
structure aZ where
 step:Int
 cd:Int
 bR:Int
instance:Inhabited aZ:=⟨⟨0,0,0⟩⟩
def aZ.enc(p:aZ):List Value:= [.int .i64 p.step,.int .i64 p.cd,.int .i64 p.bR]
def aZ.val(p:aZ):Value:= .agg p.enc.toArray
structure Hd where
 step:Int
 cd:Int
 bR:Int
 jJ:Bool
 sb:Int
instance:Inhabited Hd:=⟨⟨0,0,0,false,0⟩⟩
def Hd.enc(p:Hd):List Value:= [.int .i64 p.step,.int .i64 p.cd,.int .i64 p.bR,.bool p.jJ,.int .i64 p.sb]
def Hd.val(p:Hd):Value:= .agg p.enc.toArray
structure Gr where
 step:Int
 cd:Int
 bR:Int
 fo:Int
 Lj:Bool
instance:Inhabited Gr:=⟨⟨0,0,0,0,false⟩⟩
def Gr.enc(p:Gr):List Value:= [.int .i64 p.step,.int .i64 p.cd,.int .i64 p.bR,.int .i64 p.fo,.bool p.Lj]
structure eG where
 gG:ByteArray
 nj:Int
instance:Inhabited eG:=⟨⟨ByteArray.mk #[],0⟩⟩
def eG.enc(p:eG):List Value:= [.string p.gG,.int .i64 p.nj]
def eG.val(p:eG):Value:= .agg p.enc.toArray
def dE(f:Nat→Int):Nat→Nat→Int
 |0,_=>0
 |n+1,i=>if f i≠0 then f i else dE f n (i+1)
theorem Ch{f:Nat→Int}{n i:Nat}(h:i<n)(h0:f i=0):dE f (n-i) i=dE f (n-(i+1)) (i+1):=by
 rw [show n-i=n-(i+1)+1 from oM,dE,aD (by simp [h0])]
theorem AD{f:Nat→Int}{n i:Nat}(h:i<n)(h0:f i≠0):dE f (n-i) i=f i:=by
 rw [show n-i=n-(i+1)+1 from oM,dE,aG h0]
theorem VH{f:Nat→Int}:∀{n i:Nat},dE f n i=0→∀j,j<n→f (i+j)=0
 |n+1,i,h,j,hj=>by
  simp only [dE]at h
  by_cases h0:f i=0
  ·rw [aD (by simp [h0])]at h
   cases j with
   |zero=>simpa using h0
   |succ j=>
    have:=VH h j  oM
    rwa [show i+(j+1)=i+1+j from oM]
  ·rw [aG h0]at h;exact absurd h h0
theorem OZ{f:Nat→Int}:∀{n i:Nat},(∀j,i≤j→j<i+n→f j=0)→dE f n i=0
 |0,_,_=>rfl
 |n+1,i,h=>by
  rw [dE,aD (by simp [h i  oM oM])]
  exact OZ fun j h1 h2=>h j  oM oM
def yI(s:ByteArray)(k:Nat):Int:=((s[k]?.getD 0).toNat:Int)
theorem Wp{s:ByteArray}{k:Nat}(h:k<s.size):s[k]?=some (s[k]?.getD 0):=by
 rw [getElem?_pos s k h];rfl
def pI(s:Int):Int:=aa [0,2,4,5,7,9,11] s.toNat
def nP(s a o:Int):Prop:=0≤s∧s≤6∧-2≤a∧a≤2∧-1≤o∧o≤9
instance(s a o:Int):Decidable (nP s a o):=by unfold nP;infer_instance
def dp(s a o:Int):Int:=if nP s a o then(if pI s+a+12*(o+1)<0∨127<pI s+a+12*(o+1)then-1 else pI s+a+12*(o+1))else-1
theorem agT{s:Int}(h:0≤s∧s≤6):0≤pI s∧pI s≤11:=by
 have:s=0∨s=1∨s=2∨s=3∨s=4∨s=5∨s=6:=oM
 rcases this with rfl|rfl|rfl|rfl|rfl|rfl|rfl<;>decide
theorem Lk(s a o:Int): -1≤dp s a o∧dp s a o≤127:=by
 unfold dp
 split
 ·split<;>omega
 ·omega
def Hd.aL(h:Hd):Int:=dp h.step h.cd h.bR
def Gr.aL(h:Gr):Int:=dp h.step h.cd h.bR
def aZ.aL(h:aZ):Int:=dp h.step h.cd h.bR
theorem Wq{s:Int}(h:0≤s∧s≤6):(#[Value.int .i64 0,.int .i64 2,.int .i64 4,.int .i64 5,.int .i64 7,.int .i64 9,.int .i64 11])[s.toNat]?=some (.int .i64 (pI s)):=by
 have:s=0∨s=1∨s=2∨s=3∨s=4∨s=5∨s=6:=oM
 rcases this with rfl|rfl|rfl|rfl|rfl|rfl|rfl<;>rfl
def eC(n:Int):List Value:= [.int .i64 n]
theorem EU{s a o:Int}(h:¬nP s a o):dp s a o= -1:=aD h
theorem Wr{s a o:Int}(h:nP s a o)(h1:pI s+a+12*(o+1)<0∨127<pI s+a+12*(o+1)):dp s a o= -1:=by rw [dp,aG h,aG h1]
theorem agU{s a o:Int}(h:nP s a o)(h1:¬(pI s+a+12*(o+1)<0∨127<pI s+a+12*(o+1))):dp s a o=pI s+a+12*(o+1):=by rw [dp,aG h,aD h1]
theorem EV{s a o:Int}(h:0≤dp s a o):nP s a o∧dp s a o=pI s+a+12*(o+1):=by
 unfold dp at h⊢
 split at h
 ·rename_i hi
  split at h
  ·omega
  ·rename_i h1
   exact⟨hi,by rw [aG hi,aD h1]⟩
 ·omega
def nk(h:Hd):Int:=if h.aL<0 then 18 else if h.sb<0∨2<h.sb then 2 else 0
def hF(l:List Hd)(i:Nat):Int:=if nk (aa l i)≠0 then nk (aa l i)else if 0<i∧(aa l i).aL≤(aa l (i-1)).aL then 25 else 0
def nQ(l:List Hd):Int:=if l.length=0 then 4 else if 10<l.length then 9 else dE (hF l) l.length 0
def xn(g:Gr):Int:=if g.aL<0 then 18 else if g.fo<1∨6<g.fo then 2 else 0
def gF(l:List Gr)(i:Nat):Int:=xn (aa l i)
def vz(l:List Gr):Int:=if 8<l.length then 9 else dE (gF l) l.length 0
def ux(s:ByteArray)(i:Nat):Int:=if yI s i<32∨yI s i=127 then 6 else 0
def HQ(s:ByteArray):Bool:=r_ s (ByteArray.mk #[])
def Cn(x:eG):Prop:=HQ x.gG=true∧x.nj=0
instance(x:eG):Decidable (Cn x):=by unfold Cn;infer_instance
def te(x:eG):Int:=
 if x.nj<0∨2<x.nj then 2 else if 256<x.gG.size then 5 else if dE (ux x.gG) x.gG.size 0≠0 then 6 else if HQ x.gG=true∧x.nj=1 then 3 else 0
def sF(l:List eG)(i:Nat):Int:=te (aa l i)
def pJ(l:List eG):Int:=
 if 4<l.length then 9 else if dE (sF l) l.length 0≠0 then dE (sF l) l.length 0 else if 0<l.length∧Cn (aa l (l.length-1))then 3 else 0
theorem Pw{h:Hd}(h0:¬h.aL<0)(h1:¬(h.sb<0∨2<h.sb)):nk h=0:=by rw [nk,aD h0,aD h1]
theorem agV{h:Gr}(h0:h.aL<0):xn h=18:=by rw [xn,aG h0]
theorem Ws{h:Gr}(h0:¬h.aL<0)(h1:h.fo<1∨6<h.fo):xn h=2:=by rw [xn,aD h0,aG h1]
theorem Wt{h:Gr}(h0:¬h.aL<0)(h1:¬(h.fo<1∨6<h.fo)):xn h=0:=by rw [xn,aD h0,aD h1]
theorem Wu{s:ByteArray}{i:Nat}(h:yI s i<32∨yI s i=127):ux s i=6:=aG h
theorem agW{s:ByteArray}{i:Nat}(h:¬(yI s i<32∨yI s i=127)):ux s i=0:=aD h
theorem Wv{x:eG}(h:x.nj<0∨2<x.nj):te x=2:=aG h
theorem agX{x:eG}(h:¬(x.nj<0∨2<x.nj))(h1:256<x.gG.size):te x=5:=by rw [te,aD h,aG h1]
theorem Ww{x:eG}(h:¬(x.nj<0∨2<x.nj))(h1:¬256<x.gG.size)(h2:dE (ux x.gG) x.gG.size 0≠0):te x=6:=by rw [te,aD h,aD h1,aG h2]
theorem agY{x:eG}(h:¬(x.nj<0∨2<x.nj))(h1:¬256<x.gG.size)(h2:dE (ux x.gG) x.gG.size 0=0)(h3:HQ x.gG=true∧x.nj=1):te x=3:=by rw [te,aD h,aD h1,aD  oM,aG h3]
theorem Wx{x:eG}(h:¬(x.nj<0∨2<x.nj))(h1:¬256<x.gG.size)(h2:dE (ux x.gG) x.gG.size 0=0)(h3:¬(HQ x.gG=true∧x.nj=1)):te x=0:=by rw [te,aD h,aD h1,aD  oM,aD h3]
theorem agZ{l:List Hd}(h:l.length=0):nQ l=4:=aG h
theorem ag0{l:List Hd}(h:¬l.length=0)(h1:10<l.length):nQ l=9:=by rw [nQ,aD h,aG h1]
theorem Lm{l:List Hd}(h:¬l.length=0)(h1:¬10<l.length):nQ l=dE (hF l) l.length 0:=by rw [nQ,aD h,aD h1]
theorem ag1{l:List Gr}(h:8<l.length):vz l=9:=aG h
theorem Px{l:List Gr}(h:¬8<l.length):vz l=dE (gF l) l.length 0:=aD h
theorem ag2{l:List eG}(h:4<l.length):pJ l=9:=aG h
theorem ag3{l:List eG}(h:¬4<l.length)(h1:dE (sF l) l.length 0≠0):pJ l=dE (sF l) l.length 0:=by rw [pJ,aD h,aG h1]
theorem ag4{l:List eG}(h:¬4<l.length)(h1:dE (sF l) l.length 0=0)(h2:0<l.length∧Cn (aa l (l.length-1))):pJ l=3:=by rw [pJ,aD h,aD  oM,aG h2]
theorem Wy{l:List eG}(h:¬4<l.length)(h1:dE (sF l) l.length 0=0)(h2:¬(0<l.length∧Cn (aa l (l.length-1)))):pJ l=0:=by rw [pJ,aD h,aD  oM,aD h2]
theorem ag5{n:Int}(h:(if n<0 then(18:Int)else 0)≠0):n<0:=by
 by_cases h0:n<0
 ·exact h0
 ·rw [aD h0]at h;exact absurd rfl h
theorem ag6{n:Int}(h:(if n<0 then(18:Int)else 0)=0):¬n<0:=by
 by_cases h0:n<0
 ·rw [aG h0]at h;cases h
 ·exact h0
theorem Wz{l:List Hd}{i:Nat}{v:Int}(h:¬l.length=0)(h1:¬10<l.length)(hE:dE (hF l) l.length 0=dE (hF l) (l.length-i) i)(hi:i<l.length)(hv:hF l i=v)(h0:v≠0):nQ l=v:=by
 rw [Lm h h1,hE,AD hi (by rw [hv];exact h0),hv]
theorem Py{l:List Gr}{i:Nat}{v:Int}(h:¬8<l.length)(hE:dE (gF l) l.length 0=dE (gF l) (l.length-i) i)(hi:i<l.length)(hv:xn (aa l i)=v)(h0:v≠0):vz l=v:=by
 rw [Px h,hE,AD hi (by rw [gF,hv];exact h0),gF,hv]
theorem ag7{l:List eG}{i:Nat}{v:Int}(h:¬4<l.length)(hE:dE (sF l) l.length 0=dE (sF l) (l.length-i) i)(hi:i<l.length)(hv:te (aa l i)=v)(h0:v≠0):pJ l=v:=by
 have e:dE (sF l) l.length 0=v:=by rw [hE,AD hi (by rw [sF,hv];exact h0),sF,hv]
 rw [ag3 h (by rw [e];exact h0),e]
theorem Ln{f:Nat→Int}{n i:Nat}(h:n≤i):dE f (n-i) i=0:=by rw [Nat.sub_eq_zero_of_le h];rfl
theorem ag8{h:Hd}(h0:nk h=0):0≤h.aL∧h.aL≤127∧0≤h.sb∧h.sb≤2:=by
 have hb:=Lk h.step h.cd h.bR
 unfold nk at h0
 rw [←Hd.aL]at hb
 split at h0
 ·cases h0
 ·split at h0
  ·cases h0
  ·omega
theorem ag9{l:List Hd}{i:Nat}(h:nk (aa l i)≠0):hF l i=nk (aa l i):=by rw [hF,aG h]
theorem ag_{l:List Hd}{i:Nat}(h:nk (aa l i)=0)(h1:0<i∧(aa l i).aL≤(aa l (i-1)).aL):hF l i=25:=by rw [hF,aD  oM,aG h1]
theorem aha{l:List Hd}{i:Nat}(h:nk (aa l i)=0)(h1:¬(0<i∧(aa l i).aL≤(aa l (i-1)).aL)):hF l i=0:=by rw [hF,aD  oM,aD h1]
def Pz(l:List Hd)(i:Nat):Int:=if i=0 then-1 else(aa l (i-1)).aL
structure vA where
 bU:Int
 aL:Int
 bo:Int
 fo:Int
 jt:Int
 eX:Int
 dT:Int
 fL:Int
 jd:Int
 jK:Int
instance:Inhabited vA:=⟨⟨0,0,0,0,0,0,0,0,0,0⟩⟩
structure bn where
 n:vA
 hs:List Hd
 gs:List Gr
 ls:List eG
def bn.zero:bn:=⟨default, [], [], []⟩
structure l6 where
 HA:Option Addr
 hc:Nat
 GA:Option Addr
 gc:Nat
 LA:Option Addr
 lc:Nat
def Lo(x:bn)(p:l6):List Value:= [.int .i64 x.n.bU,.int .i64 x.n.aL,.int .i64 x.n.bo,.int .i64 x.n.fo,.int .i64 x.n.jt,.slice p.HA x.hs.length p.hc,.slice p.GA x.gs.length p.gc,.int .i64 x.n.eX,.int .i64 x.n.dT,.int .i64 x.n.fL,.slice p.LA x.ls.length p.lc,.int .i64 x.n.jd,.int .i64 x.n.jK]
def nm(x:bn)(p:l6):Value:= .agg (Lo x p).toArray
structure kD(w:World)(x:bn)(p:l6):Prop where
 h:Rd w p.HA 5 (x.hs.map Hd.enc)
 g:Rd w p.GA 5 (x.gs.map Gr.enc)
 l:Rd w p.LA 2 (x.ls.map eG.enc)
theorem kD.aC{w w':World}{x:bn}{p:l6}(h:kD w x p)(hk:bb nX w w'):kD w' x p:=⟨h.h.aC hk,h.g.aC hk,h.l.aC hk⟩
def bn.eT(x:bn):Prop:=x.hs.length≤100000∧x.gs.length≤100000∧x.ls.length≤100000∧x.n.eX≤9223372036854775807
def vB(a:Int):Int:=if 0≤a∧a/16%2=1 then 16 else 0
def ff(k:Int):Prop:=k=2∨k=3∨k=4
instance(k:Int):Decidable (ff k):=by unfold ff;infer_instance
def kW(x:bn):bn:=
 if ff x.n.bo then⟨⟨x.n.bU,x.n.aL,x.n.bo,if x.n.bo=3 then 0 else x.n.fo,if x.n.bo=3 then 0 else x.n.jt,if x.n.bo=4 then 0 else vB x.n.eX,0,x.n.fL,0,0⟩, [], [], []⟩else x
def uy(x:bn)(p:l6):l6:=if ff x.n.bo then⟨none,0,none,0,none,0⟩else p
theorem HR{x:bn}(h:¬ff x.n.bo):kW x=x:=aD h
theorem WA{x:bn}{p:l6}(h:¬ff x.n.bo):uy x p=p:=aD h
theorem WB{x:bn}{p:l6}(h:¬ff x.n.bo):nm (kW x) (uy x p)=nm x p:=by rw [HR h,WA h]
theorem ahb{x:bn}{p:l6}(h:x.n.bo=2):nm (kW x) (uy x p)= .agg #[.int .i64 x.n.bU,.int .i64 x.n.aL,.int .i64 x.n.bo,.int .i64 x.n.fo,.int .i64 x.n.jt,.slice none 0 0,.slice none 0 0,.int .i64 (vB x.n.eX),.int .i64 0,.int .i64 x.n.fL,.slice none 0 0,.int .i64 0,.int .i64 0]:=by
 have hb:ff x.n.bo:= .inl h
 have h3:¬x.n.bo=3:=oM
 have h4:¬x.n.bo=4:=oM
 simp only [kW,uy,aG hb,aD h3,aD h4];rfl
theorem ahc{x:bn}{p:l6}(h:x.n.bo=3):nm (kW x) (uy x p)= .agg #[.int .i64 x.n.bU,.int .i64 x.n.aL,.int .i64 x.n.bo,.int .i64 0,.int .i64 0,.slice none 0 0,.slice none 0 0,.int .i64 (vB x.n.eX),.int .i64 0,.int .i64 x.n.fL,.slice none 0 0,.int .i64 0,.int .i64 0]:=by
 have hb:ff x.n.bo:= .inr (.inl h)
 have h3:x.n.bo=3:=h
 have h4:¬x.n.bo=4:=oM
 simp only [kW,uy,aG hb,aG h3,aD h4];rfl
theorem ahd{x:bn}{p:l6}(h:x.n.bo=4):nm (kW x) (uy x p)= .agg #[.int .i64 x.n.bU,.int .i64 x.n.aL,.int .i64 x.n.bo,.int .i64 x.n.fo,.int .i64 x.n.jt,.slice none 0 0,.slice none 0 0,.int .i64 0,.int .i64 0,.int .i64 x.n.fL,.slice none 0 0,.int .i64 0,.int .i64 0]:=by
 have hb:ff x.n.bo:= .inr (.inr h)
 have h3:¬x.n.bo=3:=oM
 have h4:x.n.bo=4:=h
 simp only [kW,uy,aG hb,aD h3,aG h4];rfl
theorem kD.PB{w:World}{x:bn}{p:l6}(h:kD w x p):kD w (kW x) (uy x p):=by
 by_cases hb:ff x.n.bo
 ·rw [kW,uy,aG hb,aG hb];exact⟨.inl rfl,.inl rfl,.inl rfl⟩
 ·rw [HR hb,WA hb];exact h
theorem ahe{a:Int}(h:a<0∨¬a/16%2=1):(0:Int)=vB a:=by rw [vB,aD  oM]
theorem ahf{a:Int}(h:0≤a)(h1:a≤9223372036854775807):Li .i64 a 16=vB a:=by
 obtain⟨n,rfl⟩:∃n:Nat,a=(n:Int):=⟨a.toNat,oM⟩
 have hn:n<2^63:=oM
 have e:n&&&16=n/16%2*16:=by
  apply Nat.eq_of_testBit_eq
  intro i
  rw [Nat.testBit_and,show(16:Nat)=2^4 from rfl,Nat.testBit_two_pow]
  by_cases hi:4=i
  ·subst hi
   rcases Nat.mod_two_eq_zero_or_one (n/2^4)with h2|h2
   ·rw [h2];simp [Nat.testBit_eq_decide_div_mod_eq,h2]
   ·rw [h2];simp [Nat.testBit_eq_decide_div_mod_eq,h2]
  ·rcases Nat.mod_two_eq_zero_or_one (n/2^4)with h2|h2
   ·rw [h2];simp [hi]
   ·rw [h2,Nat.one_mul,Nat.testBit_two_pow];simp [hi]
 have h2:(BitVec.ofInt 64 (n:Int)&&&BitVec.ofInt 64 16:BitVec 64).toNat=n/16%2*16:=by
  rw [BitVec.toNat_and,BitVec.toNat_ofInt,BitVec.toNat_ofInt]
  have h3:((n:Int)%((2^64:Nat):Int)).toNat=n:=oM
  have h4:((16:Int)%((2^64:Nat):Int)).toNat=16:=by decide
  rw [h3,h4,e]
 show IntKind.wrap .i64 (((BitVec.ofInt 64 (n:Int)&&&BitVec.ofInt 64 16:BitVec 64).toNat:Nat):Int)=_
 rw [h2,gQ,vB]
 split<;>omega
def iR{α:Type}(r:α→α→Bool):List α→List α→Bool
 | [], []=>true
 |a::x,b::y=>r a b&&iR r x y
 |_,_=>false
theorem WC{α:Type}{r:α→α→Bool}:∀{x y:List α},iR r x y=true→x.length=y.length
 | [], [],_=>rfl
 |a::x,b::y,h=>by
  simp only [iR,eN]at h
  simp [WC h.2]
 | [],_::_,h=>by cases h
 |_::_, [],h=>by cases h
theorem PC{α:Type}{r:α→α→Bool}{x y:List α}(h:x.length≠y.length):iR r x y=false:=by
 cases e:iR r x y
 ·rfl
 ·exact absurd (WC e) h
theorem Lp{α:Type}{r:α→α→Bool}(hr:∀a,r a a=true):∀x:List α,iR r x x=true
 | []=>rfl
 |a::x=>by rw [iR,hr a,Lp hr x];rfl
theorem PD{α:Type} [Inhabited α]{r:α→α→Bool}{x y:List α}{k:Nat}(hk:k<x.length)(hl:x.length=y.length)(h:r (aa x k) (aa y k)=true):iR r (x.drop k) (y.drop k)=iR r (x.drop (k+1)) (y.drop (k+1)):=by
 rw [oA hk,oA (show k<y.length by omega),iR,h];rfl
theorem PE{α:Type} [Inhabited α]{r:α→α→Bool}{x y:List α}{k:Nat}(hk:k<x.length)(hl:x.length=y.length)(h:r (aa x k) (aa y k)=false):iR r (x.drop k) (y.drop k)=false:=by
 rw [oA hk,oA (show k<y.length by omega),iR,h];rfl
theorem PF{α:Type}{r:α→α→Bool}{x y:List α}{k:Nat}(hk:x.length≤k)(hl:x.length=y.length):iR r (x.drop k) (y.drop k)=true:=by
 rw [vg hk,vg  oM];rfl
def xp(a b:Hd):Bool:=a.step==b.step&&(a.cd==b.cd&&(a.bR==b.bR&&(a.jJ==b.jJ&&(a.sb==b.sb))))
def xq(a b:Gr):Bool:=a.step==b.step&&(a.cd==b.cd&&(a.bR==b.bR&&(a.fo==b.fo&&(a.Lj==b.Lj))))
def yJ(a b:eG):Bool:=r_ a.gG b.gG&&(a.nj==b.nj)
theorem ahg(a:Hd):xp a a=true:=by simp [xp]
theorem ahh(a:Gr):xq a a=true:=by simp [xq]
theorem ahi(a:eG):yJ a a=true:=by simp [yJ,r_]
def kX(x y:bn):Prop:=x.n.bo=y.n.bo∧(x.n.fo=y.n.fo∧x.n.jt=y.n.jt)∧x.n.eX=y.n.eX∧x.n.dT=y.n.dT∧x.n.fL=y.n.fL∧x.n.jd=y.n.jd∧x.n.jK=y.n.jK∧
 iR xp x.hs y.hs=true∧iR xq x.gs y.gs=true∧iR yJ x.ls y.ls=true
instance(x y:bn):Decidable (kX x y):=by unfold kX;infer_instance
theorem PG(x:bn):kX x x:=⟨rfl,⟨rfl,rfl⟩,rfl,rfl,rfl,rfl,rfl,Lp ahg _,Lp ahh _,Lp ahi _⟩
theorem Lr{b:Bool}(h:(!b)=true):b=false:=by simpa using h
theorem HS{b:Bool}(h:(!b)=false):b=true:=by simpa using h
theorem EW{a b:Int}(h:(a==b)=true):a=b:=by simpa using h
theorem ahj{x y:bn}(h:(x.n.bo==y.n.bo)=false):¬kX x y:=fun g=>by simp [g.1]at h
theorem ahk{x y:bn}(h:(x.n.fo==y.n.fo&&(x.n.jt==y.n.jt))=false):¬kX x y:=fun g=>by simp [g.2.1]at h
theorem ahl{x y:bn}(h:(x.n.eX==y.n.eX)=false):¬kX x y:=fun g=>by simp [g.2.2.1]at h
theorem ahm{x y:bn}(h:(x.n.dT==y.n.dT)=false):¬kX x y:=fun g=>by simp [g.2.2.2.1]at h
theorem ahn{x y:bn}(h:(x.n.fL==y.n.fL)=false):¬kX x y:=fun g=>by simp [g.2.2.2.2.1]at h
theorem aho{x y:bn}(h:(x.n.jd==y.n.jd)=false):¬kX x y:=fun g=>by simp [g.2.2.2.2.2.1]at h
theorem ahp{x y:bn}(h:(x.n.jK==y.n.jK)=false):¬kX x y:=fun g=>by simp [g.2.2.2.2.2.2.1]at h
theorem ahq{x y:bn}(h:iR xp x.hs y.hs=false):¬kX x y:=fun g=>by rw [g.2.2.2.2.2.2.2.1]at h;cases h
theorem ahr{x y:bn}(h:iR xq x.gs y.gs=false):¬kX x y:=fun g=>by rw [g.2.2.2.2.2.2.2.2.1]at h;cases h
theorem ahs{x y:bn}(h0:(x.n.bo==y.n.bo)=true)(h1:(x.n.fo==y.n.fo&&(x.n.jt==y.n.jt))=true)(h2:(x.n.eX==y.n.eX)=true)(h3:(x.n.dT==y.n.dT)=true)(h4:(x.n.fL==y.n.fL)=true)(h5:(x.n.jd==y.n.jd)=true)(h6:(x.n.jK==y.n.jK)=true)
  (h7:iR xp x.hs y.hs=true)(h8:iR xq x.gs y.gs=true):decide (kX x y)=iR yJ x.ls y.ls:=by
 rw [ug,jl]
 exact⟨fun h=>h.2.2.2.2.2.2.2.2.2,fun h=>⟨EW h0,by simpa using h1,EW h2,EW h3,EW h4,EW h5,EW h6,h7,h8,h⟩⟩
def aht(x y:bn):Prop:=(x.n.bU=y.n.bU∧x.n.aL=y.n.aL)∧kX x y
instance(x y:bn):Decidable (aht x y):=by unfold aht;infer_instance
def fU(a b:Int):Prop:= -1≤a∧a≤8∧0≤b∧b≤3
instance(a b:Int):Decidable (fU a b):=by unfold fU;infer_instance
def lF(x:vA):Prop:=0≤x.bU∧x.bU≤99∧0≤x.aL∧x.aL≤1073741824
instance(x:vA):Decidable (lF x):=by unfold lF;infer_instance
def xr(x:vA):Prop:=(0≤x.eX∧x.eX≤31)∧(0≤x.dT∧x.dT≤4)∧(0≤x.fL∧x.fL≤9)∧(0≤x.jd∧x.jd≤2)∧(0≤x.jK∧x.jK≤2)
instance(x:vA):Decidable (xr x):=by unfold xr;infer_instance
def np(x:bn):Int:=if nQ x.hs≠0 then nQ x.hs else if vz x.gs≠0 then vz x.gs else pJ x.ls
def HT(x:vA):Int:=if xr x then 0 else 2
def gH(x:bn):Int:=
 if¬lF x.n then 2 else if x.n.bo<1∨4<x.n.bo then 11 else if¬kX x (kW x)then 3 else if x.n.bo≠3∧¬fU x.n.fo x.n.jt then 17
 else if x.n.bo=1∧np x≠0 then np x else HT x.n
theorem WD{x:bn}(h:¬lF x.n):gH x=2:=by rw [gH,aG h]
theorem ahu{x:bn}(h:lF x.n)(h1:x.n.bo<1∨4<x.n.bo):gH x=11:=by rw [gH,aD (by simpa using h),aG h1]
theorem ahv{x:bn}(h:lF x.n)(h1:¬(x.n.bo<1∨4<x.n.bo))(h2:¬kX x (kW x)):gH x=3:=by rw [gH,aD (by simpa using h),aD h1,aG h2]
theorem ahw{x:bn}(h:lF x.n)(h1:¬(x.n.bo<1∨4<x.n.bo))(h2:kX x (kW x))(h3:x.n.bo≠3∧¬fU x.n.fo x.n.jt):gH x=17:=by rw [gH,aD (by simpa using h),aD h1,aD (by simpa using h2),aG h3]
theorem PH{x:bn}(h:lF x.n)(h1:¬(x.n.bo<1∨4<x.n.bo))(h2:kX x (kW x))(h3:¬(x.n.bo≠3∧¬fU x.n.fo x.n.jt))(h4:x.n.bo=1∧np x≠0):gH x=np x:=by rw [gH,aD (by simpa using h),aD h1,aD (by simpa using h2),aD h3,aG h4]
theorem AK{x:bn}(h:lF x.n)(h1:¬(x.n.bo<1∨4<x.n.bo))(h2:kX x (kW x))(h3:¬(x.n.bo≠3∧¬fU x.n.fo x.n.jt))(h4:¬(x.n.bo=1∧np x≠0)):gH x=HT x.n:=by rw [gH,aD (by simpa using h),aD h1,aD (by simpa using h2),aD h3,aD h4]
theorem bn.eT.PB{x:bn}(h:x.eT):(kW x).eT:=by
 obtain⟨h1,h2,h3,h4⟩:=h
 unfold kW
 split
 ·refine⟨gl _,gl _,gl _,?_⟩
  show(if x.n.bo=4 then(0:Int)else vB x.n.eX)≤9223372036854775807
  split
  ·decide
  ·unfold vB;split<;>decide
 ·exact⟨h1,h2,h3,h4⟩
theorem WE(x:vA):Ky.l4 [if x.bU<0∨99<x.bU then 2 else 0,if x.aL<0∨1073741824<x.aL then 2 else 0]=if lF x then 0 else 2:=by
 by_cases h1:x.bU<0∨99<x.bU
 ·rw [aG h1,aD (show¬lF x by unfold lF;omega)];rfl
 ·rw [aD h1]
  by_cases h2:x.aL<0∨1073741824<x.aL
  ·rw [aG h2,aD (show¬lF x by unfold lF;omega)];rfl
  ·rw [aD h2,aG (show lF x by unfold lF;omega)];rfl
theorem ahx(b:Prop) [Decidable b](l:List Int):Ky.l4 ((if b then 2 else 0)::l)=if b then 2 else Ky.l4 l:=by
 by_cases h:b
 ·rw [aG h,aG h];rfl
 ·rw [aD h,aD h];rfl
theorem EX(x:vA):Ky.l4 [if x.eX<0∨31<x.eX then 2 else 0,if x.dT<0∨4<x.dT then 2 else 0,if x.fL<0∨9<x.fL then 2 else 0,if x.jd<0∨2<x.jd then 2 else 0,if x.jK<0∨2<x.jK then 2 else 0]=HT x:=by
 simp only [ahx,HT]
 by_cases h:xr x
 ·rw [aG h]
  unfold xr at h
  rw [aD  oM,aD  oM,aD  oM,aD  oM,aD  oM];rfl
 ·rw [aD h]
  unfold xr at h
  by_cases h1:x.eX<0∨31<x.eX
  ·rw [aG h1]
  ·rw [aD h1]
   by_cases h2:x.dT<0∨4<x.dT
   ·rw [aG h2]
   ·rw [aD h2]
    by_cases h3:x.fL<0∨9<x.fL
    ·rw [aG h3]
    ·rw [aD h3]
     by_cases h4:x.jd<0∨2<x.jd
     ·rw [aG h4]
     ·rw [aD h4,aG  oM]
theorem EY(x:bn):Ky.l4 [nQ x.hs,vz x.gs,pJ x.ls]=np x:=by
 rw [np,Ky.l4,Ky.l4,Ky.l4]
 by_cases h3:pJ x.ls=0
 ·rw [h3];rfl
 ·rw [aG h3]
theorem WG{x:vA}(h:xr x):HT x=0:=aG h
namespace Hr
section
variable{P:Program}{w:World}{t:TypeId}{cs:Array Value}{off s d:Nat}{v:Value}
theorem cQ(h:mz P t)(hx:cs[off]?=some v):(part t cs off).run P w= .ok v w:=by simp [part,h.1,hx]
theorem AM{ys:Array Value}(h:i_ P t s)(hy:cs.extract off (off+s)=ys):(part t cs off).run P w= .ok (.agg ys) w:=by simp [part,h.1,h.2.run,hy]
theorem AN{xs ys:Array Value}:(Op.eqFields d xs ys []).run P w= .ok true w:=by simp [Op.eqFields]
theorem jf{xs ys:Array Value}{f:Field}{fs:List Field}{a b:Value}{r r':Bool}(hn:f.name≠ "_")(ha:(part f.type xs f.offset).run P w= .ok a w)(hb:(part f.type ys f.offset).run P w= .ok b w)(he:(Op.equalIn d f.type a b).run P w= .ok r w)
  (hr:(Op.eqFields d xs ys fs).run P w= .ok r' w):(Op.eqFields d xs ys (f::fs)).run P w= .ok (r&&r') w:=by
 simp only [Op.eqFields,hn,ne_eq,not_false_eq_true,if_true,wO,ha,hb,he,yk]
 cases r
 ·simp
 ·simpa using hr
end
section
variable{P:Program}{w:World}{e:TypeId}{xs ys:Array Value}{c d i:Nat}{is:List Nat}
theorem WV:(Op.eqItems d e c xs ys []).run P w= .ok true w:=by simp [Op.eqItems]
theorem uB{a b:Value}{r r':Bool}(ha:(part e xs (i*c)).run P w= .ok a w)(hb:(part e ys (i*c)).run P w= .ok b w)(he:(Op.equalIn d e a b).run P w= .ok r w)
  (hr:(Op.eqItems d e c xs ys is).run P w= .ok r' w):(Op.eqItems d e c xs ys (i::is)).run P w= .ok (r&&r') w:=by
 simp only [Op.eqItems,wO,ha,hb,he,yk]
 cases r
 ·simp
 ·simpa using hr
end
section
variable{P:Program}{X:Nat→Prop}{W:World}{n:Nat}{S:St}{o:Oper}{x y:Operand}{t t':TypeId}{i j:Int}{k:IntKind}
theorem nT(ho:o.op= .binOp .quo t x y t')(hx:ev S.ai x=some (.int k i))(hy:ev S.ai y=some (.int k j))(h:0≤i∧1≤j)(hw:k.wrap (i/j)=i/j):Q1 P X W n S o (.int k (i/j)):=by
 have h1:=afG (P:=P) (X:=X) (W:=W) (n:=n) ho hx hy  oM
 rw [Int.tdiv_eq_ediv_of_nonneg h.1,hw]at h1
 exact h1
end
theorem PS{n:Int}(h:0≤n∧n≤255):IntKind.wrap .u8 n=n:=by simp [IntKind.wrap,IntKind.signed,IntKind.bits]<;>omega
theorem ahO{n:Int}(h:0≤n∧n≤65535):IntKind.wrap .u16 n=n:=by simp [IntKind.wrap,IntKind.signed,IntKind.bits]<;>omega
theorem ahP(n:Int):0≤IntKind.wrap .u8 n∧IntKind.wrap .u8 n≤255:=by simp [IntKind.wrap,IntKind.signed,IntKind.bits]<;>omega
theorem sf{n m:Int}(h:0≤n∧n≤255)(hm:1≤m):IntKind.wrap .u8 (n/m)=n/m:=PS ⟨Kn h.1  oM,Int.le_trans (Ko _ h.1) h.2⟩
theorem E5{n m:Int}(h:0≤n∧n≤65535)(hm:1≤m):IntKind.wrap .u16 (n/m)=n/m:=ahO ⟨Kn h.1  oM,Int.le_trans (Ko _ h.1) h.2⟩
def Qm(g s:Nat)(ls:List (List Value)):an:=
 .any (fun k=>g=k) (fun w=>g<w.heap.size∧Rd w (some ⟨g,0,none⟩) s ls) (fun w h b hb=>hb▸h.1) (fun w w' h hk=>by
  have hg:=hk g rfl
  have bW:g<w'.heap.size:=by
   rcases jH g w'.heap.size with h'|h'
   ·exact h'
   ·rw [Ek h',Ou h.1]at hg;cases hg
  refine⟨bW,?_⟩
  rcases h.2 with h0|⟨ad,ha,h1⟩
  ·exact .inl h0
  ·refine .inr ⟨ad,ha,fun i c hi j v hj=>?_⟩
   have e:ad.block=g:=by rw [←Option.some.inj ha]
   rw [←h1 i c hi j v hj]
   exact World.cell?_of_block (by rw [ED,e];exact hg))
theorem ai5{g s:Nat}{ls:List (List Value)}{w:World}(h:(Qm g s ls).holds w):Rd w (some ⟨g,0,none⟩) s ls:=h.2
def CI(b:UInt8):List Value:= [.int .u8 (b.toNat:Int)]
def vN(s:ByteArray):List UInt8:=s.data.toList
theorem XF(s:ByteArray):(vN s).length=s.size:=by
 unfold vN
 rw [Es]
 rfl
theorem ai6{P:Program}{X:Nat→Prop}{W:World}{n:Nat}{ai:List (Nat×Value)}{mem:List an}{o:Oper}{d:Tmp}{t u e:TypeId}{x:Operand}{s:ByteArray}(ho:o.op= .convert t u x)(hd:o.dst=some d)(hdn:Nat.blt d n=true)(ht:P.underlying t=some .string)(hu:P.underlying u=some (.slice e))(he:P.underlying e=some (.int .u8))
  (hx:ev ai x=some (.string s)):H1 P X W n ⟨ai,mem⟩ o (fun _:Nat×Nat=>True) (fun i=>⟨(d,.slice (some ⟨i.1,0,none⟩) (vN s).length i.2)::ai,Qm i.1 1 ((vN s).map CI)::mem⟩):=by
 intro a w cz k Q hk
 have fG:(execOp a.eval o).run P w= .ok (.value (.slice (some ⟨w.heap.size,0,none⟩) (vN s).length (grownCap w s.size 0 e))) (w.drew.alloc (.cells (bytesRow s (grownCap w s.size 0 e)) e ((bytesRow s (grownCap w s.size 0 e)).size,(bytesRow s (grownCap w s.size 0 e)).size+1))):=by
  simp [execOp,ho,cz.eval hx,run_bytes_of_string w t u e s ht hu he,XF]
 refine vq fG ?_
 rw [hd]
 generalize hcc:grownCap w s.size 0 e=cc
 have cC:bb nX w w.drew:=(bb.refl nX w).drew
 have q9:=cC.fS (bb.alloc w.drew (.cells (bytesRow s cc) e ((bytesRow s cc).size,(bytesRow s cc).size+1)))
 have xz:(w.drew.alloc (.cells (bytesRow s cc) e ((bytesRow s cc).size,(bytesRow s cc).size+1))).heap[w.heap.size]?=some (.cells (bytesRow s cc) e ((bytesRow s cc).size,(bytesRow s cc).size+1)):=by
  show(w.heap.push _)[w.heap.size]?=_
  simp
 have cp:Rd (w.drew.alloc (.cells (bytesRow s cc) e ((bytesRow s cc).size,(bytesRow s cc).size+1))) (some ⟨w.heap.size,0,none⟩) 1 ((vN s).map CI):=by
  refine .inr ⟨_,rfl,fun i c hi j v hj=>?_⟩
  rw [mx]at hi
  obtain⟨b,hb,rfl⟩:=Option.map_eq_some_iff.1 hi
  have iy:j=0:=by
   have:=(wN.1 hj).1
   simpa [CI]using this
  subst iy
  obtain rfl:v= .int .u8 (b.toNat:Int):=by simpa [CI]using hj.symm
  have bW:=(wN.1 hb).1
  rw [vf,Nat.mul_one,Eu,ub]
  simp only [World.cell?,xz]
  have h1:(bytesRow s cc)[i]?=some (.int .u8 (b.toNat:Int)):=by
   unfold bytesRow
   rw [Kl (by simpa [vN]using bW)]
   rw [Array.getElem?_map]
   have:s.data[i]?=some b:=by simpa [vN]using hb
   rw [this];rfl
  simpa using h1
 have hm:Mem X W (Qm w.heap.size 1 ((vN s).map CI)::mem) (w.drew.alloc (.cells (bytesRow s cc) e ((bytesRow s cc).size,(bytesRow s cc).size+1))):=by
  refine(cz.mem.w_ q9).cons ⟨uh xz,cp⟩ (fun b hb=>?_) (fun r hr b hb xc=>?_)
  ·have lW:w.heap.size=b:=hb
   exact .inl (by rw [←lW];exact cz.dx.size)
  ·have lW:w.heap.size=b:=hb
   have:=cz.mem.lt r hr b xc
   omega
 exact hk (w.heap.size,cc) _ _ trivial (((cz.Ha (cz.dx.fS q9) hm)).put hdn _)
def an.map(b:Nat)(es:List MapEntry)(ck:Nat):an:=
 .any (fun k=>b=k) (fun w=>w.heap[b]?=some (.map es.toArray ck)) (fun w h k hk=>by subst hk;exact uh h) (fun w w' h hk=>(hk b rfl).trans h)
section
variable{P:Program}{fn:Func}{R:Ending→World→Prop}{X:Nat→Prop}{W:World}{n:Nat}{k:List K}{S:St}{ai:List (Nat×Value)}{mem:List an}{M0:List an}{aq:Array Oper}{aO:Array Bool}{m:Nat}
theorem fJ.aad{M1:List an}(hM:ar M1 M0){Q:Act→World→Prop}{E:Exit→Act→World→Prop}:∀{m:Nat} {aO:Array Bool} {a:Act} {w:World},gb X W M1 w→fJ P aq (Dk X W M1) Q E m aO a w→fJ P aq (Dk X W M0) Q E m aO a w
 |0,_,_,_,_,h=>h
 |m+1,_,_,w,hC,h=>fun w1 cC=>by
  obtain⟨h1,h2⟩:=h w1 cC
  have pF:=hC.up cC
  refine⟨h1,fun i hi=>wpOp_mono (fun a' w' h'=>?_) (h2 i hi)⟩
  have nL:gb X W M1 w':=h'.1 pF
  exact⟨fun _=>⟨nL.1,(hM _ _ _ nL.2).1⟩,fJ.aad hM nL h'.2⟩
theorem fQ{i:Nat}{o:Oper}{ι:Type}{φ:ι→Prop}{next:ι→St}{M1:ι→List an}(hi:aq[i]?=some o)(hw:dd aq ai o true)(h:H1 P X W n ⟨ai,mem⟩ o φ next)(MV:∀j,φ j→ar (next j).mem (M1 j))(hM:∀j,φ j→ar (M1 j) M0)
  (hk:∀j,φ j→gx P fn R X W n k (M1 j) aq m (aO.setIfInBounds i true) (next j)):uu P fn R X W n k M0 aq m aO i ⟨ai,mem⟩:=by
 intro cU b_ nf a w hs hC
 unfold wpOp
 simp only [hi]
 rw [aG (hw.eq hs)]
 refine .inl (h a w hs _ _ fun i' a' w' hφ cO=>?_)
 have pF:gb X W (M1 i') w':=⟨cO.dx,(MV i' hφ _ _ _ cO.mem).1⟩
 have nL:gb X W M0 w':=⟨cO.dx,(hM i' hφ _ _ _ pF.2).1⟩
 exact⟨fun _=>nL,fJ.aad (hM i' hφ) pF (hk i' hφ cU nf a' w' cO pF)⟩
end
section
variable{P:Program}{X:Nat→Prop}{W:World}{n:Nat}{S:St}{o:Oper}{t e:TypeId}{x y:Operand}
theorem DM{len b q:Nat}{k:IntKind}{i:Int}(ho:o.op= .indexAddr t x y)(ht:P.underlying t=some (.array len e))(fF:Sz P e 1)(hx:ev S.ai x=some (.pointer (some ⟨b,0,none⟩)))(hy:ev S.ai y=some (.int k i))(hi:i=(q:Int))(hq:q<len):
  Q1 P X W n S o (.pointer (some ((bN (some ⟨b,0,none⟩)).add (q*1)))):=by
 have h:=agQ (P:=P) (X:=X) (W:=W) (n:=n) (S:=S) (o:=o) (q:=q) (d:=0+q*1) ho ht fF hx hy hi hq rfl
 have e1:(bN (some ⟨b,0,none⟩)).add (q*1)=⟨b,0+q*1,none⟩:=by rw [bN,GX,vf]
 rw [e1];exact h
theorem iH.DN{b:Nat}{tb:TypeId}{cs:List (Nat×Value)}{vs:List Value}{l:List an}(h:ae S.mem (.aj b tb cs) l)(hc:my cs 0 vs):iH X W S (Option.some ⟨b,0,none⟩) 1 (vs.map fun v=> [v]):=fun w hk hm=>
 .inr ⟨⟨b,0,none⟩,rfl,fun i c hi j v hj=>by
  rw [mx]at hi
  cases hv:vs[i]? with
  |none=>rw [hv]at hi;cases hi
  |some u=>
   rw [hv]at hi
   simp only [rW,Option.some.injEq]at hi
   subst hi
   match j,hj with
   |0,hj=>
    simp only [Kv,Option.some.injEq]at hj
    subst hj
    have h1:=hc.get i u hv
    rw [vf]
    have h2:=EG (h.holds hm) h1
    simpa using h2⟩
end
section
variable{ρ:Option Nat}{P:Program}{Qb:Exit→Act→World→Prop}{ds:List Deferred}{X:Nat→Prop}{W:World}{n:Nat}{k:List K}{S:St}{ai:List (Nat×Value)}{mem:List an}{all:Array Oper}{aS:List Oper}{o:Oper}
theorem T9{α:Type}{l d N:Nat}{encs:α→List Value}{J Jx:List α→List an→Prop}{bL:List α}{rs ls:List an}(x:α){y:Operand}{xs:Array Operand}{ts:Array TypeId}{vs:List Value}(hw:dd all ai o true)(ho:o.op= .call {callee:= .value y,args:=xs,argTypes:=ts})(hd:o.dst=some d)(hdn:Nat.blt d n=true)
  (hy:ev ai y=some (.func (.yield l) #[] #[]))(hx:lB ai xs.toList vs)(he:vs=encs x)(cU:ae mem (.aY rs) ls){W0:World}(bI:bb nX W0 W)(ng:∀b,X b→W0.heap.size≤b)(hY:YR P l encs J Jx N W0)(hJ:J bL rs)(hN:bL.length<N)
  (h1:∀cm,J (bL++ [x]) cm→RF ρ P Qb ds X W n (.aq all aS::k) ⟨(d,.bool true)::ai,.aY cm::ls⟩)
  (h2:∀cm,Jx (bL++ [x]) cm→RF ρ P Qb ds X W n (.aq all aS::k) ⟨(d,.bool false)::ai,.aY cm::ls⟩):RF ρ P Qb ds X W n (.aq all (o::aS)::k) ⟨ai,mem⟩:=by
 intro a w hs
 refine wpListIn_step fun K hK=>?_
 rw [aG (P0 hw hs)]
 have hm:=(ar.sX _ _ _ (hs.1.mem.aK cU.aK)).1
 obtain⟨f,tmps,jL,body,uD,hR⟩:=hY bL x rs w hJ hm.eW hN (Cz bI ng hs.1.dx) (P1 bI ng (fun r hr=>hm.ag r (B6 _ hr)))
 unfold Oper.wpIn
 refine⟨fun f _=>trivial,?_⟩
 rw [B5 (Fr ρ) _ _ (by rw [ho];intro c h;cases h)]
 have xg:xs.map a.eval=(encs x).toArray:=G3.1 (by have:=hx.map hs.1;rw [yR]at this;rw [KB,this,←he])
 have fG:(execOp a.eval o).run P w= .ok (.round l f tmps jL body) w:=by
  simp [execOp,ho,resolve,invoke,Deferred.ofValue,hs.eval hy,xg,uD]
 rw [fG,Oper.uponIn_round]
 refine⟨(fun h=>by cases h),RoundIn.mono hR fun e w' yT=>?_⟩
 obtain⟨cm,⟨hk,ij⟩,hj⟩:=yT
 have eE:=(hs.1.change (cs:= [.aY rs]) (ls:=ls) (m:= [.aY cm]) (Y:=bg rs) cU.aK hk (fun b hb=>⟨.aY rs,by simp,hb⟩) ((ar.close_ (rs:=cm) (l:= []) _ _ _ (by rw [iF];exact ij)).1))
 rcases hj with⟨rfl,hj⟩|⟨rfl,hj⟩
 ·refine hK _ _ (h1 cm hj _ _ ⟨?_,?_⟩)
  ·rw [hd];exact eE.put hdn _
  ·rw [rq];exact hs.2
 ·refine hK _ _ (h2 cm hj _ _ ⟨?_,?_⟩)
  ·rw [hd];exact eE.put hdn _
  ·rw [rq];exact hs.2
end
theorem J9{P:Program}{fn:Func}{R:Ending→World→Prop}{l:Nat}{a:Act}{w:World}:∀{k:List K},post P fn R k (.goto l) a w→False
 | [],h=>by simp [post,bodyPost]at h
 | .bC _::k,h=>J9 (k:=k) (by simpa [post,Exit.then]using h)
 | .aq _ _::k,h=>J9 (k:=k) (by simpa [post,Exit.then]using h)
 | .aj _::k,h=>J9 (k:=k) (by simpa [post,Exit.inBlock]using h)
 | .stop _::k,h=>J9 (k:=k) (by simpa [post,Exit.then]using h)
theorem auv{P:Program}{fn:Func}{R:Ending→World→Prop}{X:Nat→Prop}{W:World}{n l:Nat}{k:List K}{S:St}(h:bt P fn R X W n k S):bt P fn R X W n (.bC (.label l)::k) S:=fun a w hs=>wp_label (h a w hs)
theorem auw{P:Program}{fn:Func}{R:Ending→World→Prop}{X:Nat→Prop}{W:World}{n:Nat}{k:List K}{S:St}{c:Code}(h:bt P fn R X W n (.bC c::k) S):bt P fn R X W n (.bC (.scope c)::k) S:=fun a w hs=>by
 refine wp_scope_straight (BW ?_ (h a w hs))
 intro e a' w' q
 cases e with
 |goto l=>exact(J9 q).elim
 |_=>exact q
def isW(x:Int):Prop:=0≤x∧x<18446744073709551616
theorem wU{x:Int}(h:isW x):IntKind.u64.wrap x=x:=by rw [IntKind.wrap_u64];exact Int.emod_eq_of_lt h.1 h.2
theorem Bf{x:Int}(h:0≤x):x.fdiv (2^(min (Int.toNat 1) (IntKind.bits .u64)))=x/2:=by
 rw [show(2:Int)^(min (Int.toNat 1) (IntKind.bits .u64))=2 from by decide,Int.fdiv_eq_ediv_of_nonneg _ (by decide)]
end Hr
end Go.Proofs.YtjpbickffffgkaaGreat
