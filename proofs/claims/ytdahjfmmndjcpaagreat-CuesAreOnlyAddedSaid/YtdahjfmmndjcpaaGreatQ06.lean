/- Part. -/
import Derived.Test.YtdahjfmmndjcpaaGreatQ05
set_option linter.unusedSimpArgs false
set_option linter.unusedVariables false
set_option maxHeartbeats 40000000
set_option maxRecDepth 100000
namespace Go.Proofs.YtdahjfmmndjcpaaGreat
open Go Go.RowKit Hr Go.Proofs.Tryz
namespace Tu
def jA(t:bb)(e:Int):Bool:=decide (t.first≤e)&&decide (e<eZ t)
def UQ(t u:bb):Bool:=decide (u.first≤t.first)&&decide (eZ t≤eZ u)
theorem GW{t:bb}{e:Int}:jA t e=true↔t.first≤e∧e<eZ t:=by simp [jA]
def GX(ts:List bb)(i:Nat)(e:Int)(j:Nat):Prop:=∀k,k<j→jA (aa ts i) e=true→jA (aa ts k) e=true→UQ (aa ts i) (aa ts k)=true
theorem GX.zero{ts:List bb}{i:Nat}{e:Int}:GX ts i e 0:=fun k h=>oM
theorem GX.succ{ts:List bb}{i:Nat}{e:Int}{j:Nat}(h:GX ts i e j)(h1:jA (aa ts i) e=true→jA (aa ts j) e=true→UQ (aa ts i) (aa ts j)=true):GX ts i e (j+1):=fun k hk=>by
 by_cases e0:k=j
 ·subst e0;exact h1
 ·exact h k  oM
theorem ae3{l:List bb}{p q:bb→Bool}(h:∀u∈l,p u=true→q u=true):(l.filter p).length≤(l.filter q).length:=by
 rw [←List.countP_eq_length_filter,←List.countP_eq_length_filter]
 exact List.countP_mono_left h
def pY(ts:List bb):Prop:=∃n:Int,n≤128∧jz n ts ts.length
theorem pY.of{ts:List bb}{n:Int}(h:nF ts n=0):pY ts:=⟨n,(On h).2.1,(On h).2.2.2⟩
theorem pY.UR{ts:List bb}(h:pY ts){k:Nat}(hk:k<ts.length):uY (aa ts k)∧1≤(aa ts k).nE∧(aa ts k).nE≤32∧1≤(aa ts k).normal∧(aa ts k).normal≤32:=by
 obtain⟨n,hn,hg⟩:=h
 have hp:=(KE (hg k hk)).1
 refine⟨KG hp hn,?_⟩
 unfold lK at hp;omega
def rD(ts:List bb)(e:Int)(k:Nat):Nat:=((ts.take k).filter fun u=>jA u e).length
theorem US{ts:List bb}{e:Int}{k:Nat}(hk:k<ts.length)(h:jA (aa ts k) e=true):rD ts e (k+1)=rD ts e k+1:=by
 rw [rD,o6 hk,uH];simp [rD,h]
theorem UT{ts:List bb}{e:Int}{k:Nat}(hk:k<ts.length)(h:jA (aa ts k) e=false):rD ts e (k+1)=rD ts e k:=by
 rw [rD,o6 hk,uH];simp [rD,h]
theorem Ou{ts:List bb}(hv:pY ts)(e:Int):∀k,k≤ts.length→rD ts e k≤3
 |0,_=>by simp [rD]
 |k+1,hk=>by
  cases h:jA (aa ts k) e with
  |false=>rw [UT  oM h];exact Ou hv e k  oM
  |true=>
   rw [US  oM h]
   obtain⟨n,hn,hg⟩:=hv
   have hb:=(KE (hg k  oM)).2.2
   have h2:rD ts e k≤(mi ts k (aa ts k).first).length:=by
    refine ae3 fun u _ hu=>?_
    rw [GW]at hu h
    simp;omega
   by_cases h3:3≤(mi ts k (aa ts k).first).length
   ·exact absurd (.inl h3) hb
   ·omega
def NN(ts:List bb)(e:Int):Nat→Nat
 |0=>1
 |k+1=>if jA (aa ts k) e then NN ts e k*(aa ts k).normal.toNat else NN ts e k
def DD(ts:List bb)(e:Int):Nat→Nat
 |0=>1
 |k+1=>if jA (aa ts k) e then DD ts e k*(aa ts k).nE.toNat else DD ts e k
theorem GY{ts:List bb}(hv:pY ts)(e:Int):∀k,k≤ts.length→1≤NN ts e k∧NN ts e k≤32^rD ts e k∧1≤DD ts e k∧DD ts e k≤32^rD ts e k
 |0,_=>by simp [NN,DD,rD]
 |k+1,hk=>by
  obtain⟨h1,h2,h3,h4⟩:=GY hv e k  oM
  obtain⟨_,p1,p2,p3,p4⟩:=hv.UR (show k<ts.length by omega)
  cases h:jA (aa ts k) e with
  |false=>rw [UT  oM h,NN,DD,ay (by simp [h]),ay (by simp [h])];exact⟨h1,h2,h3,h4⟩
  |true=>
   rw [US  oM h,NN,DD,aG h,aG h,Nat.pow_succ]
   exact⟨Nat.mul_pos h1  oM,Nat.mul_le_mul h2  oM,Nat.mul_pos h3  oM,Nat.mul_le_mul h4  oM⟩
theorem UU{k:Nat}(h:k≤3):32^k≤32768:=by
 have:32^k≤32^3:=Nat.pow_le_pow_right  oM h
 exact this
theorem Ow{ts:List bb}(hv:pY ts)(e:Int){k:Nat}(hk:k≤ts.length):1≤NN ts e k∧NN ts e k≤32768:=⟨(GY hv e k hk).1,la (GY hv e k hk).2.1 (UU (Ou hv e k hk))⟩
theorem Ox{ts:List bb}(hv:pY ts)(e:Int){k:Nat}(hk:k≤ts.length):1≤DD ts e k∧DD ts e k≤32768:=⟨(GY hv e k hk).2.2.1,la (GY hv e k hk).2.2.2 (UU (Ou hv e k hk))⟩
theorem KJ{ts:List bb}{e:Int}{k:Nat}(h:jA (aa ts k) e=false):NN ts e (k+1)=NN ts e k:=by rw [NN,ay (by simp [h])]
theorem KK{ts:List bb}{e:Int}{k:Nat}(h:jA (aa ts k) e=false):DD ts e (k+1)=DD ts e k:=by rw [DD,ay (by simp [h])]
def ff(ts:List bb)(e:Int):Nat→Nat×Nat
 |0=>(1,1)
 |k+1=>if jA (aa ts k) e then
   let a:=(ff ts e k).1*(aa ts k).normal.toNat
   let b:=(ff ts e k).2*(aa ts k).nE.toNat
   (a/Nat.gcd a b,b/Nat.gcd a b)else ff ts e k
theorem Oy{ts:List bb}{e:Int}{k:Nat}(h:jA (aa ts k) e=false):ff ts e (k+1)=ff ts e k:=by rw [ff,ay (by simp [h])]
theorem Oz{ts:List bb}{e:Int}{k:Nat}(h:jA (aa ts k) e=true):ff ts e (k+1)=
  ((ff ts e k).1*(aa ts k).normal.toNat/Nat.gcd ((ff ts e k).1*(aa ts k).normal.toNat) ((ff ts e k).2*(aa ts k).nE.toNat),
   (ff ts e k).2*(aa ts k).nE.toNat/Nat.gcd ((ff ts e k).1*(aa ts k).normal.toNat) ((ff ts e k).2*(aa ts k).nE.toNat)):=by rw [ff,aG h]
theorem OA{ts:List bb}(hv:pY ts)(e:Int):∀k,k≤ts.length→∃g,1≤g∧NN ts e k=g*(ff ts e k).1∧DD ts e k=g*(ff ts e k).2∧Nat.gcd (ff ts e k).1 (ff ts e k).2=1
 |0,_=>⟨1,oM,rfl,rfl,by simp [ff]⟩
 |k+1,hk=>by
  obtain⟨g,h1,h2,h3,h4⟩:=OA hv e k  oM
  cases h:jA (aa ts k) e with
  |false=>rw [KJ h,KK h,Oy h];exact⟨g,h1,h2,h3,h4⟩
  |true=>
   have b1:=(Ow hv e (show k+1≤ts.length from hk)).1
   have b2:=(Ox hv e (show k+1≤ts.length from hk)).1
   rw [NN,aG h,h2]at b1
   rw [DD,aG h,h3]at b2
   rw [Oz h,NN,aG h,DD,aG h,h2,h3]
   generalize hA:(ff ts e k).1*(aa ts k).normal.toNat=a
   generalize hB:(ff ts e k).2*(aa ts k).nE.toNat=b
   rw [Nat.mul_assoc,hA]at b1
   have ha:0<a:=by
    rcases Nat.eq_zero_or_pos a with h0|h0
    ·rw [h0]at b1;omega
    ·exact h0
   have hd:0<Nat.gcd a b:=Nat.gcd_pos_of_pos_left b ha
   refine⟨g*Nat.gcd a b,Nat.mul_pos h1 hd,?_,?_,?_⟩
   ·rw [Nat.mul_assoc g,hA,Nat.mul_assoc,Nat.mul_div_cancel' (Nat.gcd_dvd_left a b)]
   ·rw [Nat.mul_assoc g,hB,Nat.mul_assoc,Nat.mul_div_cancel' (Nat.gcd_dvd_right a b)]
   ·exact Nat.gcd_div_gcd_div_gcd_of_pos_left ha
theorem UW{ts:List bb}(hv:pY ts)(e:Int){k:Nat}(hk:k≤ts.length):1≤(ff ts e k).1∧(ff ts e k).1≤32768∧1≤(ff ts e k).2∧(ff ts e k).2≤32768:=by
 obtain⟨g,h1,h2,h3,-⟩:=OA hv e k hk
 have n1:=Ow hv e hk
 have n2:=Ox hv e hk
 rw [h2]at n1
 rw [h3]at n2
 have key:∀p:Nat,1≤g*p∧g*p≤32768→1≤p∧p≤32768:=by
  intro p hp
  have:p≤g*p:=Nat.le_mul_of_pos_left p h1
  refine⟨?_,oM⟩
  rcases Nat.eq_zero_or_pos p with h0|h0
  ·rw [h0]at hp;omega
  ·exact h0
 exact⟨(key _ n1).1,(key _ n1).2,(key _ n2).1,(key _ n2).2⟩
theorem UX{p:Nat}{x:Int}(hp:p≤32768)(hx:1≤x∧x≤32):0≤(p:Int)*x∧(p:Int)*x≤1048576:=by
 refine⟨Int.mul_nonneg  oM oM,?_⟩
 have h1:(p:Int)*x≤32768*x:=J5  oM oM
 omega
theorem UY{x:Int}{p:Nat}(hx:0≤x∧x≤7741440)(hp:p≤32768):0≤x*(p:Int)∧x*(p:Int)≤253671505920:=by
 refine⟨Int.mul_nonneg  oM oM,?_⟩
 have h1:x*(p:Int)≤7741440*(p:Int):=J5  oM oM
 omega
def gW(ts:List bb)(e x:Int):Int×Int:=if x<0∨7741440<x then(0,2)else if x*NN ts e ts.length%DD ts e ts.length≠0 then(0,16)else(x*NN ts e ts.length/DD ts e ts.length,0)
theorem OB{ts:List bb}(hv:pY ts)(e x:Int):(x*NN ts e ts.length%DD ts e ts.length=0↔x*((ff ts e ts.length).1:Int)%((ff ts e ts.length).2:Int)=0)∧
  x*NN ts e ts.length/DD ts e ts.length=x*((ff ts e ts.length).1:Int)/((ff ts e ts.length).2:Int):=by
 obtain⟨g,h1,h2,h3,-⟩:=OA hv e ts.length (cm _)
 rw [h2,h3,Gb,Gb,show x*((g:Int)*((ff ts e ts.length).1:Int))=(g:Int)*(x*((ff ts e ts.length).1:Int))from by rw [←Int.mul_assoc,Int.mul_comm x,Int.mul_assoc]]
 rw [Int.mul_emod_mul_of_pos _ _  oM,Int.mul_ediv_mul_of_pos _ _  oM]
 refine⟨⟨fun h=>?_,fun h=>by rw [h];simp⟩,rfl⟩
 rcases Int.mul_eq_zero.1 h with h|h
 ·omega
 ·exact h
theorem UZ{ts:List bb}{e x:Int}(h:x<0∨7741440<x):gW ts e x=(0,2):=aG h
theorem ae4{ts:List bb}{e x:Int}(h:0≤x∧x≤7741440)(hm:x*NN ts e ts.length%DD ts e ts.length≠0):gW ts e x=(0,16):=by rw [gW,ay  oM,aG hm]
theorem OC{ts:List bb}{e x:Int}(h:0≤x∧x≤7741440)(hm:x*NN ts e ts.length%DD ts e ts.length=0):gW ts e x=(x*NN ts e ts.length/DD ts e ts.length,0):=by rw [gW,ay  oM,ay (by simp [hm])]
theorem ae5{ts:List bb}(hv:pY ts)(e x:Int):0≤(gW ts e x).1∧(gW ts e x).1≤253671505920:=by
 unfold gW
 by_cases h:x<0∨7741440<x
 ·rw [aG h];simp
 ·rw [ay h]
  by_cases h2:x*NN ts e ts.length%DD ts e ts.length≠0
  ·rw [aG h2];simp
  ·rw [ay h2]
   have h3:=UY (x:=x) (p:=NN ts e ts.length)  oM (Ow hv e (cm _)).2
   have h4:=(Ox hv e (cm ts.length)).1
   dsimp only
   refine⟨JX h3.1  oM,Int.le_trans (JY _ h3.1) h3.2⟩
def p8(ts:List bb)(w:List Int)(k:Nat):List Int:=(List.range k).map fun i:Nat=>(gW ts (i:Int) (aa w i)).1
def KL(ts:List bb)(w:List Int):Int:=dw (fun i:Nat=>(gW ts (i:Int) (aa w i)).2) w.length 0
def x9(ts:List bb)(w:List Int):List Int×Int:=if nF ts w.length≠0 then([],nF ts w.length)else if KL ts w≠0 then([],KL ts w)else(p8 ts w w.length,0)
theorem U0{ts:List bb}{w:List Int}(h:nF ts w.length≠0):x9 ts w=([],nF ts w.length):=aG h
theorem ae6{f:Nat→Int}{n k:Nat}(hk:k<n)(h:∀j,j<k→f j=0)(h0:f k≠0):dw f n 0=f k:=by
 have key:∀i,i≤k→dw f n 0=dw f (n-i) i:=by
  intro i
  induction i with
  |zero=>intro _;rfl
  |succ i ih=>intro hi;rw [ih  oM,BN  oM (h i  oM)]
 rw [key k (cm _),z7 hk h0]
theorem U1{ts:List bb}{w:List Int}{k:Nat}(hc:nF ts w.length=0)(hk:k<w.length)(h:∀j,j<k→(gW ts (j:Int) (aa w j)).2=0)(h0:(gW ts (k:Int) (aa w k)).2≠0):x9 ts w=([],(gW ts (k:Int) (aa w k)).2):=by
 have e:KL ts w=(gW ts (k:Int) (aa w k)).2:=ae6 hk h h0
 rw [x9,ay (by simp [hc]),e,aG h0]
theorem OD{ts:List bb}{w:List Int}(hc:nF ts w.length=0)(h:∀j,j<w.length→(gW ts (j:Int) (aa w j)).2=0):x9 ts w=(p8 ts w w.length,0):=by
 have e:KL ts w=0:=Ec fun j _ hj=>h j  oM
 rw [x9,ay (by simp [hc]),ay (by simp [e])]
theorem BR(ts:List bb)(w:List Int)(k:Nat):p8 ts w (k+1)=p8 ts w k++ [(gW ts (k:Int) (aa w k)).1]:=by simp [p8,oU]
theorem Ed(ts:List bb)(w:List Int)(k:Nat):(p8 ts w k).length=k:=by simp [p8]
theorem ae7{P:Nat→Prop}{k:Nat}(h:∀j,j<k→P j)(h0:P k):∀j,j<k+1→P j:=fun j hj=>by
 by_cases e:j=k
 ·subst e;exact h0
 ·exact h j  oM
def gX:List Int→Int
 | []=>0
 |x::l=>x+gX l
theorem GZ:∀(l l':List Int),gX (l++l')=gX l+gX l'
 | [],l'=>by simp [gX]
 |x::l,l'=>by rw [Bt,gX,gX,GZ l l'];omega
theorem Ee{l:List Int}{k:Nat}(h:k<l.length):gX (l.take (k+1))=gX (l.take k)+aa l k:=by
 rw [o6 h,GZ];simp [gX]
theorem G0{l:List Int}(hb:∀x∈l,0≤x∧x≤253671505920):∀k,k≤l.length→0≤gX (l.take k)∧gX (l.take k)≤(k:Int)*253671505920
 |0,_=>by simp [gX]
 |k+1,h=>by
  rw [Ee  oM]
  have h1:=G0 hb k  oM
  have h2:=hb _ (aB (show k<l.length by omega))
  omega
theorem U2{x m:Int}(hx:0≤x∧x≤253671505920)(hm:1≤m∧m≤16):0≤x*m∧x*m≤4058744094720:=by
 refine⟨Int.mul_nonneg hx.1  oM,?_⟩
 have h1:x*m≤253671505920*m:=J5 hx.2  oM
 omega
end Tu
namespace Ky
def gY(a b:Int):Int:=if a<b then-1 else if b<a then 1 else 0
def lL:List Int→Int
 | []=>0
 |e::r=>if e≠0 then e else lL r
theorem afm{l:List Int}{k:Nat}(hk:k<l.length)(h0:aa l k=0):lL (l.drop k)=lL (l.drop (k+1)):=by
 rw [nD hk,lL,ay (by simp [h0])]
theorem afn{l:List Int}{k:Nat}(hk:k<l.length)(h0:aa l k≠0):lL (l.drop k)=aa l k:=by
 rw [nD hk,lL,aG h0]
def o9:List Int→List Int→Int
 |a::x,b::y=>if a<b then-1 else if b<a then 1 else o9 x y
 |_,_=>0
theorem Vl:∀(x y:List Int),lL (List.zipWith gY x y)=o9 x y
 | [],_=>by cases‹List Int›<;>rfl
 |_::_, []=>rfl
 |a::x,b::y=>by
  rw [List.zipWith_cons_cons,lL,o9,Vl x y,gY]
  by_cases h1:a<b
  ·simp [h1]
  ·by_cases h2:b<a
   ·simp [h1,h2]
   ·simp [h1,h2]
theorem OK:∀(x y:List Int),x.length=y.length→o9 y x= -o9 x y
 | [], [],_=>rfl
 |a::x,b::y,h=>by
  have ih:=OK x y (by simpa using h)
  rw [o9,o9]
  by_cases h1:a<b
  ·rw [ay  oM,aG h1,aG h1];rfl
  ·by_cases h2:b<a
   ·rw [aG h2,ay h1,aG h2]
   ·rw [ay h2,ay h1,ay h1,ay h2,ih]
theorem Vm:∀(x y z:List Int),x.length=y.length→y.length=z.length→o9 y x≥0→o9 z y≥0→o9 z x≥0
 | [], [], [],_,_,_,_=>by simp [o9]
 |a::x,b::y,c::z,h1,h2,h3,h4=>by
  have ih:=Vm x y z (by simpa using h1) (by simpa using h2)
  rw [o9]at h3 h4⊢
  by_cases p1:b<a
  ·rw [aG p1]at h3;omega
  rw [ay p1]at h3
  by_cases p2:c<b
  ·rw [aG p2]at h4;omega
  rw [ay p2]at h4
  rw [ay  oM]
  by_cases p3:a<c
  ·rw [aG p3];omega
  rw [ay p3]
  rw [ay  oM]at h3 h4
  exact ih h3 h4
def cU{α:Type}(key:α→List Int)(a b:α):Bool:=decide (o9 (key a) (key b)<0)
theorem afo{α:Type}{key:α→List Int}{n:Nat}(h:∀a,(key a).length=n):aZ.tN (cU key):=⟨fun{a b c} h1 h2=>by
 simp only [cU,wj]at h1 h2⊢
 have:=Vm (key a) (key b) (key c) (by rw [h,h]) (by rw [h,h])  oM oM
 omega,fun{a b} h1=>by
 simp only [cU,wj,iK]at h1⊢
 have:=OK (key a) (key b) (by rw [h,h])
 omega⟩
end Ky
structure aY where
 step:Int
 bU:Int
 bH:Int
instance:Inhabited aY:=⟨⟨0,0,0⟩⟩
def aY.enc(p:aY):List Value:= [.int .i64 p.step,.int .i64 p.bU,.int .i64 p.bH]
def aY.val(p:aY):Value:= .agg p.enc.toArray
structure Hd where
 step:Int
 bU:Int
 bH:Int
 ey:Bool
 tO:Int
instance:Inhabited Hd:=⟨⟨0,0,0,false,0⟩⟩
def Hd.enc(p:Hd):List Value:= [.int .i64 p.step,.int .i64 p.bU,.int .i64 p.bH,.bool p.ey,.int .i64 p.tO]
def Hd.val(p:Hd):Value:= .agg p.enc.toArray
structure Gr where
 step:Int
 bU:Int
 bH:Int
 e_:Int
 OM:Bool
instance:Inhabited Gr:=⟨⟨0,0,0,0,false⟩⟩
def Gr.enc(p:Gr):List Value:= [.int .i64 p.step,.int .i64 p.bU,.int .i64 p.bH,.int .i64 p.e_,.bool p.OM]
def Gr.val(p:Gr):Value:= .agg p.enc.toArray
structure ef where
 gC:ByteArray
 mE:Int
instance:Inhabited ef:=⟨⟨ByteArray.mk #[],0⟩⟩
def ef.enc(p:ef):List Value:= [.string p.gC,.int .i64 p.mE]
def ef.val(p:ef):Value:= .agg p.enc.toArray
def dw(f:Nat→Int):Nat→Nat→Int
 |0,_=>0
 |n+1,i=>if f i≠0 then f i else dw f n (i+1)
theorem BN{f:Nat→Int}{n i:Nat}(h:i<n)(h0:f i=0):dw f (n-i) i=dw f (n-(i+1)) (i+1):=by
 rw [show n-i=n-(i+1)+1 from oM,dw,ay (by simp [h0])]
theorem z7{f:Nat→Int}{n i:Nat}(h:i<n)(h0:f i≠0):dw f (n-i) i=f i:=by
 rw [show n-i=n-(i+1)+1 from oM,dw,aG h0]
theorem GS{f:Nat→Int}:∀{n i:Nat},dw f n i=0→∀j,j<n→f (i+j)=0
 |n+1,i,h,j,hj=>by
  simp only [dw]at h
  by_cases h0:f i=0
  ·rw [ay (by simp [h0])]at h
   cases j with
   |zero=>simpa using h0
   |succ j=>
    have:=GS h j  oM
    rwa [show i+(j+1)=i+1+j from oM]
  ·rw [aG h0]at h;exact absurd h h0
theorem Ec{f:Nat→Int}:∀{n i:Nat},(∀j,i≤j→j<i+n→f j=0)→dw f n i=0
 |0,_,_=>rfl
 |n+1,i,h=>by
  rw [dw,ay (by simp [h i  oM oM])]
  exact Ec fun j h1 h2=>h j  oM oM
def ya(s:ByteArray)(k:Nat):Int:=((s[k]?.getD 0).toNat:Int)
theorem Vt{s:ByteArray}{k:Nat}(h:k<s.size):s[k]?=some (s[k]?.getD 0):=by
 rw [getElem?_pos s k h];rfl
def o_(s:Int):Int:=aa [0,2,4,5,7,9,11] s.toNat
def nj(s a o:Int):Prop:=0≤s∧s≤6∧-2≤a∧a≤2∧-1≤o∧o≤9
instance(s a o:Int):Decidable (nj s a o):=by unfold nj;infer_instance
def c_(s a o:Int):Int:=if nj s a o then(if o_ s+a+12*(o+1)<0∨127<o_ s+a+12*(o+1)then-1 else o_ s+a+12*(o+1))else-1
theorem afu{s:Int}(h:0≤s∧s≤6):0≤o_ s∧o_ s≤11:=by
 have:s=0∨s=1∨s=2∨s=3∨s=4∨s=5∨s=6:=oM
 rcases this with rfl|rfl|rfl|rfl|rfl|rfl|rfl<;>decide
theorem KQ(s a o:Int): -1≤c_ s a o∧c_ s a o≤127:=by
 unfold c_
 split
 ·split<;>omega
 ·omega
def Hd.aH(h:Hd):Int:=c_ h.step h.bU h.bH
def Gr.aH(h:Gr):Int:=c_ h.step h.bU h.bH
def aY.aH(h:aY):Int:=c_ h.step h.bU h.bH
theorem Vu{s:Int}(h:0≤s∧s≤6):(#[Value.int .i64 0,.int .i64 2,.int .i64 4,.int .i64 5,.int .i64 7,.int .i64 9,.int .i64 11])[s.toNat]?=some (.int .i64 (o_ s)):=by
 have:s=0∨s=1∨s=2∨s=3∨s=4∨s=5∨s=6:=oM
 rcases this with rfl|rfl|rfl|rfl|rfl|rfl|rfl<;>rfl
def eW(n:Int):List Value:= [.int .i64 n]
theorem Ei{s a o:Int}(h:¬nj s a o):c_ s a o= -1:=ay h
theorem Vv{s a o:Int}(h:nj s a o)(h1:o_ s+a+12*(o+1)<0∨127<o_ s+a+12*(o+1)):c_ s a o= -1:=by rw [c_,aG h,aG h1]
theorem afv{s a o:Int}(h:nj s a o)(h1:¬(o_ s+a+12*(o+1)<0∨127<o_ s+a+12*(o+1))):c_ s a o=o_ s+a+12*(o+1):=by rw [c_,aG h,ay h1]
theorem Ek{s a o:Int}(h:0≤c_ s a o):nj s a o∧c_ s a o=o_ s+a+12*(o+1):=by
 unfold c_ at h⊢
 split at h
 ·rename_i hi
  split at h
  ·omega
  ·rename_i h1
   exact⟨hi,by rw [aG hi,ay h1]⟩
 ·omega
def mF(h:Hd):Int:=if h.aH<0 then 18 else if h.tO<0∨2<h.tO then 2 else 0
def hF(l:List Hd)(i:Nat):Int:=if mF (aa l i)≠0 then mF (aa l i)else if 0<i∧(aa l i).aH≤(aa l (i-1)).aH then 25 else 0
def pb(l:List Hd):Int:=if l.length=0 then 4 else if 10<l.length then 9 else dw (hF l) l.length 0
def wI(g:Gr):Int:=if g.aH<0 then 18 else if g.e_<1∨6<g.e_ then 2 else 0
def gF(l:List Gr)(i:Nat):Int:=wI (aa l i)
def u4(l:List Gr):Int:=if 8<l.length then 9 else dw (gF l) l.length 0
def tP(s:ByteArray)(i:Nat):Int:=if ya s i<32∨ya s i=127 then 6 else 0
def G3(s:ByteArray):Bool:=ga s (ByteArray.mk #[])
def Ac(x:ef):Prop:=G3 x.gC=true∧x.mE=0
instance(x:ef):Decidable (Ac x):=by unfold Ac;infer_instance
def sL(x:ef):Int:=
 if x.mE<0∨2<x.mE then 2 else if 256<x.gC.size then 5 else if dw (tP x.gC) x.gC.size 0≠0 then 6 else if G3 x.gC=true∧x.mE=1 then 3 else 0
def sF(l:List ef)(i:Nat):Int:=sL (aa l i)
def pd(l:List ef):Int:=
 if 4<l.length then 9 else if dw (sF l) l.length 0≠0 then dw (sF l) l.length 0 else if 0<l.length∧Ac (aa l (l.length-1))then 3 else 0
theorem ON{h:Hd}(h0:¬h.aH<0)(h1:¬(h.tO<0∨2<h.tO)):mF h=0:=by rw [mF,ay h0,ay h1]
theorem afw{h:Gr}(h0:h.aH<0):wI h=18:=by rw [wI,aG h0]
theorem Vw{h:Gr}(h0:¬h.aH<0)(h1:h.e_<1∨6<h.e_):wI h=2:=by rw [wI,ay h0,aG h1]
theorem Vx{h:Gr}(h0:¬h.aH<0)(h1:¬(h.e_<1∨6<h.e_)):wI h=0:=by rw [wI,ay h0,ay h1]
theorem Vy{s:ByteArray}{i:Nat}(h:ya s i<32∨ya s i=127):tP s i=6:=aG h
theorem afx{s:ByteArray}{i:Nat}(h:¬(ya s i<32∨ya s i=127)):tP s i=0:=ay h
theorem Vz{x:ef}(h:x.mE<0∨2<x.mE):sL x=2:=aG h
theorem afy{x:ef}(h:¬(x.mE<0∨2<x.mE))(h1:256<x.gC.size):sL x=5:=by rw [sL,ay h,aG h1]
theorem VB{x:ef}(h:¬(x.mE<0∨2<x.mE))(h1:¬256<x.gC.size)(h2:dw (tP x.gC) x.gC.size 0≠0):sL x=6:=by rw [sL,ay h,ay h1,aG h2]
theorem afz{x:ef}(h:¬(x.mE<0∨2<x.mE))(h1:¬256<x.gC.size)(h2:dw (tP x.gC) x.gC.size 0=0)(h3:G3 x.gC=true∧x.mE=1):sL x=3:=by rw [sL,ay h,ay h1,ay  oM,aG h3]
theorem VC{x:ef}(h:¬(x.mE<0∨2<x.mE))(h1:¬256<x.gC.size)(h2:dw (tP x.gC) x.gC.size 0=0)(h3:¬(G3 x.gC=true∧x.mE=1)):sL x=0:=by rw [sL,ay h,ay h1,ay  oM,ay h3]
theorem afA{l:List Hd}(h:l.length=0):pb l=4:=aG h
theorem afB{l:List Hd}(h:¬l.length=0)(h1:10<l.length):pb l=9:=by rw [pb,ay h,aG h1]
theorem El{l:List Hd}(h:¬l.length=0)(h1:¬10<l.length):pb l=dw (hF l) l.length 0:=by rw [pb,ay h,ay h1]
theorem afC{l:List Gr}(h:8<l.length):u4 l=9:=aG h
theorem OO{l:List Gr}(h:¬8<l.length):u4 l=dw (gF l) l.length 0:=ay h
theorem afD{l:List ef}(h:4<l.length):pd l=9:=aG h
theorem afE{l:List ef}(h:¬4<l.length)(h1:dw (sF l) l.length 0≠0):pd l=dw (sF l) l.length 0:=by rw [pd,ay h,aG h1]
theorem afF{l:List ef}(h:¬4<l.length)(h1:dw (sF l) l.length 0=0)(h2:0<l.length∧Ac (aa l (l.length-1))):pd l=3:=by rw [pd,ay h,ay  oM,aG h2]
theorem VD{l:List ef}(h:¬4<l.length)(h1:dw (sF l) l.length 0=0)(h2:¬(0<l.length∧Ac (aa l (l.length-1)))):pd l=0:=by rw [pd,ay h,ay  oM,ay h2]
theorem afG{n:Int}(h:(if n<0 then(18:Int)else 0)≠0):n<0:=by
 by_cases h0:n<0
 ·exact h0
 ·rw [ay h0]at h;exact absurd rfl h
theorem afH{n:Int}(h:(if n<0 then(18:Int)else 0)=0):¬n<0:=by
 by_cases h0:n<0
 ·rw [aG h0]at h;cases h
 ·exact h0
theorem VE{l:List Hd}{i:Nat}{v:Int}(h:¬l.length=0)(h1:¬10<l.length)(hE:dw (hF l) l.length 0=dw (hF l) (l.length-i) i)(hi:i<l.length)(hv:hF l i=v)(h0:v≠0):pb l=v:=by
 rw [El h h1,hE,z7 hi (by rw [hv];exact h0),hv]
theorem OP{l:List Gr}{i:Nat}{v:Int}(h:¬8<l.length)(hE:dw (gF l) l.length 0=dw (gF l) (l.length-i) i)(hi:i<l.length)(hv:wI (aa l i)=v)(h0:v≠0):u4 l=v:=by
 rw [OO h,hE,z7 hi (by rw [gF,hv];exact h0),gF,hv]
theorem afI{l:List ef}{i:Nat}{v:Int}(h:¬4<l.length)(hE:dw (sF l) l.length 0=dw (sF l) (l.length-i) i)(hi:i<l.length)(hv:sL (aa l i)=v)(h0:v≠0):pd l=v:=by
 have e:dw (sF l) l.length 0=v:=by rw [hE,z7 hi (by rw [sF,hv];exact h0),sF,hv]
 rw [afE h (by rw [e];exact h0),e]
theorem KR{f:Nat→Int}{n i:Nat}(h:n≤i):dw f (n-i) i=0:=by rw [Nat.sub_eq_zero_of_le h];rfl
theorem VF{h:Hd}(h0:mF h=0):0≤h.aH∧h.aH≤127∧0≤h.tO∧h.tO≤2:=by
 have hb:=KQ h.step h.bU h.bH
 unfold mF at h0
 rw [←Hd.aH]at hb
 split at h0
 ·cases h0
 ·split at h0
  ·cases h0
  ·omega
theorem afJ{l:List Hd}{i:Nat}(h:mF (aa l i)≠0):hF l i=mF (aa l i):=by rw [hF,aG h]
theorem afK{l:List Hd}{i:Nat}(h:mF (aa l i)=0)(h1:0<i∧(aa l i).aH≤(aa l (i-1)).aH):hF l i=25:=by rw [hF,ay  oM,aG h1]
theorem afL{l:List Hd}{i:Nat}(h:mF (aa l i)=0)(h1:¬(0<i∧(aa l i).aH≤(aa l (i-1)).aH)):hF l i=0:=by rw [hF,ay  oM,ay h1]
def OQ(l:List Hd)(i:Nat):Int:=if i=0 then-1 else(aa l (i-1)).aH
structure u5 where
 bg:Int
 aH:Int
 bh:Int
 e_:Int
 iH:Int
 fo:Int
 dM:Int
 gb:Int
 jh:Int
 jQ:Int
instance:Inhabited u5:=⟨⟨0,0,0,0,0,0,0,0,0,0⟩⟩
structure bz where
 n:u5
 hs:List Hd
 gs:List Gr
 ls:List ef
def bz.zero:bz:=⟨default, [], [], []⟩
structure j9 where
 HA:Option Addr
 hc:Nat
 GA:Option Addr
 gc:Nat
 LA:Option Addr
 lc:Nat
def KS(x:bz)(p:j9):List Value:= [.int .i64 x.n.bg,.int .i64 x.n.aH,.int .i64 x.n.bh,.int .i64 x.n.e_,.int .i64 x.n.iH,.slice p.HA x.hs.length p.hc,.slice p.GA x.gs.length p.gc,.int .i64 x.n.fo,.int .i64 x.n.dM,.int .i64 x.n.gb,.slice p.LA x.ls.length p.lc,.int .i64 x.n.jh,.int .i64 x.n.jQ]
def lM(x:bz)(p:j9):Value:= .agg (KS x p).toArray
structure iP(w:World)(x:bz)(p:j9):Prop where
 h:Rd w p.HA 5 (x.hs.map Hd.enc)
 g:Rd w p.GA 5 (x.gs.map Gr.enc)
 l:Rd w p.LA 2 (x.ls.map ef.enc)
theorem iP.az{w w':World}{x:bz}{p:j9}(h:iP w x p)(hk:aU nX w w'):iP w' x p:=⟨h.h.az hk,h.g.az hk,h.l.az hk⟩
def bz.dX(x:bz):Prop:=x.hs.length≤100000∧x.gs.length≤100000∧x.ls.length≤100000∧x.n.fo≤9223372036854775807
def tQ(a:Int):Int:=if 0≤a∧a/16%2=1 then 16 else 0
def eP(k:Int):Prop:=k=2∨k=3∨k=4
instance(k:Int):Decidable (eP k):=by unfold eP;infer_instance
def gZ(x:bz):bz:=
 if eP x.n.bh then⟨⟨x.n.bg,x.n.aH,x.n.bh,if x.n.bh=3 then 0 else x.n.e_,if x.n.bh=3 then 0 else x.n.iH,if x.n.bh=4 then 0 else tQ x.n.fo,0,x.n.gb,0,0⟩, [], [], []⟩else x
def p9(x:bz)(p:j9):j9:=if eP x.n.bh then⟨none,0,none,0,none,0⟩else p
theorem G4{x:bz}(h:¬eP x.n.bh):gZ x=x:=ay h
theorem VG{x:bz}{p:j9}(h:¬eP x.n.bh):p9 x p=p:=ay h
theorem VH{x:bz}{p:j9}(h:¬eP x.n.bh):lM (gZ x) (p9 x p)=lM x p:=by rw [G4 h,VG h]
theorem afM{x:bz}{p:j9}(h:x.n.bh=2):lM (gZ x) (p9 x p)= .agg #[.int .i64 x.n.bg,.int .i64 x.n.aH,.int .i64 x.n.bh,.int .i64 x.n.e_,.int .i64 x.n.iH,.slice none 0 0,.slice none 0 0,.int .i64 (tQ x.n.fo),.int .i64 0,.int .i64 x.n.gb,.slice none 0 0,.int .i64 0,.int .i64 0]:=by
 have hb:eP x.n.bh:= .inl h
 have h3:¬x.n.bh=3:=oM
 have h4:¬x.n.bh=4:=oM
 simp only [gZ,p9,aG hb,ay h3,ay h4];rfl
theorem afN{x:bz}{p:j9}(h:x.n.bh=3):lM (gZ x) (p9 x p)= .agg #[.int .i64 x.n.bg,.int .i64 x.n.aH,.int .i64 x.n.bh,.int .i64 0,.int .i64 0,.slice none 0 0,.slice none 0 0,.int .i64 (tQ x.n.fo),.int .i64 0,.int .i64 x.n.gb,.slice none 0 0,.int .i64 0,.int .i64 0]:=by
 have hb:eP x.n.bh:= .inr (.inl h)
 have h3:x.n.bh=3:=h
 have h4:¬x.n.bh=4:=oM
 simp only [gZ,p9,aG hb,aG h3,ay h4];rfl
theorem afO{x:bz}{p:j9}(h:x.n.bh=4):lM (gZ x) (p9 x p)= .agg #[.int .i64 x.n.bg,.int .i64 x.n.aH,.int .i64 x.n.bh,.int .i64 x.n.e_,.int .i64 x.n.iH,.slice none 0 0,.slice none 0 0,.int .i64 0,.int .i64 0,.int .i64 x.n.gb,.slice none 0 0,.int .i64 0,.int .i64 0]:=by
 have hb:eP x.n.bh:= .inr (.inr h)
 have h3:¬x.n.bh=3:=oM
 have h4:x.n.bh=4:=h
 simp only [gZ,p9,aG hb,ay h3,aG h4];rfl
theorem iP.KT{w:World}{x:bz}{p:j9}(h:iP w x p):iP w (gZ x) (p9 x p):=by
 by_cases hb:eP x.n.bh
 ·rw [gZ,p9,aG hb,aG hb];exact⟨.inl rfl,.inl rfl,.inl rfl⟩
 ·rw [G4 hb,VG hb];exact h
theorem afP{a:Int}(h:a<0∨¬a/16%2=1):(0:Int)=tQ a:=by rw [tQ,ay  oM]
theorem afQ{a:Int}(h:0≤a)(h1:a≤9223372036854775807):KO .i64 a 16=tQ a:=by
 obtain⟨n,rfl⟩:∃n:Nat,a=(n:Int):=⟨a.toNat,oM⟩
 have hn:n<2^63:=oM
 have e:n&&&16=n/16%2*16:=by
  apply Nat.eq_of_testBit_eq
  intro i
  rw [Nat.testBit_and,show(16:Nat)=2^4 from rfl,Nat.testBit_two_pow]
  by_cases hi:4=i
  ·subst hi
   rcases Nat.mod_two_eq_zero_or_one (n/2^4)with h2|h2
   ·rw [h2];simp [Nat.testBit_eq_decide_div_mod_eq,h2]
   ·rw [h2];simp [Nat.testBit_eq_decide_div_mod_eq,h2]
  ·rcases Nat.mod_two_eq_zero_or_one (n/2^4)with h2|h2
   ·rw [h2];simp [hi]
   ·rw [h2,Nat.one_mul,Nat.testBit_two_pow];simp [hi]
 have h2:(BitVec.ofInt 64 (n:Int)&&&BitVec.ofInt 64 16:BitVec 64).toNat=n/16%2*16:=by
  rw [BitVec.toNat_and,BitVec.toNat_ofInt,BitVec.toNat_ofInt]
  have h3:((n:Int)%((2^64:Nat):Int)).toNat=n:=oM
  have h4:((16:Int)%((2^64:Nat):Int)).toNat=16:=by decide
  rw [h3,h4,e]
 show IntKind.wrap .i64 (((BitVec.ofInt 64 (n:Int)&&&BitVec.ofInt 64 16:BitVec 64).toNat:Nat):Int)=_
 rw [h2,gn,tQ]
 split<;>omega
def iw{α:Type}(r:α→α→Bool):List α→List α→Bool
 | [], []=>true
 |a::x,b::y=>r a b&&iw r x y
 |_,_=>false
theorem VI{α:Type}{r:α→α→Bool}:∀{x y:List α},iw r x y=true→x.length=y.length
 | [], [],_=>rfl
 |a::x,b::y,h=>by
  simp only [iw,ft]at h
  simp [VI h.2]
 | [],_::_,h=>by cases h
 |_::_, [],h=>by cases h
theorem OR{α:Type}{r:α→α→Bool}{x y:List α}(h:x.length≠y.length):iw r x y=false:=by
 cases e:iw r x y
 ·rfl
 ·exact absurd (VI e) h
theorem KU{α:Type}{r:α→α→Bool}(hr:∀a,r a a=true):∀x:List α,iw r x x=true
 | []=>rfl
 |a::x=>by rw [iw,hr a,KU hr x];rfl
theorem OS{α:Type} [Inhabited α]{r:α→α→Bool}{x y:List α}{k:Nat}(hk:k<x.length)(hl:x.length=y.length)(h:r (aa x k) (aa y k)=true):iw r (x.drop k) (y.drop k)=iw r (x.drop (k+1)) (y.drop (k+1)):=by
 rw [nD hk,nD (show k<y.length by omega),iw,h];rfl
theorem OT{α:Type} [Inhabited α]{r:α→α→Bool}{x y:List α}{k:Nat}(hk:k<x.length)(hl:x.length=y.length)(h:r (aa x k) (aa y k)=false):iw r (x.drop k) (y.drop k)=false:=by
 rw [nD hk,nD (show k<y.length by omega),iw,h];rfl
theorem OU{α:Type}{r:α→α→Bool}{x y:List α}{k:Nat}(hk:x.length≤k)(hl:x.length=y.length):iw r (x.drop k) (y.drop k)=true:=by
 rw [sA hk,sA  oM];rfl
def wJ(a b:Hd):Bool:=a.step==b.step&&(a.bU==b.bU&&(a.bH==b.bH&&(a.ey==b.ey&&(a.tO==b.tO))))
def wK(a b:Gr):Bool:=a.step==b.step&&(a.bU==b.bU&&(a.bH==b.bH&&(a.e_==b.e_&&(a.OM==b.OM))))
def yb(a b:ef):Bool:=ga a.gC b.gC&&(a.mE==b.mE)
theorem afR(a:Hd):wJ a a=true:=by simp [wJ]
theorem afS(a:Gr):wK a a=true:=by simp [wK]
theorem afT(a:ef):yb a a=true:=by simp [yb,ga]
def jR(x y:bz):Prop:=x.n.bh=y.n.bh∧(x.n.e_=y.n.e_∧x.n.iH=y.n.iH)∧x.n.fo=y.n.fo∧x.n.dM=y.n.dM∧x.n.gb=y.n.gb∧x.n.jh=y.n.jh∧x.n.jQ=y.n.jQ∧
 iw wJ x.hs y.hs=true∧iw wK x.gs y.gs=true∧iw yb x.ls y.ls=true
instance(x y:bz):Decidable (jR x y):=by unfold jR;infer_instance
theorem KV(x:bz):jR x x:=⟨rfl,⟨rfl,rfl⟩,rfl,rfl,rfl,rfl,rfl,KU afR _,KU afS _,KU afT _⟩
theorem KW{b:Bool}(h:(!b)=true):b=false:=by simpa using h
theorem G5{b:Bool}(h:(!b)=false):b=true:=by simpa using h
theorem Em{a b:Int}(h:(a==b)=true):a=b:=by simpa using h
theorem afU{x y:bz}(h:(x.n.bh==y.n.bh)=false):¬jR x y:=fun g=>by simp [g.1]at h
theorem afV{x y:bz}(h:(x.n.e_==y.n.e_&&(x.n.iH==y.n.iH))=false):¬jR x y:=fun g=>by simp [g.2.1]at h
theorem afW{x y:bz}(h:(x.n.fo==y.n.fo)=false):¬jR x y:=fun g=>by simp [g.2.2.1]at h
theorem afX{x y:bz}(h:(x.n.dM==y.n.dM)=false):¬jR x y:=fun g=>by simp [g.2.2.2.1]at h
theorem afY{x y:bz}(h:(x.n.gb==y.n.gb)=false):¬jR x y:=fun g=>by simp [g.2.2.2.2.1]at h
theorem afZ{x y:bz}(h:(x.n.jh==y.n.jh)=false):¬jR x y:=fun g=>by simp [g.2.2.2.2.2.1]at h
theorem af0{x y:bz}(h:(x.n.jQ==y.n.jQ)=false):¬jR x y:=fun g=>by simp [g.2.2.2.2.2.2.1]at h
theorem af1{x y:bz}(h:iw wJ x.hs y.hs=false):¬jR x y:=fun g=>by rw [g.2.2.2.2.2.2.2.1]at h;cases h
theorem af2{x y:bz}(h:iw wK x.gs y.gs=false):¬jR x y:=fun g=>by rw [g.2.2.2.2.2.2.2.2.1]at h;cases h
theorem af3{x y:bz}(h0:(x.n.bh==y.n.bh)=true)(h1:(x.n.e_==y.n.e_&&(x.n.iH==y.n.iH))=true)(h2:(x.n.fo==y.n.fo)=true)(h3:(x.n.dM==y.n.dM)=true)(h4:(x.n.gb==y.n.gb)=true)(h5:(x.n.jh==y.n.jh)=true)(h6:(x.n.jQ==y.n.jQ)=true)
  (h7:iw wJ x.hs y.hs=true)(h8:iw wK x.gs y.gs=true):decide (jR x y)=iw yb x.ls y.ls:=by
 rw [sD,iK]
 exact⟨fun h=>h.2.2.2.2.2.2.2.2.2,fun h=>⟨Em h0,by simpa using h1,Em h2,Em h3,Em h4,Em h5,Em h6,h7,h8,h⟩⟩
def VJ(x y:bz):Prop:=(x.n.bg=y.n.bg∧x.n.aH=y.n.aH)∧jR x y
instance(x y:bz):Decidable (VJ x y):=by unfold VJ;infer_instance
def fp(a b:Int):Prop:= -1≤a∧a≤8∧0≤b∧b≤3
instance(a b:Int):Decidable (fp a b):=by unfold fp;infer_instance
def lN(x:u5):Prop:=0≤x.bg∧x.bg≤99∧0≤x.aH∧x.aH≤1073741824
instance(x:u5):Decidable (lN x):=by unfold lN;infer_instance
def u6(x:u5):Prop:=(0≤x.fo∧x.fo≤31)∧(0≤x.dM∧x.dM≤4)∧(0≤x.gb∧x.gb≤9)∧(0≤x.jh∧x.jh≤2)∧(0≤x.jQ∧x.jQ≤2)
instance(x:u5):Decidable (u6 x):=by unfold u6;infer_instance
def mG(x:bz):Int:=if pb x.hs≠0 then pb x.hs else if u4 x.gs≠0 then u4 x.gs else pd x.ls
def G6(x:u5):Int:=if u6 x then 0 else 2
def gx(x:bz):Int:=
 if¬lN x.n then 2 else if x.n.bh<1∨4<x.n.bh then 11 else if¬jR x (gZ x)then 3 else if x.n.bh≠3∧¬fp x.n.e_ x.n.iH then 17
 else if x.n.bh=1∧mG x≠0 then mG x else G6 x.n
theorem af4{x:bz}(h:¬lN x.n):gx x=2:=by rw [gx,aG h]
theorem af5{x:bz}(h:lN x.n)(h1:x.n.bh<1∨4<x.n.bh):gx x=11:=by rw [gx,ay (by simpa using h),aG h1]
theorem af6{x:bz}(h:lN x.n)(h1:¬(x.n.bh<1∨4<x.n.bh))(h2:¬jR x (gZ x)):gx x=3:=by rw [gx,ay (by simpa using h),ay h1,aG h2]
theorem af7{x:bz}(h:lN x.n)(h1:¬(x.n.bh<1∨4<x.n.bh))(h2:jR x (gZ x))(h3:x.n.bh≠3∧¬fp x.n.e_ x.n.iH):gx x=17:=by rw [gx,ay (by simpa using h),ay h1,ay (by simpa using h2),aG h3]
theorem OV{x:bz}(h:lN x.n)(h1:¬(x.n.bh<1∨4<x.n.bh))(h2:jR x (gZ x))(h3:¬(x.n.bh≠3∧¬fp x.n.e_ x.n.iH))(h4:x.n.bh=1∧mG x≠0):gx x=mG x:=by rw [gx,ay (by simpa using h),ay h1,ay (by simpa using h2),ay h3,aG h4]
theorem yd{x:bz}(h:lN x.n)(h1:¬(x.n.bh<1∨4<x.n.bh))(h2:jR x (gZ x))(h3:¬(x.n.bh≠3∧¬fp x.n.e_ x.n.iH))(h4:¬(x.n.bh=1∧mG x≠0)):gx x=G6 x.n:=by rw [gx,ay (by simpa using h),ay h1,ay (by simpa using h2),ay h3,ay h4]
theorem bz.dX.KT{x:bz}(h:x.dX):(gZ x).dX:=by
 obtain⟨h1,h2,h3,h4⟩:=h
 unfold gZ
 split
 ·refine⟨gA _,gA _,gA _,?_⟩
  show(if x.n.bh=4 then(0:Int)else tQ x.n.fo)≤9223372036854775807
  split
  ·decide
  ·unfold tQ;split<;>decide
 ·exact⟨h1,h2,h3,h4⟩
theorem VK(x:u5):Ky.lL [if x.bg<0∨99<x.bg then 2 else 0,if x.aH<0∨1073741824<x.aH then 2 else 0]=if lN x then 0 else 2:=by
 by_cases h1:x.bg<0∨99<x.bg
 ·rw [aG h1,ay (show¬lN x by unfold lN;omega)];rfl
 ·rw [ay h1]
  by_cases h2:x.aH<0∨1073741824<x.aH
  ·rw [aG h2,ay (show¬lN x by unfold lN;omega)];rfl
  ·rw [ay h2,aG (show lN x by unfold lN;omega)];rfl
theorem af8(b:Prop) [Decidable b](l:List Int):Ky.lL ((if b then 2 else 0)::l)=if b then 2 else Ky.lL l:=by
 by_cases h:b
 ·rw [aG h,aG h];rfl
 ·rw [ay h,ay h];rfl
theorem Eo(x:u5):Ky.lL [if x.fo<0∨31<x.fo then 2 else 0,if x.dM<0∨4<x.dM then 2 else 0,if x.gb<0∨9<x.gb then 2 else 0,if x.jh<0∨2<x.jh then 2 else 0,if x.jQ<0∨2<x.jQ then 2 else 0]=G6 x:=by
 simp only [af8,G6]
 by_cases h:u6 x
 ·rw [aG h]
  unfold u6 at h
  rw [ay  oM,ay  oM,ay  oM,ay  oM,ay  oM];rfl
 ·rw [ay h]
  unfold u6 at h
  by_cases h1:x.fo<0∨31<x.fo
  ·rw [aG h1]
  ·rw [ay h1]
   by_cases h2:x.dM<0∨4<x.dM
   ·rw [aG h2]
   ·rw [ay h2]
    by_cases h3:x.gb<0∨9<x.gb
    ·rw [aG h3]
    ·rw [ay h3]
     by_cases h4:x.jh<0∨2<x.jh
     ·rw [aG h4]
     ·rw [ay h4,aG  oM]
theorem Ep(x:bz):Ky.lL [pb x.hs,u4 x.gs,pd x.ls]=mG x:=by
 rw [mG,Ky.lL,Ky.lL,Ky.lL]
 by_cases h3:pd x.ls=0
 ·rw [h3];rfl
 ·rw [aG h3]
theorem OW{x:u5}(h:u6 x):G6 x=0:=aG h
namespace bV
section
variable{α:Type}{p:α→Bool}
def eI(p:α→Bool):List α→Nat
 | []=>0
 |x::r=>if p x=true then 0 else eI p r+1
def lO(p:α→Bool)(l:List α):Int:=if eI p l<l.length then(eI p l:Int)else-1
theorem yg [Inhabited α]{l:List α}{k:Nat}(hk:k<l.length)(h:eI p l=k+eI p (l.drop k))(hp:p (aa l k)=false):eI p l=(k+1)+eI p (l.drop (k+1)):=by
 rw [nD hk,eI,ay (by simp [hp])]at h
 omega
theorem yh [Inhabited α]{l:List α}{k:Nat}(hk:k<l.length)(h:eI p l=k+eI p (l.drop k))(hp:p (aa l k)=true):lO p l=(k:Int):=by
 rw [nD hk,eI,aG hp,Gk]at h
 rw [lO,h,aG hk]
theorem yi{l:List α}{k:Nat}(hk:l.length≤k)(h:eI p l=k+eI p (l.drop k)):lO p l= -1:=by
 rw [lO,ay  oM]
theorem VV:∀(l:List α),eI p l≤l.length
 | []=>cm _
 |x::r=>by rw [eI];have:=VV r;split<;>simp<;>omega
def aQ(p:α→Bool)(l:List α):List α:=l.filter fun x=> !p x
theorem VW:∀(l:List α),eI p l=l.length→aQ p l=l
 | [],_=>rfl
 |x::r,h=>by
  rw [eI]at h
  by_cases hx:p x=true
  ·rw [aG hx]at h;simp at h
  ·rw [ay hx]at h
   have:=VW r (by simp at h;omega)
   simp only [aQ]at this⊢
   rw [DW,aG (by simp [hx]),this]
theorem VX{l:List α}(h:lO p l= -1):aQ p l=l:=by
 refine VW l ?_
 have:=VV (p:=p) l
 unfold lO at h
 split at h<;>omega
theorem VY [Inhabited α]:∀(l:List α),eI p l<l.length→aQ p (l.take (eI p l+1))=l.take (eI p l)∧p (aa l (eI p l))=true
 | [],h=>by simp at h
 |x::r,h=>by
  rw [eI]at h⊢
  by_cases hx:p x=true
  ·rw [aG hx];simp [aQ,hx,aa]
  ·rw [ay hx]at h⊢
   obtain⟨h1,h2⟩:=VY r (by simp at h;omega)
   refine⟨?_,?_⟩
   ·rw [Gg,Gg,aQ,DW,aG (by simp [hx])]
    rw [aQ]at h1;rw [h1]
   ·simpa [aa]using h2
theorem VZ [Inhabited α]{l:List α}(h:lO p l≠-1):∃i:Nat,i<l.length∧lO p l=(i:Int)∧aQ p (l.take (i+1))=l.take i∧p (aa l i)=true:=by
 unfold lO at h⊢
 split at h
 ·rename_i bG
  obtain⟨h1,h2⟩:=VY l bG
  exact⟨eI p l,bG,by rw [aG bG],h1,h2⟩
 ·exact absurd rfl h
def mH(p:α→Bool)(l m:List α)(j:Nat):List α:=aQ p (l.take j)++m++l.drop j
theorem OZ{l m:List α}{j:Nat}(hj:j≤l.length)(hm:(aQ p (l.take j)).length+m.length=j):(mH p l m j).length=l.length:=by
 simp only [mH,aP,pM];omega
theorem agk [Inhabited α]{l m:List α}{j:Nat}(hj:j<l.length)(hm:(aQ p (l.take j)).length+m.length=j):aa (mH p l m j) j=aa l j:=by
 have e:(aQ p (l.take j)++m).length=j:=by rw [aP];exact hm
 simp only [mH,aa,zy]
 rw [uC  oM,e]
 simp
theorem O0 [Inhabited α]{l:List α}{j:Nat}(hj:j<l.length)(h:p (aa l j)=true):aQ p (l.take (j+1))=aQ p (l.take j):=by
 rw [o6 hj,aQ,uH];simp [aQ,h]
theorem O6 [Inhabited α]{l:List α}{j:Nat}(hj:j<l.length)(h:p (aa l j)=false):aQ p (l.take (j+1))=aQ p (l.take j)++ [aa l j]:=by
 rw [o6 hj,aQ,uH];simp [aQ,h]
theorem agl [Inhabited α]{l m:List α}{j:Nat}(hj:j<l.length)(h:p (aa l j)=true):mH p l m j=mH p l (m++ [aa l j]) (j+1):=by
 rw [mH,mH,O0 hj h,nD hj];simp
theorem agm [Inhabited α]{l m:List α}{x:α}{j:Nat}(hj:j<l.length)(h:p (aa l j)=false):(mH p l (x::m) j).set (aQ p (l.take j)).length (aa l j)=mH p l (m++ [aa l j]) (j+1):=by
 rw [mH,mH,O6 hj h,nD hj,bP,zG _ _  oM,zH]
 simp
theorem agn [Inhabited α]{l:List α}{i:Nat}(hi:i<l.length)(h1:aQ p (l.take (i+1))=l.take i):mH p l [aa l i] (i+1)=l:=by
 rw [mH,h1,bP,List.singleton_append,←nD hi,rk]
theorem ago{l m:List α}{j:Nat}(hj:l.length≤j):(mH p l m j).take (aQ p l).length=aQ p l:=by
 rw [mH,gU hj,sA hj,gT,List.take_left]
theorem agp{enc:α→List Value}{l m:List α}{j:Nat}{zs:List (List Value)}(hj:l.length≤j):(((mH p l m j).map enc).take (aQ p (l.take j)).length++zs).take (aQ p l).length=(aQ p l).map enc:=by
 rw [show l.take j=l from gU hj]
 have h1:(aQ p l).length≤(mH p l m j).length:=by
  rw [mH,gU hj];simp
 rw [Gi (by rw [fL,bD];omega),List.take_take,Nat.min_self,←xW,ago hj]
theorem agq{l:List α}:(aQ p l).length≤l.length:=List.length_filter_le _ _
end
end bV
section
variable{α:Type} [Inhabited α]
def wO(r:α→α→Bool)(l:List α):Nat→List α
 |0=> []
 |k+1=>wO r l k++(if k=0∨r (aa l k) (aa l (k-1))=false then [aa l k]else [])
theorem agr{r:α→α→Bool}{l:List α}{k:Nat}(h:k=0∨r (aa l k) (aa l (k-1))=false):wO r l (k+1)=wO r l k++ [aa l k]:=by rw [wO,aG h]
theorem O7{r:α→α→Bool}{l:List α}:∀{k:Nat},k≤l.length→(∀j,j<k→j≠0→r (aa l j) (aa l (j-1))=false)→wO r l k=l.take k
 |0,_,_=>by simp [wO]
 |k+1,hk,h=>by
  rw [agr (by by_cases h0:k=0;exact .inl h0;exact .inr (h k  oM h0)),O7  oM (fun j hj=>h j  oM),o6  oM]
def G9(key:α→Int)(a b:α):Bool:=decide (key a-key b<0)
end
def nm(h:Hd):Int:=if h.aH<0 then 0 else h.aH
def BV(h:Hd):Bool:=decide (h.aH<0)
def K2(a b:Hd):Bool:=nm a==nm b
theorem Ae{h:Hd}(h0:¬h.aH<0):nm h=h.aH:=by rw [nm,ay h0]
def Ex(l:List Hd):List Hd:=wO K2 (aZ.iO (G9 nm) (bV.aQ BV l) (bV.aQ BV l).length) (bV.aQ BV l).length
structure jz(l:List Hd):Prop where
 up:∀i,0<i→i<l.length→(aa l (i-1)).aH<(aa l i).aH
 ok:∀i,i<l.length→mF (aa l i)=0
theorem jz.lt{l:List Hd}(h:jz l){i:Nat}:∀{j:Nat},i<j→j<l.length→(aa l i).aH<(aa l j).aH
 |j+1,j7,hj=>by
  have h1:=h.up (j+1)  oM hj
  rw [DV]at h1
  by_cases e:i=j
  ·rw [e];exact h1
  ·have:=h.lt (i:=i) (j:=j)  oM oM
   omega
theorem jz.aH{l:List Hd}(h:jz l){x:Hd}(hx:x∈l):¬x.aH<0:=by
 obtain⟨i,hi,rfl⟩:=fX hx
 have:=(VF (h.ok i hi)).1
 simp only [aa,zy,j4 hi,Gf]at this
 omega
theorem jz.aQ{l:List Hd}(h:jz l):bV.aQ BV l=l:=by
 rw [bV.aQ,J4]
 intro a ha
 have:=h.aH ha
 simpa [BV]using this
theorem jz.ags{l:List Hd}(h:jz l):aZ.c6 (G9 nm) l:=by
 refine zB.2 fun i j hi hj j7=>?_
 have h1:=h.lt j7 hj
 have e1:aa l i=l[i]:=by simp [aa,hi]
 have e2:aa l j=l[j]:=by simp [aa,hj]
 rw [e1,e2]at h1
 simp only [G9,wj]
 rw [Ae (h.aH (Bz hj)),Ae (h.aH (Bz hi))]
 omega
theorem jz.wO{l:List Hd}(h:jz l):wO K2 l l.length=l:=by
 rw [O7 (cm _),zC]
 intro j hj h0
 have h1:=h.up j  oM hj
 have e1:=Ae (h.aH (aB hj))
 have e2:=Ae (h.aH (aB (show j-1<l.length by omega)))
 simp only [K2,ku,ne_eq]
 omega
theorem jz.tT{l:List Hd}(h:jz l):Ex l=l:=by
 rw [Ex,h.aQ,aZ.Vk h.ags,h.wO]
def V0(l:List ef):Nat→Nat
 |0=>0
 |n+1=>if Ac (aa l n)then V0 l n else n+1
def V1(l:List ef):List ef:=l.take (V0 l l.length)
def O_(x:bz):bz:=
 if x.n.bh<1∨4<x.n.bh then x else⟨(gZ x).n,Ex (gZ x).hs,(gZ x).gs,V1 (gZ x).ls⟩
def rH(n:Int):Nat→Int
 |0=>n
 |k+1=>rH n k/2
def BW(n:Int):Nat→Int
 |0=>n
 |k+1=>BW n k+rH n (k+1)
theorem Ey{n:Int}(h:0≤n∧n≤3870720):∀k,0≤rH n k∧rH n k≤3870720
 |0=>h
 |k+1=>by
  have:=Ey h k
  rw [rH];omega
theorem V2{n:Int}(h:0≤n∧n≤3870720):∀k,0≤BW n k∧BW n k≤3870720*(k+1)
 |0=>by rw [BW];omega
 |k+1=>by
  have h1:=V2 h k
  have h2:=Ey h (k+1)
  rw [BW];omega
def fq(a b:Int):Int:=BW (rH 3870720 (a+1).toNat) b.toNat
theorem K3{a:Int}(h: -1≤a∧a≤8):(3870720:Int).fdiv (2^(min (a+1).toNat IntKind.i64.bits))=rH 3870720 (a+1).toNat:=by
 have:a= -1∨a=0∨a=1∨a=2∨a=3∨a=4∨a=5∨a=6∨a=7∨a=8:=oM
 rcases this with rfl|rfl|rfl|rfl|rfl|rfl|rfl|rfl|rfl|rfl<;>rfl
theorem agt{x:bz}(h:gx x=0)(h3:x.n.bh≠3):fp x.n.e_ x.n.iH:=by
 by_cases hv:fp x.n.e_ x.n.iH
 ·exact hv
 ·exfalso
  unfold gx at h
  split at h
  ·cases h
  ·split at h
   ·cases h
   ·split at h
    ·cases h
    ·rw [aG ⟨h3,hv⟩]at h;cases h
theorem agu{α:Type}{enc:α→List Value}{w:World}{A:Option Addr}{s m:Nat}{l:List α}(h:Rd w A s (l.map enc)):Rd w A s ((l.take m).map enc):=by
 rw [xW];exact h.take m
structure Up(l:List Hd):Prop where
 up:∀i,0<i→i<l.length→(aa l (i-1)).aH<(aa l i).aH
 ok:∀x∈l,¬x.aH<0
theorem Up.lt{l:List Hd}(h:Up l){i:Nat}:∀{j:Nat},i<j→j<l.length→(aa l i).aH<(aa l j).aH
 |j+1,j7,hj=>by
  have h1:=h.up (j+1)  oM hj
  rw [DV]at h1
  by_cases e:i=j
  ·rw [e];exact h1
  ·have:=h.lt (i:=i) (j:=j)  oM oM
   omega
theorem Up.tT{l:List Hd}(h:Up l):Ex l=l:=by
 have e1:bV.aQ BV l=l:=by
  rw [bV.aQ,J4]
  intro a ha
  have:=h.ok a ha
  simpa [BV]using this
 have e2:aZ.c6 (G9 nm) l:=by
  refine zB.2 fun i j hi hj j7=>?_
  have h1:=h.lt j7 hj
  have q1:aa l i=l[i]:=by simp [aa,hi]
  have q2:aa l j=l[j]:=by simp [aa,hj]
  rw [q1,q2]at h1
  simp only [G9,wj]
  rw [Ae (h.ok _ (Bz hj)),Ae (h.ok _ (Bz hi))]
  omega
 rw [Ex,e1,aZ.Vk e2,O7 (cm _),zC]
 intro j hj h0
 have h1:=h.up j  oM hj
 have q1:=Ae (h.ok _ (aB hj))
 have q2:=Ae (h.ok _ (aB (show j-1<l.length by omega)))
 simp only [K2,ku,ne_eq]
 omega
theorem iP.tT{w:World}{x:bz}{p:j9}{O:Option Addr}{co:Nat}(h:iP w x p)(hk:1≤x.n.bh∧x.n.bh≤4)(ho:Rd w O 5 ((O_ x).hs.map Hd.enc)):iP w (O_ x) ⟨O,co,(p9 x p).GA,(p9 x p).gc,(p9 x p).LA,(p9 x p).lc⟩:=by
 have hs:=h.KT
 have e1:O_ x=⟨(gZ x).n,Ex (gZ x).hs,(gZ x).gs,V1 (gZ x).ls⟩:=ay  oM
 refine⟨ho,?_,?_⟩
 ·rw [e1];exact hs.g
 ·rw [e1];exact agu hs.l
namespace Hr
def PC(g s:Nat)(ls:List (List Value)):ak:=
 .any (fun k=>g=k) (fun w=>g<w.heap.size∧Rd w (some ⟨g,0,none⟩) s ls) (fun w h b hb=>hb▸h.1) (fun w w' h hk=>by
  have hg:=hk g rfl
  have bG:g<w'.heap.size:=by
   rcases jo g w'.heap.size with h'|h'
   ·exact h'
   ·rw [DR h',NS h.1]at hg;cases hg
  refine⟨bG,?_⟩
  rcases h.2 with h0|⟨ad,ha,h1⟩
  ·exact .inl h0
  ·refine .inr ⟨ad,ha,fun i c hi j v hj=>?_⟩
   have e:ad.block=g:=by rw [←Option.some.inj ha]
   rw [←h1 i c hi j v hj]
   exact World.cell?_of_block (by rw [D4,e];exact hg))
theorem ahQ{g s:Nat}{ls:List (List Value)}{w:World}(h:(PC g s ls).holds w):Rd w (some ⟨g,0,none⟩) s ls:=h.2
section
variable{P:Program}{fn:Func}{R:Ending→World→Prop}{X:Nat→Prop}{W:World}{n:Nat}{k:List K}{S:St}{ah:List (Nat×Value)}{mem:List ak}{M0:List ak}{an:Array Oper}{aL:Array Bool}{m:Nat}
theorem fF.Ph{M1:List ak}(hM:ar M1 M0){Q:Act→World→Prop}{E:Exit→Act→World→Prop}:∀{m:Nat} {aL:Array Bool} {a:Act} {w:World},fP X W M1 w→fF P an (Dk X W M1) Q E m aL a w→fF P an (Dk X W M0) Q E m aL a w
 |0,_,_,_,_,h=>h
 |m+1,_,_,w,hC,h=>fun w1 ct=>by
  obtain⟨h1,h2⟩:=h w1 ct
  have o5:=hC.up ct
  refine⟨h1,fun i hi=>wpOp_mono (fun a' w' h'=>?_) (h2 i hi)⟩
  have lI:fP X W M1 w':=h'.1 o5
  exact⟨fun _=>⟨lI.1,(hM _ _ _ lI.2).1⟩,fF.Ph hM lI h'.2⟩
theorem fB{i:Nat}{o:Oper}{ι:Type}{φ:ι→Prop}{next:ι→St}{M1:ι→List ak}(hi:an[i]?=some o)(hw:cW an ah o true)(h:H1 P X W n ⟨ah,mem⟩ o φ next)(Mq:∀j,φ j→ar (next j).mem (M1 j))(hM:∀j,φ j→ar (M1 j) M0)
  (hk:∀j,φ j→gB P fn R X W n k (M1 j) an m (aL.setIfInBounds i true) (next j)):tM P fn R X W n k M0 an m aL i ⟨ah,mem⟩:=by
 intro cQ bT lJ a w hs hC
 unfold wpOp
 simp only [hi]
 rw [aG (hw.eq hs)]
 refine .inl (h a w hs _ _ fun i' a' w' hφ cP=>?_)
 have o5:fP X W (M1 i') w':=⟨cP.dm,(Mq i' hφ _ _ _ cP.mem).1⟩
 have lI:fP X W M0 w':=⟨cP.dm,(hM i' hφ _ _ _ o5.2).1⟩
 exact⟨fun _=>lI,fF.Ph (hM i' hφ) o5 (hk i' hφ cQ lJ a' w' cP o5)⟩
end
end Hr
end Go.Proofs.YtdahjfmmndjcpaaGreat
