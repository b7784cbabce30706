/- Part. -/
import Derived.Test.YtjpbickffffgkaaGreatQ09
import Derived.Test.YtjpbickffffgkaaGreatQ10
set_option linter.unusedSimpArgs false
set_option linter.unusedVariables false
set_option maxHeartbeats 40000000
set_option maxRecDepth 100000
namespace Go.Proofs.YtjpbickffffgkaaGreat
open Go Go.RowKit Hr Go.Proofs.Tryz
structure GpA where
 fst:Nat
 fp:Nat
 pas:Nat
instance:Inhabited GpA:=⟨⟨0,0,0⟩⟩
abbrev MeB:=Nat×Bool
instance:Inhabited MeB:=⟨⟨0,false⟩⟩
structure Br where
 m:Nat
 p:Nat
instance:Inhabited Br:=⟨⟨0,0⟩⟩
def fE(l:List Int):Int:=l.foldr (· + ·) 0
theorem Yp{a b:List Int}:fE (a++b)=fE a+fE b:=by
 induction a with
 |nil=>simp [fE]
 |cons x a ih=>simp only [fE,BX,List.foldr_cons]at ih⊢;rw [ih];omega
def rC(ls:List Int):List Int:=(List.range (ls.length+1)).map fun k=>fE (ls.take k)
theorem IC{ls:List Int}:(rC ls).length=ls.length+1:=by simp [rC]
theorem Yq{ls:List Int}{k:Nat}(h:k≤ls.length):aa (rC ls) k=fE (ls.take k):=by
 have:k<ls.length+1:=oM
 simp [aa,rC,this]
theorem Yr{ls:List Int}{k:Nat}(h:k<ls.length):fE (ls.take (k+1))=fE (ls.take k)+aa ls k:=by
 rw [gz h,Yp];simp [fE]
theorem QZ{ls:List Int}{x:Int}:rC (ls++ [x])=rC ls++ [fE ls+x]:=by
 rw [rC,aT,yn,qY,cn]
 congr 1
 ·refine iO fun k hk=>?_
  have:=e_.1 hk
  rw [Kz  oM]
 ·have e:fE [x]=x:=by simp [fE]
  rw [List.map_singleton,eS (show(ls++ [x]).length≤ls.length+1 by simp),Yp,e]
theorem Ys{ls:List Int}{B:Int}(h:∀x∈ls,0≤x∧x≤B):0≤fE ls∧fE ls≤B*ls.length:=by
 induction ls with
 |nil=>simp [fE]
 |cons x l ih=>
  have h1:=ih fun y hy=>h y (by simp [hy])
  have h2:=h x sM
  have e:fE (x::l)=x+fE l:=rfl
  rw [e,ga]
  have:B*((l.length+1:Nat):Int)=B*l.length+B:=by rw [Int.natCast_add,Int.mul_add];simp
  rw [this];omega
theorem akv{ls:List Int}{a b:Nat}(h:∀x∈ls,0≤x)(Bc:a≤b):fE (ls.take a)≤fE (ls.take b):=by
 induction b with
 |zero=>
  obtain rfl:a=0:=oM
  exact uf _
 |succ b ih=>
  rcases jH b ls.length with hb|hb
  ·rcases jH a (b+1)with h1|h1
   ·have h2:=ih  oM
    rw [Yr hb]
    have:=h _ (aI hb)
    omega
   ·obtain rfl:a=b+1:=oM
    exact uf _
  ·rcases jH a (b+1)with h1|h1
   ·have h2:=ih  oM
    rw [eS (show ls.length≤b+1 by omega)]
    rwa [eS hb]at h2
   ·obtain rfl:a=b+1:=oM
    exact uf _
def Yt(m:ao):Int:=m.n.met.ln
def kh(s:ax):List Int:=s.ms.map Yt
def cD(s:ax):List Int:=rC (kh s)
theorem Yu{s:ax}{i:Nat}(h:i<s.ms.length):aa (kh s) i=(aa s.ms i).n.met.ln:=by
 simp [aa,kh,h,Yt]
theorem bX.ln{s:ax}(hB:bX s){i:Nat}(hi:i<s.ms.length):Wm (aa s.ms i).n.met∧(aa s.ms i).n.len=0∧1≤(aa s.ms i).n.met.ln∧(aa s.ms i).n.met.ln≤1935360:=by
 obtain⟨a,hm⟩:=hB.me hi
 refine⟨hm.met,hm.tl,?_⟩
 have:=hm.met.ln.1
 omega
theorem bX.Q0{s:ax}(hB:bX s):∀x∈kh s,1≤x∧x≤1935360:=fun x hx=>by
 obtain⟨m,hm,rfl⟩:=cL.1 hx
 obtain⟨j,hj,rfl⟩:=gS hm
 have:=(hB.ln hj).2.2
 rwa [dP hj]at this
structure eZ where
 st:Nat
 vo:Nat
 ev:Nat
 on:Int
 off:Int
instance:Inhabited eZ:=⟨⟨0,0,0,0,0⟩⟩
def eZ.enc(s:eZ):List Value:= [.int .i64 (s.st:Int),.int .i64 (s.vo:Int),.int .i64 (s.ev:Int),.int .i64 s.on,.int .i64 s.off]
def c6(m:ao)(i k:Nat):List Int:=mD (VL (aa (aa m.cs i).vs k) m.n.met.ln)
def nw(i k:Nat)(ln:Int)(on:List Int)(j:Nat):eZ:=⟨i,k,j,aa on j,if j+1<on.length then aa on (j+1)else ln⟩
def n4(i k:Nat)(ln:Int)(on:List Int)(n:Nat):List eZ:=(List.range n).map (nw i k ln on)
def iW(m:ao)(i k:Nat):List eZ:=(List.range k).flatMap fun q=>n4 i q m.n.met.ln (c6 m i q) (c6 m i q).length
def cI(m:ao)(i:Nat):List eZ:=(List.range i).flatMap fun q=>iW m q (aa m.cs q).vs.length
theorem FA{i k n:Nat}{ln:Int}{on:List Int}:n4 i k ln on (n+1)=n4 i k ln on n++ [nw i k ln on n]:=by simp [n4,qY]
theorem ID{m:ao}{i k:Nat}:iW m i (k+1)=iW m i k++n4 i k m.n.met.ln (c6 m i k) (c6 m i k).length:=by simp [iW,qY,j5]
theorem IE{m:ao}{i:Nat}:cI m (i+1)=cI m i++iW m i (aa m.cs i).vs.length:=by simp [cI,qY,j5]
theorem FB{i k n:Nat}{ln:Int}{on:List Int}:(n4 i k ln on n).length=n:=by simp [n4]
theorem Yy{m:ao}{i:Nat}:∀{k:Nat},(∀q,q<k→(c6 m i q).length≤56)→(iW m i k).length≤56*k
 |0,_=>by simp [iW]
 |k+1,h=>by
  have h1:=Yy (k:=k) fun q hq=>h q  oM
  have h2:=h k  oM
  rw [ID,aT,FB];omega
theorem Yz{m:ao}:∀{i:Nat},(∀q,q<i→(iW m q (aa m.cs q).vs.length).length≤112)→(cI m i).length≤112*i
 |0,_=>by simp [cI]
 |i+1,h=>by
  have h1:=Yz (i:=i) fun q hq=>h q  oM
  have h2:=h i  oM
  rw [IE,aT];omega
theorem mH.vo{m:ao}{K:Nat}{a:Int}(h:mH m K a){i k:Nat}(hi:i<m.cs.length)(hk:k<(aa m.cs i).vs.length):∃n,lL (aa (aa m.cs i).vs k) m.n.met.ln n:=(h.ce _ (aI hi)).vs _ (aI hk)
theorem FC{m:ao}{K:Nat}{a:Int}(h:mH m K a){i k:Nat}(hi:i<m.cs.length)(hk:k<(aa m.cs i).vs.length):(c6 m i k).length=(aa (aa m.cs i).vs k).es.length∧0<(c6 m i k).length∧(c6 m i k).length≤56:=by
 obtain⟨n,hv⟩:=h.vo hi hk
 have e:(c6 m i k).length=(aa (aa m.cs i).vs k).es.length:=by rw [c6,Fa,Xa hv.e]
 have:=hv.len
 omega
theorem YB{m:ao}{K:Nat}{a:Int}(h:mH m K a){i k:Nat}(hi:i<m.cs.length)(hk:k≤(aa m.cs i).vs.length):(iW m i k).length≤112:=by
 have h2:(aa m.cs i).vs.length≤2:=by
  have:=(h.ce _ (aI hi)).len
  omega
 have:=Yy (m:=m) (i:=i) (k:=k) fun q hq=>(FC h hi  oM).2.2
 omega
theorem YC{m:ao}{K:Nat}{a:Int}(h:mH m K a){i:Nat}(hi:i≤m.cs.length):(cI m i).length≤112*i:=Yz fun q hq=>YB h  oM (cE _)
theorem Me{m:ao}{K:Nat}{a:Int}(h:mH m K a){i k:Nat}(hi:i<m.cs.length)(hk:k<(aa m.cs i).vs.length){j:Nat}(hj:j<(c6 m i k).length):
  0≤(nw i k m.n.met.ln (c6 m i k) j).on∧(nw i k m.n.met.ln (c6 m i k) j).on≤(nw i k m.n.met.ln (c6 m i k) j).off∧(nw i k m.n.met.ln (c6 m i k) j).off≤m.n.met.ln∧(j+1<(c6 m i k).length→(nw i k m.n.met.ln (c6 m i k) j).off=(nw i k m.n.met.ln (c6 m i k) (j+1)).on):=by
 obtain⟨n,hv⟩:=h.vo hi hk
 have rD:=h.met.ln.1
 obtain⟨_,hs,hb⟩:=LI hv.e (show 1≤m.n.met.ln∧m.n.met.ln≤15482880 by omega)
 have fe:(c6 m i k).length=(VL (aa (aa m.cs i).vs k) m.n.met.ln).length:=by rw [c6,Fa]
 have key:∀q,q<(VL (aa (aa m.cs i).vs k) m.n.met.ln).length→aa (c6 m i k) q=Tu.ib ((VL (aa (aa m.cs i).vs k) m.n.met.ln).take q):=fun q hq=>yO hq
 have mono:∀q,q<(VL (aa (aa m.cs i).vs k) m.n.met.ln).length→0≤Tu.ib ((VL (aa (aa m.cs i).vs k) m.n.met.ln).take q)∧Tu.ib ((VL (aa (aa m.cs i).vs k) m.n.met.ln).take q)≤Tu.ib ((VL (aa (aa m.cs i).vs k) m.n.met.ln).take (q+1))∧Tu.ib ((VL (aa (aa m.cs i).vs k) m.n.met.ln).take (q+1))≤m.n.met.ln:=fun q hq=>by
  refine⟨?_,?_,?_⟩
  ·have:=Tu.HL hb q  oM ;omega
  ·rw [Tu.ES hq];have:=hb _ (aI hq);omega
  ·have e:Tu.ib (VL (aa (aa m.cs i).vs k) m.n.met.ln)=Tu.ib ((VL (aa (aa m.cs i).vs k) m.n.met.ln).take (q+1))+Tu.ib ((VL (aa (aa m.cs i).vs k) m.n.met.ln).drop (q+1)):=by rw [←Tu.HK,mR]
   have h2:=Tu.HL (l:=(VL (aa (aa m.cs i).vs k) m.n.met.ln).drop (q+1)) (fun x hx=>hb x (Ex hx)) ((VL (aa (aa m.cs i).vs k) m.n.met.ln).drop (q+1)).length (cE _)
   rw [Kw]at h2
   omega
 have fK:j<(VL (aa (aa m.cs i).vs k) m.n.met.ln).length:=oM
 have m1:=mono j fK
 have k1:=key j fK
 simp only [nw]
 by_cases hn:j+1<(c6 m i k).length
 ·rw [aG hn,k1,key (j+1)  oM]
  exact⟨m1.1,m1.2.1,m1.2.2,fun _=>rfl⟩
 ·rw [aD hn,k1]
  exact⟨m1.1,oM,oM,fun h=>absurd h hn⟩
def eZ.is(a b:Nat)(x:eZ):Bool:=x.st==a&&x.vo==b
theorem YD{i k n:Nat}{ln:Int}{on:List Int}{x:eZ}(h:x∈n4 i k ln on n):∃j,j<n∧x=nw i k ln on j:=by
 obtain⟨j,hj,rfl⟩:=cL.1 h
 exact⟨j,e_.1 hj,rfl⟩
theorem aky{m:ao}{i k:Nat}{x:eZ}(h:x∈iW m i k):∃q j,q<k∧j<(c6 m i q).length∧x=nw i q m.n.met.ln (c6 m i q) j:=by
 obtain⟨q,hq,h2⟩:=j4.1 h
 obtain⟨j,hj,e⟩:=YD h2
 exact⟨q,j,e_.1 hq,hj,e⟩
theorem Mf{m:ao}{i:Nat}{x:eZ}(h:x∈cI m i):∃c q j,c<i∧q<(aa m.cs c).vs.length∧j<(c6 m c q).length∧x=nw c q m.n.met.ln (c6 m c q) j:=by
 obtain⟨c,hc,h2⟩:=j4.1 h
 obtain⟨q,j,hq,hj,e⟩:=aky h2
 exact⟨c,q,j,e_.1 hc,hq,hj,e⟩
theorem akz{a b i k n:Nat}{ln:Int}{on:List Int}:(n4 i k ln on n).countP (eZ.is a b)≤if i=a∧k=b then n else 0:=by
 split
 ·exact j3 List.countP_le_length (by rw [FB];exact cE _)
 ·rename_i iU
  refine Nat.le_of_eq (List.countP_eq_zero.2 fun x hx=>?_)
  obtain⟨j,_,rfl⟩:=YD hx
  intro Bd
  simp only [eZ.is,nw,eN,g_]at Bd
  exact iU Bd
theorem YE{m:ao}{a b i:Nat}:∀{k:Nat},(∀q,q<k→(c6 m i q).length≤56)→(iW m i k).countP (eZ.is a b)≤if i=a∧b<k then 56 else 0
 |0,_=>by simp [iW]
 |k+1,h=>by
  have h1:=YE (a:=a) (b:=b) (k:=k) fun q hq=>h q  oM
  have h2:=h k  oM
  have h3:=akz (a:=a) (b:=b) (i:=i) (k:=k) (n:=(c6 m i k).length) (ln:=m.n.met.ln) (on:=c6 m i k)
  rw [ID,List.countP_append]
  by_cases e1:i=a
  ·by_cases e2:k=b
   ·rw [aG ⟨e1,e2⟩]at h3
    rw [aD (show¬(i=a∧b<k) by omega)]at h1
    rw [aG (show i=a∧b<k+1 by omega)]
    omega
   ·rw [aD (show¬(i=a∧k=b) by omega)]at h3
    by_cases e3:b<k
    ·rw [aG ⟨e1,e3⟩]at h1
     rw [aG (show i=a∧b<k+1 by omega)]
     omega
    ·rw [aD (show¬(i=a∧b<k) by omega)]at h1
     omega
  ·rw [aD (show¬(i=a∧k=b) by omega)]at h3
   rw [aD (show¬(i=a∧b<k) by omega)]at h1
   omega
theorem Q2{m:ao}{K:Nat}{z:Int}(hM:mH m K z){a b:Nat}:∀{i:Nat},i≤m.cs.length→(cI m i).countP (eZ.is a b)≤if a<i then 56 else 0
 |0,_=>by simp [cI]
 |i+1,hi=>by
  have h1:=Q2 hM (a:=a) (b:=b) (i:=i)  oM
  have h2:=YE (m:=m) (a:=a) (b:=b) (i:=i) (k:=(aa m.cs i).vs.length) fun q hq=>(FC hM  oM hq).2.2
  rw [IE,List.countP_append]
  by_cases e1:a<i
  ·rw [aG e1]at h1
   rw [aG (show a<i+1 by omega)]
   rw [aD (show¬(i=a∧b<(aa m.cs i).vs.length) by omega)]at h2
   omega
  ·rw [aD e1]at h1
   by_cases e2:i=a
   ·rw [aG (show a<i+1 by omega)]
    split at h2<;>omega
   ·rw [aD (show¬(i=a∧b<(aa m.cs i).vs.length) by omega)]at h2
    rw [aD (show¬a<i+1 by omega)]
    omega
theorem akA{p:eZ→Bool}{l:List eZ}{n:Nat}:(l.take n).countP p≤l.countP p:=(KA n l).countP_le
theorem Q3{p:eZ→Bool}{l:List eZ}{n:Nat}(h:n<l.length):(l.take (n+1)).countP p=(l.take n).countP p+if p (aa l n)then 1 else 0:=by
 rw [gz h,List.countP_append]
 simp [List.countP_cons]
namespace bh
section
variable{α:Type}{lt:α→α→Bool}{B:Nat}{d a z:List α}
def sB(lt:α→α→Bool)(B:Nat)(d:List α):Prop:=∃bs:List (List α),d=bs.flatten∧∀b∈bs,b.length=B∧db lt b
def sC(lt:α→α→Bool)(B:Nat)(d:List α):Prop:=∃a r,d=a++r∧sB lt B a∧db lt r∧r.length<B
theorem sB.nil{lt:α→α→Bool}{B:Nat}:sB lt B []:=⟨[],rfl,by simp⟩
theorem sB.ru(h:sB lt B d)(hl:z.length=B)(hs:db lt z):sB lt B (d++z):=by
 obtain⟨bs,rfl,hb⟩:=h
 refine⟨bs++ [z],by simp,fun b h=>?_⟩
 rcases ep.1 h with h|h
 ·exact hb b h
 ·rw [c_.1 h];exact⟨hl,hs⟩
theorem sB.akS{x y:List α}{bs:List (List α)}(hb:∀b∈x::y::bs,b.length=B∧db lt b):sB lt B bs.flatten:=⟨bs,rfl,fun b h=>hb b (by simp [h])⟩
theorem sC.of(h:sB lt B a)(hs:db lt z)(hl:z.length<B):sC lt B (a++z):=⟨a,z,rfl,h,hs,hl⟩
theorem sC.two(h:sC lt B d)(hl:2*B≤d.length):∃x y r,d=x++(y++r)∧x.length=B∧y.length=B∧db lt x∧db lt y∧sC lt B r:=by
 obtain⟨a,r,rfl,⟨bs,rfl,hb⟩,hs,hr⟩:=h
 match bs,hb with
 | [],_=>simp at hl;omega
 | [x],hb=>
  have:=(hb x sM).1
  simp at hl;omega
 |x::y::bs,hb=>
  exact⟨x,y,bs.flatten++r,by simp,(hb x sM).1,(hb y sM).1,(hb x sM).2,(hb y sM).2,_,_,rfl,sB.akS hb,hs,hr⟩
theorem sC.cN(h:sC lt B d)(h1:B<d.length)(h2:d.length<2*B):∃x y,d=x++y∧x.length=B∧0<y.length∧db lt x∧db lt y:=by
 obtain⟨a,r,rfl,⟨bs,rfl,hb⟩,hs,hr⟩:=h
 match bs,hb with
 | [],_=>simp at h1;omega
 | [x],hb=>
  have:=(hb x sM).1
  simp at h1
  exact⟨x,r,by simp,this,oM,(hb x sM).2,hs⟩
 |x::y::bs,hb=>
  have e1:=(hb x sM).1
  have e2:=(hb y sM).1
  simp at h2;omega
theorem sC.one(h:sC lt B d)(hl:d.length≤B):db lt d:=by
 obtain⟨a,r,rfl,⟨bs,rfl,hb⟩,hs,hr⟩:=h
 match bs,hb with
 | [],_=>simpa using hs
 | [x],hb=>
  have:=(hb x sM).1
  simp at hl
  have pR:r= []:=List.eq_nil_of_length_eq_zero  oM
  subst pR
  simpa using (hb x sM).2
 |x::y::bs,hb=>
  have e1:=(hb x sM).1
  have e2:=(hb y sM).1
  simp at hl;omega
end
theorem _root_.List.Perm.ayC{α:Type}{D z x y l:List α}(h:(D++(x++y)).Perm l)(hz:z.Perm (x++y)):(D++z).Perm l:=(hz.append_left D).trans h
end bh
structure aJ where
 on:Int
 off:Int
 aL:Int
 part:Int
 st:Int
 vo:Int
 es:Int
 en:Int
 hd:Nat
instance:Inhabited aJ:=⟨⟨0,0,0,0,0,0,0,0,0⟩⟩
def aJ.enc(x:aJ):List Value:= [.int .i64 x.on,.int .i64 x.off,.int .i64 x.aL,.int .i64 x.part,.int .i64 x.st,.int .i64 x.vo,.int .i64 x.es,.int .i64 x.en,.int .i64 (x.hd:Int)]
def sD(x:aJ)(o:Int):aJ:={x with off:=o}
theorem akU{ns:List aJ}{x y:aJ}:((ns++ [x]).map aJ.enc).set ns.length y.enc=(ns++ [y]).map aJ.enc:=by
 rw [cn,cn,B4 _ _ sM]
 simp
theorem akV{ns:List aJ}{k:Nat}{y:aJ}:(ns.map aJ.enc).set k y.enc=(ns.set k y).map aJ.enc:=by rw [jV]
theorem akW{ns:List aJ}{k:Nat}{y x:aJ}(h:x∈ns.set k y):x∈ns∨x=y:=B0 h
def k8(v:Value):Prop:=∃i:aZ,v=i.val
theorem aZ.key(i:aZ):k8 i.val:=⟨i,rfl⟩
def jT(h:Hd):aZ:=⟨h.step,h.cd,h.bR⟩
def nN(h:Hd):Int:=if dp h.step h.cd h.bR<0 then 0 else dp h.step h.cd h.bR
theorem akX(h:Hd):0≤nN h∧nN h≤127:=by
 have:=Lk h.step h.cd h.bR
 unfold nN
 split<;>omega
theorem YM:∀l:List Int,Ky.l4 l=pV l
 | []=>rfl
 |x::l=>by
  have ih:=YM l
  simp only [Ky.l4,pV]
  rw [ih]
  by_cases h:x=0<;>simp [h]
def cH(x:aJ):List Int:= [x.on,x.aL,x.part,x.st,x.vo,x.off,x.es,x.en,(x.hd:Int)]
theorem akY{a b:aJ}:pV [iQ a.on b.on,iQ a.aL b.aL,iQ a.part b.part,iQ a.st b.st,iQ a.vo b.vo,iQ a.off b.off,iQ a.es b.es,iQ a.en b.en,iQ (a.hd:Int) (b.hd:Int)]=Ky.gE (cH a) (cH b):=
 (YM _).symm.trans (Ky.Wg (cH a) (cH b))
theorem jk:bh.uv (Ky.cP cH):=Ky.agP (n:=9) fun _=>rfl
structure PlA where
 on:Int
 off:Int
 aL:Int
 vel:Int
 part:Int
 es:Int
 en:Int
instance:Inhabited PlA:=⟨⟨0,0,0,0,0,0,0⟩⟩
def FF(s:ax):Int:=aa (cD s) s.ms.length
theorem vU{s:ax}{k:Nat}(h:k≤s.ms.length):aa (cD s) k=fE ((kh s).take k):=Yq (by simpa [kh]using h)
theorem Mh{s:ax}{k:Nat}(h:k<s.ms.length):aa (cD s) (k+1)=aa (cD s) k+(aa s.ms k).n.met.ln:=by
 rw [vU h,vU (ox h),Yr (by simpa [kh]using h),Yu h]
theorem Q6{s:ax}(hB:bX s){a b:Nat}(h:a≤b)(hb:b≤s.ms.length):aa (cD s) a≤aa (cD s) b:=by
 rw [vU  oM,vU hb]
 exact akv (fun x hx=>by have:=hB.Q0 x hx;omega) h
theorem akZ{s:ax}:aa (cD s) 0=0:=by rw [vU (gl _)];rfl
theorem oQ{s:ax}(hB:bX s){k:Nat}(h:k≤s.ms.length):0≤aa (cD s) k∧aa (cD s) k≤FF s∧FF s≤11612160:=by
 have h0:=Q6 hB (gl k) h
 rw [akZ]at h0
 have h1:=Q6 hB h (cE _)
 refine⟨h0,h1,?_⟩
 have h2:=Ys (ls:=(kh s).take s.ms.length) (B:=1935360) fun x hx=>by have:=hB.Q0 x (ue hx);omega
 have h3:=hB.ml
 have h4:((kh s).take s.ms.length).length=s.ms.length:=by simp [kh]
 rw [h4]at h2
 unfold FF
 rw [vU (cE _)]
 omega
theorem vV{s:ax}:(cD s).length=s.ms.length+1:=by rw [cD,IC];simp [kh]
section
instance:DecidableEq aZ:=fun a b=>decidable_of_iff (a.step=b.step∧a.cd=b.cd∧a.bR=b.bR) ⟨fun h=>by cases a;cases b;obtain⟨h1,h2,h3⟩:=h;dsimp only at h1 h2 h3;subst h1;subst h2;subst h3;rfl,fun h=>by subst h;exact⟨rfl,rfl,rfl⟩⟩
abbrev HF:=aZ→Option Nat
def pk(f:HF)(p:aZ)(k:Nat):HF:=fun q=>if q=p then some k else f q
structure kj where
 part:Int
 st:Int
 vo:Int
 down:Int
def qJ(c:kj)(e:bn)(i:Nat)(on off:Int):aJ:=⟨on,off,nN (aa e.hs i)-c.down,c.part,c.st,c.vo,e.n.bU,e.n.aL,i⟩
def lO(c:kj)(f:HF)(e:bn)(on off:Int)(σ:HF×List aJ)(i:Nat):HF×List aJ:=
 match f (jT (aa e.hs i))with
 |some k=>(if(aa e.hs i).jJ then pk σ.1 (jT (aa e.hs i)) k else σ.1,σ.2.set k (sD (aa σ.2 k) off))
 |none=>(if(aa e.hs i).jJ then pk σ.1 (jT (aa e.hs i)) σ.2.length else σ.1,σ.2++ [qJ c e i on off])
abbrev k9:=Option (bn×Int×Int)
def km(c:kj)(σ:HF×List aJ):k9→HF×List aJ
 |none=>(fun _=>none,σ.2)
 |some (e,on,off)=>(List.range e.hs.length).foldl (lO c σ.1 e on off) (fun _=>none,σ.2)
def gm(c:kj)(σ:HF×List aJ)(l:List k9):HF×List aJ:=l.foldl (km c) σ
theorem IG{c:kj}{σ:HF×List aJ}{a b:List k9}:gm c σ (a++b)=gm c (gm c σ a) b:=G8
def qK:k9→Prop
 |none=>True
 |some t=>t.1.hs= []
theorem Mi{c:kj}{σ:HF×List aJ}:∀{t:k9},qK t→km c σ t=(fun _=>none,σ.2)
 |none,_=>rfl
 |some (e,on,off),h=>by
  have h':e.hs= []:=h
  simp [km,h']
theorem Mj{c:kj}:∀{l:List k9} {σ:HF×List aJ},(∀t∈l,qK t)→(gm c σ l).2=σ.2∧(l≠ []∨σ.1=(fun _=>none)→(gm c σ l).1=fun _=>none)
 | [],σ,_=>⟨rfl,fun h=>by rcases h with h|h;(· exact absurd rfl h);exact h⟩
 |t::l,σ,h=>by
  have h1:=Mj (c:=c) (l:=l) (σ:=km c σ t) fun x hx=>h x (by simp [hx])
  have e:=Mi (c:=c) (σ:=σ) (h t sM)
  show(gm c (km c σ t) l).2=_∧(_→(gm c (km c σ t) l).1=_)
  rw [e]at h1⊢
  exact⟨h1.1,fun _=>h1.2 (.inr rfl)⟩
def pn(d:Int):k9→k9
 |none=>none
 |some (e,on,off)=>some (e,on+d,off+d)
def gX(δ:Int→Int)(x:aJ):aJ:={x with on:=x.on+δ x.on,off:=x.off+δ x.on}
structure mL(δ:Int→Int)(D:Int)(σ τ:HF×List aJ):Prop where
 f:τ.1=σ.1
 n:τ.2=σ.2.map (gX δ)
 h:∀p k,σ.1 p=some k→k<σ.2.length∧δ (aa σ.2 k).on=D
theorem jz{α β:Type} [Inhabited α] [Inhabited β]{f:α→β}{l:List α}{k:Nat}(h:k<l.length):aa (l.map f) k=f (aa l k):=by simp [aa,h]
theorem mL.hd{δ:Int→Int}{D:Int}{f:HF}{c:kj}{e:bn}{on off:Int}{σ τ:HF×List aJ}{i:Nat}(h:mL δ D σ τ)(hf:∀p k,f p=some k→k<σ.2.length∧δ (aa σ.2 k).on=D)(nK:δ on=D):
  mL δ D (lO c f e on off σ i) (lO c f e (on+D) (off+D) τ i)∧∀p k,f p=some k→k<(lO c f e on off σ i).2.length∧δ (aa (lO c f e on off σ i).2 k).on=D:=by
 have hl:τ.2.length=σ.2.length:=by rw [h.n,bE]
 unfold lO
 cases hk:f (jT (aa e.hs i))with
 |some k=>
  obtain⟨h1,h2⟩:=hf _ _ hk
  have Bi:∀q,q<σ.2.length→δ (aa (σ.2.set k (sD (aa σ.2 k) off)) q).on=δ (aa σ.2 q).on:=fun q hq=>by
   rw [L_ h1]
   split
   ·rename_i e';subst e';rfl
   ·rfl
  refine⟨⟨?_,?_,?_⟩,fun p q hq=>?_⟩
  ·show(if _ then _ else _)=(if _ then _ else _)
   rw [h.f]
  ·show τ.2.set k _=(σ.2.set k _).map _
   rw [h.n,jV,jz h1]
   congr 1
   show sD (gX δ (aa σ.2 k)) (off+D)=gX δ (sD (aa σ.2 k) off)
   unfold gX sD
   simp only [h2]
  ·intro p q hq
   have key:q<σ.2.length∧δ (aa σ.2 q).on=D:=by
    dsimp only at hq
    split at hq
    ·unfold pk at hq
     split at hq
     ·cases hq;exact⟨h1,h2⟩
     ·exact h.h p q hq
    ·exact h.h p q hq
   exact⟨by show q<(σ.2.set _ _).length;rw [hU];exact key.1,(Bi q key.1).trans key.2⟩
  ·obtain⟨g1,g2⟩:=hf p q hq
   exact⟨by show q<(σ.2.set _ _).length;rw [hU];exact g1,(Bi q g1).trans g2⟩
 |none=>
  have YN:∀q,q<σ.2.length→aa (σ.2++ [qJ c e i on off]) q=aa σ.2 q:=fun q hq=>CE hq
  have AJ:aa (σ.2++ [qJ c e i on off]) σ.2.length=qJ c e i on off:=by simp [aa]
  refine⟨⟨?_,?_,?_⟩,fun p q hq=>?_⟩
  ·show(if _ then pk τ.1 _ τ.2.length else _)=(if _ then _ else _)
   rw [h.f,hl]
  ·show τ.2++ [_]=(σ.2++ [_]).map _
   rw [h.n,cn]
   congr 1
   show [qJ c e i (on+D) (off+D)]= [gX δ (qJ c e i on off)]
   unfold gX qJ
   simp only [nK]
  ·intro p q hq
   dsimp only at hq
   have nr:σ.1 p=some q→q<(σ.2++ [qJ c e i on off]).length∧δ (aa (σ.2++ [qJ c e i on off]) q).on=D:=fun hq=>by
    obtain⟨g1,g2⟩:=h.h p q hq
    exact⟨by simp;omega,by rw [YN q g1];exact g2⟩
   split at hq
   ·unfold pk at hq
    split at hq
    ·cases hq
     exact⟨by simp,by rw [AJ];exact nK⟩
    ·exact nr hq
   ·exact nr hq
  ·obtain⟨g1,g2⟩:=hf p q hq
   exact⟨by show q<(σ.2++_).length;simp;omega,by show δ (aa (σ.2++_) q).on=D;rw [YN q g1];exact g2⟩
theorem mL.ev{δ:Int→Int}{D:Int}{c:kj}{σ τ:HF×List aJ}(h:mL δ D σ τ):∀{t:k9},(∀e on off,t=some (e,on,off)→δ on=D)→mL δ D (km c σ t) (km c τ (pn D t))
 |none,_=>⟨rfl,h.n,fun p k e=>by cases e⟩
 |some (e,on,off),ht=>by
  have nK:=ht e on off rfl
  show mL δ D ((List.range e.hs.length).foldl (lO c σ.1 e on off) (fun _=>none,σ.2)) ((List.range e.hs.length).foldl (lO c τ.1 e (on+D) (off+D)) (fun _=>none,τ.2))
  rw [h.f]
  have h0:mL δ D ((fun _=>none,σ.2):HF×List aJ) (fun _=>none,τ.2):=⟨rfl,h.n,fun p k e=>by cases e⟩
  have key:∀(l:List Nat) (a b:HF×List aJ),mL δ D a b→(∀p k,σ.1 p=some k→k<a.2.length∧δ (aa a.2 k).on=D)→mL δ D (l.foldl (lO c σ.1 e on off) a) (l.foldl (lO c σ.1 e (on+D) (off+D)) b):=by
   intro l
   induction l with
   |nil=>intro a b Bc _;exact Bc
   |cons i l ih=>
    intro a b Bc hf
    obtain⟨h1,h2⟩:=Bc.hd (c:=c) (e:=e) (on:=on) (off:=off) (i:=i) hf nK
    exact ih _ _ h1 h2
  exact key _ _ _ h0 h.h
theorem YO{p q:aZ}(h:p.val=q.val):p=q:=by
 cases p;cases q
 simpa [aZ.val,aZ.enc]using h
open Classical in
noncomputable def jU(g:HF)(v:Value):Option Value:=if h:∃p:aZ,v=p.val then(g h.choose).map fun(k:Nat)=>Value.int .i64 (k:Int)else none
theorem Mk{g:HF}{p:aZ}:jU g p.val=(g p).map fun(k:Nat)=>Value.int .i64 (k:Int):=by
 have h:∃q:aZ,p.val=q.val:=⟨p,rfl⟩
 unfold jU
 rw [dif_pos h,←YO h.choose_spec]
theorem Q7:jU (fun _=>none)=fun _=>none:=by
 funext v
 unfold jU
 split<;>rfl
theorem YP{g:HF}{p:aZ}{k:Nat}:Hr.qH (jU g) p.val (.int .i64 (k:Int))=jU (pk g p k):=by
 funext v
 by_cases h:∃q:aZ,v=q.val
 ·obtain⟨q,rfl⟩:=h
  rw [Mk]
  by_cases e:q=p
  ·subst e
   rw [Iw]
   simp [pk]
  ·rw [Bb fun h=>e (YO h),Mk]
   simp [pk,e]
 ·have hv:v≠p.val:=fun e=>h ⟨p,e⟩
  rw [Bb hv]
  unfold jU
  rw [dif_neg h,dif_neg h]
def kn(f:HF)(ns:List aJ):Prop:=∀p k,f p=some k→k<ns.length
theorem kn.none{ns:List aJ}:kn (fun _=>none) ns:=fun p k h=>by cases h
theorem kn.le{f:HF}{a b:List aJ}(h:kn f a)(hl:a.length≤b.length):kn f b:=fun p k e=>yi (h p k e) hl
def sE(c:kj)(f:HF)(e:bn)(on off:Int)(ns:List aJ)(k:Nat):HF×List aJ:=(List.range k).foldl (lO c f e on off) (fun _=>none,ns)
theorem IH{c:kj}{f:HF}{e:bn}{on off:Int}{ns:List aJ}{k:Nat}:sE c f e on off ns (k+1)=lO c f e on off (sE c f e on off ns k) k:=by
 unfold sE
 rw [qY,G8];rfl
theorem ak0{c:kj}{f:HF}{e:bn}{on off:Int}{ns:List aJ}:km c (f,ns) (some (e,on,off))=sE c f e on off ns e.hs.length:=rfl
theorem Ml{c:kj}{f:HF}{e:bn}{on off:Int}{g:HF}{ns:List aJ}{i k:Nat}(h:f (jT (aa e.hs i))=some k):lO c f e on off (g,ns) i=(if(aa e.hs i).jJ then pk g (jT (aa e.hs i)) k else g,ns.set k (sD (aa ns k) off)):=by unfold lO;rw [h]
theorem Mm{c:kj}{f:HF}{e:bn}{on off:Int}{g:HF}{ns:List aJ}{i:Nat}(h:f (jT (aa e.hs i))=none):lO c f e on off (g,ns) i=(if(aa e.hs i).jJ then pk g (jT (aa e.hs i)) ns.length else g,ns++ [qJ c e i on off]):=by unfold lO;rw [h]
theorem kn.qH{g:HF}{ns:List aJ}{p:aZ}{k:Nat}(h:kn g ns)(hk:k<ns.length):kn (pk g p k) ns:=fun q j e=>by
 unfold pk at e
 split at e
 ·cases e;exact hk
 ·exact h q j e
theorem ak1{c:kj}{f:HF}{e:bn}{on off:Int}{σ:HF×List aJ}{i:Nat}(hf:kn f σ.2)(h:kn σ.1 σ.2):kn (lO c f e on off σ i).1 (lO c f e on off σ i).2∧σ.2.length≤(lO c f e on off σ i).2.length∧(lO c f e on off σ i).2.length≤σ.2.length+1:=by
 obtain⟨g,ns⟩:=σ
 cases hk:f (jT (aa e.hs i))with
 |some k=>
  rw [Ml hk]
  have h1:k<ns.length:=hf _ _ hk
  refine⟨?_,by simp,by simp⟩
  have h2:kn g (ns.set k (sD (aa ns k) off)):=h.le sM
  dsimp only
  split
  ·exact h2.qH (by simpa using h1)
  ·exact h2
 |none=>
  rw [Mm hk]
  refine⟨?_,by simp,by simp⟩
  have h2:kn g (ns++ [qJ c e i on off]):=h.le sM
  dsimp only
  split
  ·exact h2.qH sM
  ·exact h2
theorem YQ{c:kj}{f:HF}{e:bn}{on off:Int}{ns:List aJ}(hf:kn f ns):∀k,kn (sE c f e on off ns k).1 (sE c f e on off ns k).2∧ns.length≤(sE c f e on off ns k).2.length∧(sE c f e on off ns k).2.length≤ns.length+k
 |0=>⟨kn.none,cE _,cE _⟩
 |k+1=>by
  obtain⟨h1,h2,h3⟩:=YQ (c:=c) (e:=e) (on:=on) (off:=off) hf k
  obtain⟨g1,g2,g3⟩:=ak1 (c:=c) (e:=e) (on:=on) (off:=off) (i:=k) (hf.le h2) h1
  rw [IH]
  exact⟨g1,oM,oM⟩
theorem YS{c:kj}{σ:HF×List aJ}(h:kn σ.1 σ.2):∀{t:k9} {n:Nat},(∀e on off,t=some (e,on,off)→e.hs.length≤n)→kn (km c σ t).1 (km c σ t).2∧σ.2.length≤(km c σ t).2.length∧(km c σ t).2.length≤σ.2.length+n
 |none,n,_=>⟨kn.none,cE _,Nat.le_add_right _ _⟩
 |some (e,on,off),n,hn=>by
  obtain⟨g1,g2,g3⟩:=YQ (c:=c) (f:=σ.1) (ns:=σ.2) (e:=e) (on:=on) (off:=off) h e.hs.length
  have:=hn e on off rfl
  rw [show km c σ (some (e,on,off))=sE c σ.1 e on off σ.2 e.hs.length from rfl]
  exact⟨g1,g2,oM⟩
def xN(m:ao)(on:Int)(x:eZ):k9:=some ((aa (aa (aa m.cs x.st).vs x.vo).es x.ev).x,on+x.on,on+x.off)
def ko(m:ao)(a b:Nat)(on:Int)(q:Nat):List k9:=(((cI m m.cs.length).take q).filter (eZ.is a b)).map (xN m on)
def fN(m:ao)(a b:Nat)(on:Int):List k9:=if ko m a b on (cI m m.cs.length).length= []then [none]else ko m a b on (cI m m.cs.length).length
theorem YT{m:ao}{a b:Nat}{on:Int}:ko m a b on 0= []:=by simp [ko]
theorem YU{m:ao}{a b q:Nat}{on:Int}(h:q<(cI m m.cs.length).length)(hi:eZ.is a b (aa (cI m m.cs.length) q)=true):ko m a b on (q+1)=ko m a b on q++ [xN m on (aa (cI m m.cs.length) q)]:=by
 unfold ko
 rw [gz h,vi,cn,Ev,aG hi];rfl
theorem Mn{m:ao}{a b q:Nat}{on:Int}(h:q<(cI m m.cs.length).length)(hi:eZ.is a b (aa (cI m m.cs.length) q)=false):ko m a b on (q+1)=ko m a b on q:=by
 unfold ko
 rw [gz h,vi,cn,Ev,aD (by rw [hi];decide)];simp
theorem ak2{m:ao}{a b:Nat}{on:Int}(h:ko m a b on (cI m m.cs.length).length= []):fN m a b on= [none]:=by rw [fN,aG h]
theorem ak3{m:ao}{a b:Nat}{on:Int}(h:ko m a b on (cI m m.cs.length).length≠ []):fN m a b on=ko m a b on (cI m m.cs.length).length:=by rw [fN,aD h]
theorem YV{c:kj}{n:Nat}:∀{l:List k9} {σ:HF×List aJ},kn σ.1 σ.2→(∀t∈l,∀e on off,t=some (e,on,off)→e.hs.length≤n)→kn (gm c σ l).1 (gm c σ l).2∧σ.2.length≤(gm c σ l).2.length∧(gm c σ l).2.length≤σ.2.length+n*l.length
 | [],σ,h,_=>⟨h,cE _,Nat.le_add_right _ _⟩
 |t::l,σ,h,hn=>by
  obtain⟨h1,h2,h3⟩:=YS (c:=c) h (hn t sM)
  obtain⟨g1,g2,g3⟩:=YV (c:=c) (l:=l) h1 fun x hx=>hn x (by simp [hx])
  rw [show gm c σ (t::l)=gm c (km c σ t) l from rfl,ga,Nat.mul_succ]
  exact⟨g1,oM,oM⟩
theorem ak4{m:ao}{K:Nat}{z:Int}(hM:mH m K z){a b:Nat}{on:Int}(Q8:∀c v x,c<m.cs.length→v<(aa m.cs c).vs.length→x<(aa (aa m.cs c).vs v).es.length→(aa (aa (aa m.cs c).vs v).es x).x.hs.length≤2):
  (∀t∈fN m a b on,∀e o1 o2,t=some (e,o1,o2)→e.hs.length≤2)∧(fN m a b on).length≤56:=by
 have Q9:=Q2 hM (a:=a) (b:=b) (cE m.cs.length)
 have xe:(cI m m.cs.length).countP (eZ.is a b)≤56:=by split at Q9<;>omega
 unfold fN
 split
 ·refine⟨fun t ht e o1 o2 h=>?_,by simp⟩
  rw [c_.1 ht]at h;cases h
 ·unfold ko
  rw [eS (cE _)]
  refine⟨fun t ht e o1 o2 h=>?_,by rw [bE,←List.countP_eq_length_filter];exact xe⟩
  obtain⟨x,hx,rfl⟩:=cL.1 ht
  obtain⟨c,q,j,h1,h2,h3,rfl⟩:=Mf (wR.1 hx).1
  have h4:=(FC hM h1 h2).1
  cases h
  exact Q8 c q j h1 h2  oM
def II(s:ax)(c:Nat):Int:=if s.iK=true then(aa s.ps (dq s.ps c).1).semis else 0
def xO(s:ax)(c n:Nat):kj:=⟨((dq s.ps c).1:Nat),((dq s.ps c).2:Nat),n,II s c⟩
def qL(s:ax)(c n i:Nat):List k9:=(List.range i).flatMap fun k=>fN (aa s.ms k) c n (aa (cD s) k)
def FG(s:ax)(c:Nat)(kq:List aJ)(n:Nat):List aJ:=(gm (xO s c n) (fun _=>none,kq) (qL s c n s.ms.length)).2
def xP(s:ax)(c:Nat)(kq:List aJ)(n:Nat):List aJ:=(List.range n).foldl (FG s c) kq
def ny(s:ax)(k:Nat):List aJ:=(List.range k).foldl (fun kq c=>xP s c kq 2) []
theorem ak5{s:ax}{c n:Nat}:qL s c n 0= []:=rfl
theorem YW{s:ax}{c n i:Nat}:qL s c n (i+1)=qL s c n i++fN (aa s.ms i) c n (aa (cD s) i):=by
 unfold qL
 rw [qY,j5];simp
theorem IJ{s:ax}{c:Nat}{kq:List aJ}:xP s c kq 0=kq:=rfl
theorem zl{s:ax}{c n:Nat}{kq:List aJ}:xP s c kq (n+1)=FG s c (xP s c kq n) n:=by
 unfold xP
 rw [qY,G8];rfl
theorem IK{s:ax}{k:Nat}:ny s (k+1)=xP s k (ny s k) 2:=by
 unfold ny
 rw [qY,G8];rfl
theorem lL.eE{v:bF}{n a:Int}(h:lL v n a){x:Nat}(hx:x<v.es.length):(aa v.es x).x.hs.length≤2:=by
 rcases h.ev _ (aI hx)with⟨id,e⟩|⟨id,lg,d,hw,_⟩
 ·rw [e];simp [nW]
 ·by_cases hk:(aa v.es x).x.n.bo=1
  ·rcases(hw.hs hk).n with h1|h1<;>omega
  ·rw [(hw.Cw hk).1];simp
theorem mH.eE{m:ao}{K:Nat}{z:Int}(h:mH m K z):∀c v x,c<m.cs.length→v<(aa m.cs c).vs.length→x<(aa (aa m.cs c).vs v).es.length→(aa (aa (aa m.cs c).vs v).es x).x.hs.length≤2:=fun c v x hc hv hx=>by
 obtain⟨n,hV⟩:=h.vo hc hv
 exact hV.eE hx
structure vW where
 hid:Bool
 len:Int
 dF:List k9
def tB:Int→List vW→List k9
 |_, []=> []
 |t,m::ms=>m.dF.map (pn t)++tB (t+m.len) ms
def C4:Int→List vW→List k9
 |_, []=> []
 |t,m::ms=>if m.hid then C4 t ms else m.dF.map (pn t)++C4 (t+m.len) ms
def IL(δ:Int→Int):Bool→Int→Int→List vW→Prop
 |_,_,_, []=>True
 |q,t,D,m::ms=>(m.hid=true→q=true∧(∀x∈m.dF,qK x)∧IL δ true t (D+m.len) ms)∧
  (m.hid=false→(∀x∈m.dF,∀e on off,x=some (e,on,off)→e.hs≠ []→δ (on+t)=D)∧∃q',(q'=true→m.dF≠ []∧∀x∈m.dF,qK x)∧IL δ q' (t+m.len) D ms)
theorem ak6{a b:Int}:∀{t:k9},pn a (pn b t)=pn (b+a) t
 |none=>rfl
 |some (e,on,off)=>by show some (e,on+b+a,off+b+a)=some (e,on+(b+a),off+(b+a));rw [Int.add_assoc,Int.add_assoc]
theorem Mo{d:Int}:∀{t:k9},qK (pn d t)↔qK t
 |none=>Iff.rfl
 |some (e,on,off)=>Iff.rfl
theorem mL.C5{δ:Int→Int}{D:Int}{c:kj}{σ τ:HF×List aJ}(h:mL δ D σ τ){t:k9}(ht:∀e on off,t=some (e,on,off)→e.hs≠ []→δ on=D):mL δ D (km c σ t) (km c τ (pn D t)):=by
 by_cases hm:qK t
 ·rw [Mi hm,Mi (Mo.2 hm)]
  exact⟨rfl,h.n,fun p k e=>by cases e⟩
 ·refine h.ev fun e on off he=>ht e on off he fun h0=>hm ?_
  subst he;exact h0
theorem mL.YX{δ:Int→Int}{D:Int}{c:kj}:∀{l:List k9} {σ τ:HF×List aJ},mL δ D σ τ→(∀t∈l,∀e on off,t=some (e,on,off)→e.hs≠ []→δ on=D)→mL δ D (gm c σ l) (gm c τ (l.map (pn D)))
 | [],σ,τ,h,_=>h
 |t::l,σ,τ,h,hl=>mL.YX (l:=l) (h.C5 (hl t sM)) fun x hx=>hl x (by simp [hx])
theorem mL.all{δ:Int→Int}{c:kj}:∀{ms:List vW} {q:Bool} {t D:Int} {σ τ:HF×List aJ},IL δ q t D ms→mL δ D σ τ→(q=true→σ.1=fun _=>none)→
  (gm c τ (tB (t+D) ms)).2=((gm c σ (C4 t ms)).2).map (gX δ)
 | [],q,t,D,σ,τ,_,h,_=>h.n
 |m::ms,q,t,D,σ,τ,ho,h,hq=>by
  rw [tB,C4,IG]
  cases hm:m.hid with
  |true=>
   obtain⟨h1,h2,h3⟩:=ho.1 hm
   have hz:=hq h1
   have Q_:∀x∈m.dF.map (pn (t+D)),qK x:=fun x hx=>by
    obtain⟨y,hy,rfl⟩:=cL.1 hx
    exact Mo.2 (h2 y hy)
   have hs:=Mj (c:=c) (σ:=τ) Q_
   have mX:τ.1=fun _=>none:=h.f.trans hz
   rw [aG rfl,show t+D+m.len=t+(D+m.len) by omega]
   refine mL.all h3 (σ:=σ) (D:=D+m.len) ⟨?_,?_,fun p k e=>by rw [hz]at e;cases e⟩ fun _=>hz
   ·rw [hs.2 (.inr mX),hz]
   ·rw [hs.1];exact h.n
  |false=>
   obtain⟨h1,q',h2,h3⟩:=ho.2 hm
   rw [aD (by decide),IG,show t+D+m.len=(t+m.len)+D by omega]
   have e1:m.dF.map (pn (t+D))=(m.dF.map (pn t)).map (pn D):=by
    rw [fu]
    exact iO fun x _=>(ak6 (a:=D) (b:=t) (t:=x)).symm
   rw [e1]
   refine mL.all h3 (h.YX fun x hx e on off he iU=>?_) fun gV=>?_
   ·obtain⟨y,hy,FH⟩:=cL.1 hx
    rw [he]at FH
    cases y with
    |none=>cases FH
    |some y=>
     obtain⟨e0,on0,ak8⟩:=y
     have Yo:some (e0,on0+t,ak8+t)=some (e,on,off):=FH
     cases Yo
     exact h1 _ hy _ _ _ rfl iU
   ·obtain⟨g1,g2⟩:=h2 gV
    exact(Mj (c:=c) (σ:=σ) (l:=m.dF.map (pn t)) fun x hx=>by
     obtain⟨y,hy,rfl⟩:=cL.1 hx
     exact Mo.2 (g2 y hy)).2 (.inl (by simpa using g1))
end
theorem Bu(p:Option Addr)(c:Bool)(i j:Int)(W:World)(hc:c=false):Calls prog 135 #[.pointer p,.bool c,.agg #[Iv i,Iv j]] W (Hr.aN W (.tuple #[])):=by
 apply Ej 2 func135 ntmps135;refine Nw 5 fun b5=>?_;refine eB rfl hc ?_;apply ab 1;exact dm rfl rfl
theorem amE(b:UInt8)(W:World):Calls prog 212 #[.int .u8 (b.toNat:Int)] W (Hr.aN W (.bool (AW b))):=by
 apply Ej 9 func212 ntmps212;apply Sd 0 5;intro _ g5;apply ab 5;apply kp 1 [2];exact aw rfl rfl (by rw [AW,g5,j8]);intro _ g5;apply ab 5;apply kp 1 [2];exact aw rfl rfl (by rw [AW,g5,iX])
theorem amF(l:List UInt8)(A:Option Addr)(ca:Nat)(W:World)(hr:Rd W A 1 (l.map CI))(hl:l.length≤1000000):Calls prog 267 #[.slice A l.length ca,.func (.func 212) #[] #[]] W (Hr.aN W (Iv (ba.ig AW l))):=by
 apply Ej 12 func267 ntmps267;apply Ks 0 [8,0,1,4,7] [];refine dY (ι:=Nat) (fun k=>k≤l.length∧ba.ed AW l=k+ba.ed AW (l.drop k)) (fun k=>Iv k) (fun k=>l.length-k) 0 (by(try dsimp only);exact⟨oM,by simp⟩) rfl ?_;rintro k hq;(try dsimp only at hq);obtain⟨hk,dQ⟩:=hq;apply Cd 5;intros;apply ab 13;refine Qq 0 (Qi k rfl (.au hr .no)) ?_;refine Qq 0 (Qk rfl (.au hr .no)) ?_;refine Qq 1 (dV rfl rfl kZ (aX rfl) (fun w hk hm=>amE (aa l k) w)) ?_;apply kp 0 [0,1,4,5,7,8,16];apply Cd 0;intro _ cK;apply ab 5;apply kp 1 [0,1,4,7,8];exact aw rfl rfl (by rw [ba.tg  oM dQ (by simpa using cK)]);intro _ cK;apply ab 6;apply kp 0 [0,1,4,7,8];refine Ag (k+1) ?_;exact⟨oM,ba.tf  oM dQ (by simpa using cK)⟩;intros;apply ab 1;apply kp 5 [4];exact aw rfl rfl (by rw [ba.th  oM dQ])
theorem amG(l:List UInt8)(A:Option Addr)(ca:Nat)(W:World)(hr:Rd W A 1 (l.map CI))(hl:l.length≤1000000):Calls prog 213 #[.slice A l.length ca,.func (.func 212) #[] #[]] W (Hr.aN W (.bool (l.any AW))):=by
 apply Ej 8 func213 ntmps213;refine Qq 3 (Qc rfl fun w hk _=>amF l A ca w (hr.aC hk) hl) ?_;apply kp 1 [4];exact aw rfl rfl (ay Value.bool (PR l))
theorem R6(s:ByteArray)(W:World)(h:Fk s):Calls prog 136 #[.string s] W (Hr.aN W (.bool true)):=by
 apply Ej 11 func136 ntmps136;refine Qq 2 (OI rfl underlying9 rfl) ?_;refine iG (.on rfl rfl rfl (dC (by have:=h.1;omega))) rfl rfl (r5 rfl rfl) ?_;refine xa (.on rfl rfl rfl (dC (by have:=h.1;omega))) (ai6 rfl rfl rfl underlying9 zU j6 rfl) ?_;rintro⟨b9,c9⟩-;refine iG (.on rfl rfl rfl (dC (by have:=h.1;omega))) rfl rfl (r5 rfl rfl) ?_;refine iG (.on rfl rfl rfl (dC (by have:=h.1;omega))) rfl rfl (Qc rfl fun w _ hm=>amG (vN s) (some ⟨b9,0,none⟩) c9 w (ai5 (ae.ak.holds hm)) (by rw [XF];have:=h.1;omega)) ?_;refine iG (.on rfl rfl rfl (dC (by have:=h.1;omega))) rfl rfl (U8 rfl rfl) ?_;refine Qq 2 (nJ rfl rfl (dC (by have:=h.1;omega)) rfl) ?_;apply kp 1 [2];exact aw rfl rfl (ay Value.bool (by rw [h.2];rfl))
theorem oS(a b c:Int)(W:World)(h:b≤a∧a≤c):Calls prog 137 #[Iv a,Iv b,Iv c] W (Hr.aN W (.bool true)):=by
 apply Ej 13 func137 ntmps137;refine Qq 2 (nJ rfl rfl (dC  oM) rfl) ?_;apply kp 1 [6];exact aw rfl rfl (ay Value.bool (dC  oM))
theorem R7(p:eI)(W:World)(h: -77≤p.steps∧p.steps≤77∧-140≤p.semis∧p.semis≤140):Calls prog 138 #[p.val] W (Hr.aN W (Iv 0)):=by
 apply Ej 2 func138 ntmps138;refine Nw 12 fun b1=>?_;refine Qq 4 (dD rfl rfl (cw  oM) rfl) ?_;refine Qq 4 (dD rfl rfl (cw  oM) rfl) ?_;refine Qq 1 (dD rfl rfl (cw  oM) rfl) ?_;apply kp 7 [2,20];exact aw rfl rfl rfl
theorem anR(a b:Int)(em:Bool)(w:World):(Instr.checkKey em 10000 48 (.agg #[.int .i64 a,.int .i64 b])).run prog w= .ok () w:=by
 have h3:∀(v:Int) (w:World),(Instr.checkKey em 9999 3 (.int .i64 v)).run prog w= .ok () w:=fun v w=>MapKept.run_checkKey (d:= .int .i64) cr (by simp [MapKept.IsKey]) em 9998
 unfold Instr.checkKey
 simp [dM rX,part,qQ.1,h3,Result.andThen]
def jB(v:Value):Prop:=∃i:bu,v=i.val
theorem BB:Hr.Ba prog 48 jB:=QT (by rw [rX]) (fun k hk em w=>by obtain⟨i,rfl⟩:=hk;exact anR i.bU i.aL em w) (fun x y hx hy w=>by
 obtain⟨i,rfl⟩:=hx
 obtain⟨j,rfl⟩:=hy
 refine⟨_,Nc w,?_⟩
 cases i;cases j
 simp [bu.val,bu.enc])
theorem bu.key(i:bu):jB i.val:=⟨i,rfl⟩
theorem SP{cJ fX gB mj od:Int}:prog.built 220 [(0,Iv cJ),(2,Iv fX),(3,Iv gB),(4,Iv mj),(5,Iv od)]=some #[Iv cJ,Iv 0,Iv fX,Iv gB,Iv mj,Iv od,Iv 0]:=by kernel_rfl
theorem Nk(s:ax)(aU:Int)(L:Value)(b:Nat)(g:Nat)(cap:List Value)(W:World)(hb:Rd W (some ⟨b,0,none⟩) 8 [bH s aU L])(hs:s.rd W)(hB:bX s)(gu:Hr.fw prog g)(hw:∀(i c v x:Nat),i<s.ms.length→c<(aa s.ms i).cs.length→v<((aa (aa s.ms i).cs c)).vs.length→x<((aa (aa (aa s.ms i).cs c).vs v)).es.length→∀w,bb nX W w→Calls prog g ([Value.agg #[Iv 4,Iv 0,Iv c,Iv i,Iv v,Iv x,Iv 0],Value.agg (aW.enc ((aa (aa (aa (aa s.ms i).cs c).vs v).es x))).toArray]++cap).toArray w (aN w (.bool false))):Calls prog 151 #[.pointer (some ((bN (some ⟨b,0,none⟩)).add (0*8))),.func (.func g) #[] cap.toArray] W (Hr.aN W (.tuple #[])):=by
 have bz:ek W s.ms s.MA:=⟨hs.m,hs.mr⟩;have dj:=hB.ml;have jA:=hB.pl;have kL:=hB.sn;have iI:=hB.sl;have lC:=hB.ll;apply Ej 5 func151 ntmps151;refine Qq 0 (l5 (d2:=3) rfl iY rfl rfl zS rfl) ?_;refine Qq 3 (Qf rfl (.au hb .no) rfl) ?_;apply kp 1 [0,1,16,17,18];apply Ks 0 [18,0,1,16,17] [];refine dY (ι:=Nat) (fun i=>i≤s.ms.length) (fun i=>Iv i) (fun i=>s.ms.length-i) 0 dO rfl ?_;rintro i fT;(try dsimp only at fT);apply Cd 5;intros;have bw:i<s.ms.length:=oM
 have xX:=(hB.me bw).elim fun a h=>h.cs;apply ab 6;refine Qq 0 (Qi i rfl (.au hs.m .no)) ?_;refine Qq 0 (Qe rfl (.au hs.m .no)) ?_;refine Nw 3 fun b5=>?_;apply kp 8 [0,1,4,5,16,17,18];apply Ks 0 [26,0,1,4,16,17,18,24,25] [0];refine dY (ι:=Nat) (fun c=>c≤(aa s.ms i).cs.length) (fun c=>Iv c) (fun c=>(aa s.ms i).cs.length-c) 0 dO rfl ?_;rintro c qc;(try dsimp only at qc);apply Cd 5;intros;have cR:c<(aa s.ms i).cs.length:=oM
 have Bm:=(hB.cell bw cR).2.1;apply ab 6;refine Qq 0 (Qi c rfl (.au (bz.cs bw) .no)) ?_;refine Qq 0 (Qe rfl (.au (bz.cs bw) .no)) ?_;refine Nw 3 fun b7=>?_;apply kp 8 [0,1,4,6,7,16,17,18,24,25,26];apply Ks 0 [34,0,1,4,6,16,17,18,24,25,26,32,33] [0,0];refine dY (ι:=Nat) (fun v=>v≤((aa (aa s.ms i).cs c)).vs.length) (fun v=>Iv v) (fun v=>((aa (aa s.ms i).cs c)).vs.length-v) 0 dO rfl ?_;rintro v zG;(try dsimp only at zG);apply Cd 5;intros;have ef:v<((aa (aa s.ms i).cs c)).vs.length:=oM
 have jc:=((hB.cell bw cR).2.2 v ef).elim fun a h=>h.len;apply ab 6;refine Qq 0 (Qi v rfl (.au (bz.vs bw cR) .no)) ?_;refine Qq 0 (Qe rfl (.au (bz.vs bw cR) .no)) ?_;refine Nw 3 fun b9=>?_;apply kp 8 [0,1,4,6,8,9,16,17,18,24,25,26,32,33,34];apply Ks 0 [42,0,1,4,6,8,16,17,18,24,25,26,32,33,34,40,41] [0,0,0];refine dY (ι:=Nat) (fun x=>x≤((aa (aa (aa s.ms i).cs c).vs v)).es.length) (fun x=>Iv x) (fun x=>((aa (aa (aa s.ms i).cs c).vs v)).es.length-x) 0 dO rfl ?_;rintro x rG;(try dsimp only at rG);apply Cd 5;intros;have iB:x<((aa (aa (aa s.ms i).cs c).vs v)).es.length:=oM
 apply ab 6;refine Qq 0 (Qi x rfl (.au (bz.es bw cR ef) .no)) ?_;refine Qq 0 (Qe rfl (.au (bz.es bw cR ef) .no)) ?_;refine Nw 3 fun tO=>?_;apply Dd 6 [0,1,2,3,4,5,6,7,8,9,10,11];refine Dq 1 rfl (bO rfl vZ (SP)) ?_;refine Dq 2 rfl (dV rfl rfl gu (aX rfl) (fun w hk hm=>hw i c v x bw cR ef iB w hk)) ?_;refine Dq 1 rfl (Qc rfl fun w _ _=>Bu _ _ _ _ w rfl) ?_;apply kp 5 [0,1,4,6,8,16,17,18,24,25,26,32,33,34,40,41,42];refine Ag (x+1) ?_;omega;intros;apply ab 1;apply kp 5 [0,1,4,6,16,17,18,24,25,26,32,33,34];refine Ag (v+1) ?_;omega;intros;apply ab 1;apply kp 5 [0,1,4,16,17,18,24,25,26];refine Ag (c+1) ?_;omega;intros;apply ab 1;apply kp 5 [0,1,16,17,18];refine Ag (i+1) ?_;omega;intros;apply ab 1;apply kp 0 [];exact dm rfl rfl
namespace Hr
theorem aow{w w':World}(h:bb nX w w'):∃q os,w'=Go.Sort.grow (w.drewN q) os:=by
 refine⟨w'.drawn-w.drawn,w'.heap.extract w.heap.size w'.heap.size,?_⟩
 have hd:=h.drawn
 have hh:w'.heap=w.heap++w'.heap.extract w.heap.size w'.heap.size:=by
  apply Array.ext_getElem?
  intro i
  have hs:=h.size
  rw [Array.getElem?_append]
  split
  ·rename_i hi
   exact h.block i hi (fun e=>e)
  ·rename_i hi
   rw [Array.getElem?_extract]
   split
   ·congr 1;omega
   ·rename_i bW
    rw [Ek]
    omega
 have e:w.drawn+(w'.drawn-w.drawn)=w'.drawn:=oM
 obtain⟨h1,h2,h3,h4,h5⟩:=w'
 obtain⟨g1,g2,g3,g4,g5⟩:=w
 have a1:=h.os
 have a2:=h.tape
 have a3:=h.output
 simp only at a1 a2 a3 hh e hd
 subst a1;subst a2;subst a3
 simp only [Go.Sort.grow,World.drewN,e]
 rw [←hh]
theorem get!_toArray{α:Type} [Inhabited α](l:List α)(i:Nat)(h:i<l.length):(l.toArray)[i]! =aa l i:=by
 simp [aa,h]
theorem aox{α:Type}(f:α→Int)(cf:α→α→Int)(h:∀x y,cf x y<0↔f x<f y):Go.Sort.SWO (ltOf cf) where
 irrefl x:=by simp [ltOf,h]
 trans x y z h1 h2:=by simp [ltOf,h]at*;omega
 ntrans x y z h1 h2:=by simp [ltOf,h]at*;omega
section
variable{P:Program}{ρ:Go.Shelf.Ren}{α:Type} [Inhabited α]
theorem aa_{enc:α→List Value}{k t g c m:Nat}{xs ys:List α}{w:World}{eO:Array Value}{os:Array Obj}(bI:0<k)(hk:∀x,(enc x).length=k)(hg:w.heap[g]?=some (.cells eO t (0,0)))(hn:xs.length≤c)(hc:c≤maxLen)(kB:eO.size=c*k)(hl:ys.length=xs.length):
  bb (fun b=>b=g) w (sortWorldK enc k w g 0 m ys.toArray os)∧(an.ag t k (some ⟨g,0,none⟩) xs.length c (ys.map enc)).holds (sortWorldK enc k w g 0 m ys.toArray os):=by
 have bW:=uh hg
 have hb:(sortWorldK enc k w g 0 m ys.toArray os).heap[g]?=some (.cells (Go.Sort.putCells id 0 (Go.Sort.flatK enc k ys.toArray) eO) t (0,0)):=by
  unfold sortWorldK Go.Sort.grow Go.Sort.putRowK Go.Sort.putRow Go.Sort.mapBlock Go.Sort.ahead
  simp only
  rw [Kl (by simpa using bW),Array.getElem?_modify,aG rfl,hg]
  rfl
 refine⟨⟨rfl,rfl,rfl,by simp [sortWorldK,Go.Sort.putRowK,Go.Sort.ahead],fun b lW hx=>?_,by show w.drawn≤w.drawn+m;omega⟩,?_⟩
 ·unfold sortWorldK Go.Sort.grow Go.Sort.putRowK Go.Sort.putRow Go.Sort.mapBlock Go.Sort.ahead
  simp only
  rw [Kl (by simpa using lW),Array.getElem?_modify,aD (fun e=>hx e.symm)]
 ·have Cf:∀z∈ys.map enc,z.length=k:=fun z hz=>by obtain⟨y,_,rfl⟩:=cL.1 hz;exact hk y
  refine⟨⟨by rw [q8 _ Cf,bE,hl],.inr ⟨g,c,_,rfl,gl _,hb,hn,hc,by simp [Go.Sort.putCells,kB],?_⟩⟩,by simp [hl],Cf⟩
  have iJ:xs.length*k≤eO.size:=by rw [kB];exact sQ _ hn
  apply Ai
  intro i
  rw [Eo]
  split
  ·rename_i hi
   have hq:i/k<ys.length:=by rw [hl];exact Kq (by rw [ym];exact hi)
   have hr:i%k<k:=Et _ bI
   have h2:=EE (ys.map enc) k Cf (i/k) (enc (aa ys (i/k))) (bZ hq) (i%k) ((enc (aa ys (i/k)))[i%k]'(by rw [hk];exact hr)) (fi _)
   have e:i/k*k+i%k=i:=by rw [ym];exact Kr _ _
   rw [e]at h2
   rw [h2,Array.getElem?_toList]
   simp only [Go.Sort.putCells,Array.getElem?_mapIdx]
   have pE:i<eO.size:=oM
   rw [Ou pE]
   simp only [rW]
   rw [aG ⟨gl _,by rw [Go.Sort.size_flatK];simpa [hl]using hi⟩]
   simp only [Nat.sub_zero,id]
   rw [Go.Sort.get_flatK _ _ _ _ (by simpa [hl]using hi),get!_toArray _ _ hq]
   congr 1
   rw [List.getElem!_eq_getElem?_getD,fi (by rw [hk];exact hr)]
   rfl
  ·rename_i hi
   rw [wV]
   rw [q8 _ Cf,bE,hl]
   omega
theorem aba(L:SlLaysF0.n6 P ρ)(k t:Nat)(bI:0<k)(aE:∀w,(isAgg (ρ.t 24)).run P w= .ok true w)(zE:∀w,(Go.sizeOf (ρ.t 24)).run P w= .ok k w)(enc:α→List Value)(hk:∀x,(enc x).length=k)(h1:∀x,∀v∈enc x,v.oneCell'=true)(f:α→Int)(cf:α→α→Int)(oG:∀x y,cf x y<0↔f x<f y)(g:Nat)(cb:Array Value)(A:Option Addr)(c:Nat)(xs:List α)(W:World)
  (hm:Mem (bg [.ag t k A xs.length c (xs.map enc)]) W [.ag t k A xs.length c (xs.map enc)] W)(hn:0<xs.length)(fF:xs.length<4611686018427387904)(eg:fw P g)
  (aoy:∀x y w,bb (bg [.ag t k A xs.length c (xs.map enc)]) W w→Calls P g (#[.agg (enc x).toArray,.agg (enc y).toArray]++cb) w (aN w (.int .i64 (cf x y)))):
  Calls P (ρ.f 6) #[.slice A xs.length c,.func (.func g) #[] cb] W (bJ W (bg [.ag t k A xs.length c (xs.map enc)]) fun v m=>v= .tuple #[]∧∃ys:List α,ys.Perm xs∧(∀i j,i<j→j<xs.length→¬cf (aa ys j) (aa ys i)<0)∧m= [.ag t k A xs.length c (ys.map enc)]):=by
 have hh:(an.ag t k A xs.length c (xs.map enc)).holds W:=hm.holds _ sM
 obtain⟨b,eO,rfl,hg,h3,h4,h5,h6⟩:=EJ hh hn
 have hY:∀q,bg [.ag t k (some ⟨b,0,none⟩) xs.length c (xs.map enc)] q↔q=b:=fun q=>by simp [bg,an.at,eq_comm]
 have aoz:=uh hg
 have Cf:∀z∈xs.map enc,z.length=k:=fun z hz=>by obtain⟨y,_,rfl⟩:=cL.1 hz;exact hk y
 have cp:=bQ hh
 have hH:Go.Sort.HoldsK enc k W b 0 xs.toArray:=by
  intro j hj
  have fK:j<xs.length*k:=by simpa using hj
  have hq:j/k<xs.length:=Kq (by rw [ym];exact fK)
  have hr:j%k<k:=Et _ bI
  have e:j/k*k+j%k=j:=by rw [ym];exact Kr _ _
  constructor
  ·rcases cp with h|⟨ad,ha,h⟩
   ·have:xs= []:=by simpa using h
    subst this;simp at hn
   ·obtain rfl:=Option.some.inj ha
    have h2:=h (j/k) _ (bZ hq) (j%k) ((enc (aa xs (j/k)))[j%k]'(by rw [hk];exact hr)) (fi _)
    have ea:(Addr.add ⟨b,0,none⟩ (j/k*k+j%k))=⟨b,0+j,none⟩:=by rw [vf,e]
    rw [ea]at h2
    rw [h2,Go.Sort.get_flatK _ _ _ _ (by simpa using fK),get!_toArray _ _ hq]
    congr 1
    simp only [id]
    rw [List.getElem!_eq_getElem?_getD,fi (by rw [hk];exact hr)]
    rfl
  ·simp [World.frozen?,hg]
 have hO:=aox f cf oG
 have Nq:xs.toArray.size=xs.length:=by simp
 have b_:CmpLays P g cb enc k cf b 0 xs.toArray.size W:=by
  intro m os dk hdk x y
  have sA:=(aa_ (m:=m) (os:=os) (ys:=dk.toList) bI hk hg h3 h4 h5 (by rw [Es,hdk];simp)).1
  rw [Array.toArray_toList]at sA
  refine(aoy x y _ ((bb.refl _ W).step sA fun q _ hx e=>hx ((hY q).2 e))).mono ?_
  rintro e w' ⟨he,hw⟩
  obtain⟨q,os',h⟩:=aow hw
  exact⟨he,q,os',h⟩
 have BE:=AnyQ.slices_SortFunc L k aE zE enc hk h1 cf hO g cb b 0 c xs.toArray W eg b_ hH aoz (by rw [Nq];exact fF)
 rw [Nq]at BE
 refine BE.mono ?_
 rintro e w' ⟨rfl,d',n,os,hp,qT,rfl⟩
 obtain⟨fz,_,Nr⟩:=hp
 rw [Nq]at fz
 have e1:d'.extract 0 xs.length=d':=by rw [←fz];simp
 have e2:xs.toArray.extract 0 xs.length=xs.toArray:=by rw [←Nq];simp
 rw [e1,e2]at Nr
 have hw:=aa_ (m:=n) (os:=os) (ys:=d'.toList) bI hk hg h3 h4 h5 (by rw [Es,fz])
 rw [Array.toArray_toList]at hw
 have gT:∀i j,i<j→j<xs.length→¬cf (aa d'.toList j) (aa d'.toList i)<0:=fun i j lD hj=>by
  have hl:d'.toList.length=xs.length:=by simpa using fz
  have h:=qT i j (gl _) lD hj
  have e1:d'[j]! =aa d'.toList j:=by rw [←get!_toArray d'.toList j  oM,Array.toArray_toList]
  have e2:d'[i]! =aa d'.toList i:=by rw [←get!_toArray d'.toList i  oM,Array.toArray_toList]
  rw [e1,e2]at h
  simpa [ltOf]using h
 refine⟨_,_,⟨rfl,d'.toList,by simpa using Nr,gT,rfl⟩,rfl,(bb.refl _ W).step hw.1 (fun q _ hx e=>hx ((hY q).2 e)),?_⟩
 exact Mem.nil.cons hw.2 (fun q hq=> .inr ((hY q).2 (by simpa [an.at,eq_comm]using hq)))  sM 
end
end Hr
theorem aoW{ir iu wx:Int}{cX:Bool}:prog.built 149 [(0,.agg #[Iv ir,Iv iu,Iv wx]),(1,.bool cX)]=some #[Iv ir,Iv iu,Iv wx,.bool cX,Iv 0]:=by kernel_rfl
theorem abh{ir iu wx:Int}{cX:Bool}{fX:Int}:prog.built 149 [(0,.agg #[Iv ir,Iv iu,Iv wx]),(1,.bool cX),(2,Iv fX)]=some #[Iv ir,Iv iu,Iv wx,.bool cX,Iv fX]:=by kernel_rfl
theorem abi(x:l7)(f:Int)(W:World)(hx:x.ok):Calls prog 131 #[x.val,Iv f] W (bJ W nX (fun v m=>∃(hs:List Hd) (O:Option Addr) (c:Nat),v= .slice O hs.length c∧E7 hs∧m= [.ag 149 5 O hs.length c (hs.map Hd.enc)])):=by
 obtain⟨k1,v1,p0,m1,s1⟩:=id hx;apply En 2 func131 ntmps131;refine Nw 6 fun b2=>?_;refine Qq 0 (dL rfl rfl rfl  oM) ?_;refine Qq 8 (gv rfl rfl j6 cr (by rw [gQ];omega)) ?_;refine Hh (Hc rfl fun w _ _=>abg (48+x.Cv%30) (decide (f<0)) w  oM) ?_;rintro⟨v,m⟩ ⟨p1,rfl,gC,rfl⟩;apply ab 3;refine Nw 8 fun b6=>?_;refine Qq 0 (bO rfl vZ (aoW)) ?_;refine Nw 7 fun b27=>?_;refine Qq 2 (dL rfl rfl rfl  oM) ?_;apply kp 0 [1,2,4,5,8,31];apply Cd 0;intros;apply ab 6;refine Qq 0 (nT rfl rfl rfl ⟨oM,by decide⟩ (sf ⟨oM,oM⟩ (by decide))) ?_;refine Qq 0 (dL rfl rfl rfl  oM) ?_;refine Qq 3 (gv rfl rfl j6 cr (by rw [gQ];omega)) ?_;refine Hh (Hc rfl fun w _ _=>abg (48+x.Cv%30+1+x.AO/2%9) (decide (f<0)) w  oM) ?_;rintro⟨v,m⟩ ⟨p2,rfl,nY,rfl⟩;apply ab 3;refine Nw 3 fun b9=>?_;apply kp 6 [2,4,8,9];apply Sd 0 50;intro _ JA;apply ab 2;refine Qq 4 (dL rfl rfl rfl  oM) ?_;refine Qq 0 (nT rfl rfl rfl ⟨oM,by decide⟩ (sf ⟨oM,oM⟩ (by decide))) ?_;refine Qq 0 (dL rfl rfl rfl  oM) ?_;refine Qq 0 (gv rfl rfl j6 cr (by rw [gQ];omega)) ?_;refine Qq 0 (bO rfl vZ (abh)) ?_;refine Nw 0 fun b62=>?_;refine Hh (cY rfl rfl rfl zU zI rfl rfl sZ rfl (.ag sZ) rfl (bK rfl) (bK rfl)  oM oM) ?_;rintro⟨Jt,Ju⟩-;apply ab 2;apply kp 6 [4,8];apply Km 0 [0];exact aw rfl rfl ⟨[sg p1 x.E6 0,sg p2 _ (x.AO/32%3)],Jt,Ju,rfl,WW  oM oM oM,rfl⟩;intro _ JA;apply ab 7;refine Qq 0 (nT rfl rfl rfl ⟨oM,by decide⟩ (sf ⟨oM,oM⟩ (by decide))) ?_;refine Qq 0 (dL rfl rfl rfl  oM) ?_;refine Qq 0 (gv rfl rfl j6 cr (by rw [gQ];omega)) ?_;refine Qq 0 (bO rfl vZ (abh)) ?_;refine Nw 0 fun b62=>?_;refine Hh (cY rfl rfl rfl zU zI rfl rfl sZ rfl (.ag sZ) rfl (bK rfl) (bK rfl)  oM oM) ?_;rintro⟨Jt,Ju⟩-;apply ab 2;apply kp 6 [4,8];apply Km 0 [0];exact aw rfl rfl ⟨[sg p1 x.E6 0,sg p2 _ (x.AO/32%3)],Jt,Ju,rfl,WW  oM oM oM,rfl⟩;intros;apply ab 6;apply kp 1 [4];apply Km 0 [0];exact aw rfl rfl ⟨[sg p1 x.E6 0],_,_,rfl,ahQ  oM,rfl⟩
namespace Hr
inductive Uh(P:Program)(o:Oper):Prop where
 |tX (h:o_ P o)
 |call {f:FuncId} {xs:Array Operand} {ts:Array TypeId} (ho:o.op= .call {callee:= .value (.func f),args:=xs,argTypes:=ts}) (hf:fw P f)
inductive Gy(P:Program):List Oper→Prop where
 |nil:Gy P []
 |cons {o:Oper} {l:List Oper} (h:Uh P o) (t:Gy P l):Gy P (o::l)
theorem Gy.all{P:Program}{l:List Oper}(h:Gy P l):∀o∈l,Uh P o:=by
 induction h with
 |nil=>simp
 |cons h _ ih=>
  intro o ho
  rcases gP.1 ho with rfl|ho
  ·exact h
  ·exact ih o ho
theorem aet{P:Program}{o:Oper}{x:Operand}{i:Nat}(ho:o.op= .extract x i):o_ P o:=⟨(by rw [ho];intro c h;cases h),fun ρ w=>by
 show xF _
 simp only [execOp,ho]
 first
 |exact L1 fun _ _=>Ij
 |(split<;>simp [Sem.run,xF,runtimePanic,goPanic])⟩
theorem Gz{ρ:Option Nat}{P:Program}{aq:Array Oper}{ds:List Deferred}{T:Act→World→Prop}(hc:∀(i:Nat) (o:Oper),aq[i]?=some o→Uh P o):∀(dh:Nat) (aO:Array Bool) (a:Act) (w:World),a.defers=ds→
  wpAny P .any aq (jo T) dh aO {a with defers:= []} w→wpAnyIn (Fr ρ) 0 P .any aq (QD ds T) dh aO a w
 |0,aO,a,w,hd,h=>⟨h.1,rfl,hd,h.2.2⟩
 |dh+1,aO,a,w,hd,h=>⟨fun h0=>⟨rfl,hd,(h.1 h0).2⟩,fun i hi=>by
   have h2:=h.2 i hi
   unfold wpOp at h2
   unfold wpOpIn
   cases ho:aq[i]? with
   |none=>
    simp only [ho]at h2⊢
    exact Gz hc dh _ a w hd h2
   |some o=>
    simp only [ho]at h2⊢
    have AY:=hc i o ho
    by_cases hw:Region.wanted o (yielded aq a.tmps)=true
    ·rw [aG hw]at h2⊢
     rcases h2 with h2|⟨_,⟨_,_,h3⟩⟩
     ·unfold Oper.wpIn
      refine⟨fun f _=>trivial,?_⟩
      rcases AY with AY|⟨hop,oG⟩
      ·rw [B5 (Fr ρ) _ _ AY.1]
       unfold Oper.wp at h2
       rw [yR]at h2
       have h4:=AY.2 a.eval w
       cases hr:(execOp a.eval o).run P w with
       |ok nx w'=>
        rw [hr]at h2 h4
        cases nx with
        |value v=>
         refine Gz hc dh _ (a.put o.dst v) w' (by rw [rq];exact hd) ?_
         rw [←CK];exact h2
        |skip=>
         refine Gz hc dh _ (a.put o.dst undef) w' (by rw [rq];exact hd) ?_
         rw [←CK];exact h2
        |_=>exact h4.elim
       |halt x w'=>
        rw [hr]at h2
        cases x with
        |panic v=>cases h2.1
        |_=>exact h2.elim
      ·rw [B5 (Fr ρ) _ _ (by rw [hop];intro c h;cases h)]
       unfold Oper.wp at h2
       rw [yR]at h2
       rename_i f xs ts
       have hr:(execOp a.eval o).run P w= .ok (.enter f (xs.map a.eval)) w:=by
        have e:(execOp a.eval o).run P w=(callFunc f (xs.map a.eval)).run P w:=by
         simp [execOp,hop,resolve,invoke,Deferred.ofValue,Act.eval]
        rw [e];exact oG _ w
       rw [hr]at h2⊢
       refine⟨(fun h'=>by cases h'),?_⟩
       have h5:=callsIn_wide (n:=0).2 h2
       refine CallsIn.mono h5 fun e Hu he=>?_
       cases e with
       |returned v=>
        refine Gz hc dh _ (a.put o.dst v) Hu (by rw [rq];exact hd) ?_
        rw [←CK];exact he
       |panicked c=>cases he.1
       |outgrown=>obtain⟨_,_,he⟩:=he;cases he.1
     ·cases h3.1
    ·rw [aD hw]at h2⊢
     refine⟨fun f _=>trivial,Gz hc dh _ (a.put o.dst undef) w (by rw [rq];exact hd) ?_⟩
     rw [←CK];exact h2⟩
section
variable{ρ:Option Nat}{P:Program}{Qb:Exit→Act→World→Prop}{ds:List Deferred}{X:Nat→Prop}{W:World}{n:Nat}{k:List K}{S:St}
theorem atZ{id:Nat}{l:List Oper}(hm:P.follows .mixedOrders=true)(hc:Gy P l)(h:Il P X W n [.stop (JF ρ P Qb ds k)] l S):RF ρ P Qb ds X W n (.bC (.region id l.toArray true)::k) S:=by
 intro a w hs
 have h1:=h _ w hs.1
 have h2:=Gz (ρ:=ρ) (ds:=ds) (fun i o ho=>hc.all o (by rw [Oo]at ho;exact B3 ho)) _ _ a _ hs.2 h1
 refine wpIn_mono (wpIn_region_any hm h2) ?_
 rintro e a' w' ⟨rfl,hd,hT⟩
 have h3:JF ρ P Qb ds k {a' with defers:= []} w':=hT
 have h4:=h3 rfl
 rw [←hd]at h4
 exact h4
end
end Hr
end Go.Proofs.YtjpbickffffgkaaGreat
