/- Part. -/
import Derived.Test.YtjpbickffffgkaaGreatQ06
set_option linter.unusedSimpArgs false
set_option linter.unusedVariables false
set_option maxHeartbeats 40000000
set_option maxRecDepth 100000
namespace Go.Proofs.YtjpbickffffgkaaGreat
open Go Go.RowKit Hr Go.Proofs.Tryz
theorem PR{α:Type}{p:α→Bool}:∀l:List α,decide (0≤ba.ig p l)=l.any p:=by
 intro l
 have h:∀l:List α,decide (ba.ed p l<l.length)=l.any p:=by
  intro l
  induction l with
  |nil=>rfl
  |cons a r ih=>
   rw [ba.ed,List.any_cons]
   by_cases ha:p a=true
   ·rw [aG ha,ha];simp
   ·rw [aD ha,←ih,show p a=false from by simpa using ha];simp
 rw [←h l,ba.ig]
 by_cases h1:ba.ed p l<l.length
 ·rw [aG h1,dC h1];exact dC  oM
 ·rw [aD h1,cw h1];rfl
def E3(h:Hd):Bool:=h.jJ
def Ct(h k:Hd):Bool:=k.step==h.step&&(k.cd==h.cd&&(k.bR==h.bR))
def nS(x:bn):Bool:=decide (x.n.bo=1)&&x.hs.any E3
def yM(y:bn)(h:Hd):Bool:= !h.jJ||(decide (y.n.bo=1)&&y.hs.any (Ct h))
def Cu(x y:bn):Bool:= !decide (x.n.bo=1)||x.hs.all (yM y)
def E4{α:Type}(p:α→Bool)(l:List α)(k:Nat):Bool:=(l.take k).all p
theorem WT{α:Type} [Inhabited α]{p:α→Bool}{l:List α}{k:Nat}(h:k<l.length):E4 p l (k+1)=(E4 p l k&&p (aa l k)):=by simp [E4,q_ h]
theorem ahM{α:Type}{p:α→Bool}{l:List α}{k:Nat}(h:l.length≤k):E4 p l k=l.all p:=by rw [E4,eS h]
theorem WU{α:Type} [Inhabited α]{p:α→Bool}{l:List α}{k:Nat}(h:k<l.length)(hp:p (aa l k)=false):l.all p=false:=by
 rw [List.all_eq_false]
 exact⟨aa l k,aI h,by simp [hp]⟩
theorem ahN{w:World}{b:Nat}{t:TypeId}{v0 v1 v2 v3 v4:Value}(h:(an.aj b t [(0,v0),(1,v1),(2,v2),(3,v3),(4,v4)]).holds w):Rd w (some ⟨b,0,none⟩) 5 [[v0,v1,v2,v3,v4]]:=
 K7 h fun i u hu=>by
  match i,hu with
  |0,hu=>simpa [dw]using hu
  |1,hu=>simpa [dw]using hu
  |2,hu=>simpa [dw]using hu
  |3,hu=>simpa [dw]using hu
  |4,hu=>simpa [dw]using hu
  |i+5,hu=>simp at hu
structure l7 where
 bo:Int
 value:Int
 Cv:Int
 AO:Int
 E6:Bool
 du:Int
instance:Inhabited l7:=⟨⟨0,0,0,0,false,0⟩⟩
def l7.enc(x:l7):List Value:= [.int .u8 x.bo,.int .u8 x.value,.int .u8 x.Cv,.int .u8 x.AO,.bool x.E6,.int .u16 x.du]
def l7.val(x:l7):Value:= .agg x.enc.toArray
structure l7.ok(x:l7):Prop where
 k:0≤x.bo∧x.bo≤255
 v:0≤x.value∧x.value≤255
 p:0≤x.Cv∧x.Cv≤255
 m:0≤x.AO∧x.AO≤255
 s:0≤x.du∧x.du≤65535
structure AP(l:List Hd):Prop where
 n:l.length=1∨l.length=2
 e:nQ l=0
 r:∀h∈l,36≤h.aL∧h.aL≤102
structure E7(l:List Hd):Prop extends AP l where
 r2:∀h∈l,48≤h.aL∧h.aL≤90
def sg(p:aZ)(t:Bool)(s:Int):Hd:=⟨p.step,p.cd,p.bR,t,s⟩
theorem vE(p:aZ)(t:Bool)(s:Int):(sg p t s).aL=p.aL:=rfl
theorem ahQ{p:aZ}{t:Bool}(h:48≤p.aL∧p.aL≤90):E7 [sg p t 0]:=by
 refine⟨⟨.inl rfl,?_,fun x hx=>?_⟩,fun x hx=>?_⟩
 ·have e:nk (sg p t 0)=0:=Pw (by rw [vE];omega) (by show¬((0:Int)<0∨2<(0:Int));decide)
  rw [Lm  sM sM]
  simp [dE,hF,aa,e]
 ·simp only [c_]at hx
  subst hx;rw [vE];omega
 ·simp only [c_]at hx
  subst hx;rw [vE];omega
theorem WW{p q:aZ}{t u:Bool}{s:Int}(h:48≤p.aL∧p.aL≤90)(h2:p.aL<q.aL∧q.aL≤90)(hs:0≤s∧s≤2):E7 [sg p t 0,sg q u s]:=by
 refine⟨⟨.inr rfl,?_,fun x hx=>?_⟩,fun x hx=>?_⟩
 ·have e:nk (sg p t 0)=0:=Pw (by rw [vE];omega) (by show¬((0:Int)<0∨2<(0:Int));decide)
  have e2:nk (sg q u s)=0:=Pw (by rw [vE];omega) (by show¬(s<0∨2<s);omega)
  rw [Lm  sM sM]
  have e3:¬(sg q u s).aL≤(sg p t 0).aL:=by rw [vE,vE];omega
  simp [dE,hF,aa,e,e2,e3]
 ·simp only [gP,yp,yq]at hx
  rcases hx with rfl|rfl
  ·rw [vE];omega
  ·rw [vE];omega
 ·simp only [gP,yp,yq]at hx
  rcases hx with rfl|rfl
  ·rw [vE];omega
  ·rw [vE];omega
def AQ:List ByteArray:= [⟨#[108,97]⟩,⟨#[115,111,108]⟩,⟨#[97]⟩]
theorem WX{q:Nat}(h:q<3):([[.string ⟨#[108,97]⟩], [.string ⟨#[115,111,108]⟩], [.string ⟨#[97]⟩]]:List (List Value))[q]?=some [.string (aa AQ q)]:=by
 have:q=0∨q=1∨q=2:=oM
 rcases this with rfl|rfl|rfl<;>rfl
structure iT(x:bn)(id lg d:Int):Prop where
 bU:x.n.bU=1
 aL:x.n.aL=id
 fo:x.n.fo=lg
 jt:x.n.jt=d
 bo:x.n.bo=1∨x.n.bo=2∨x.n.bo=4
 hs:x.n.bo=1→AP x.hs
 Cw:x.n.bo≠1→x.hs= []∧x.gs= []∧x.ls= []∧x.n.eX=0∧x.n.dT=0∧x.n.fL=0
 gs:x.gs= []∨∃g,x.gs= [g]∧36≤g.aL∧g.aL≤102∧g.fo=3
 ls:x.ls= []∨∃q,q<3∧x.ls= [⟨aa AQ q,0⟩]
 eX:0≤x.n.eX∧x.n.eX≤3
 dT:0≤x.n.dT∧x.n.dT≤4
 fL:0≤x.n.fL∧x.n.fL≤9
 jd:x.n.jd=0
 jK:x.n.jK=0
def Rg(x:bn):Prop:=(∀h∈x.hs,48≤h.aL∧h.aL≤90)∧∀g∈x.gs,48≤g.aL∧g.aL≤90
structure Cx(x:bn)(id lg d:Int):Prop extends iT x id lg d where
 rg:Rg x
theorem iT.eT{x:bn}{id lg d:Int}(h:iT x id lg d):x.eT:=by
 refine⟨?_,?_,?_,by have:=h.eX;omega⟩
 ·by_cases hk:x.n.bo=1
  ·rcases(h.hs hk).n with h1|h1<;>omega
  ·rw [(h.Cw hk).1];decide
 ·rcases h.gs with h1|⟨g,h1,_⟩<;>rw [h1]<;>simp
 ·rcases h.ls with h1|⟨q,_,h1⟩<;>rw [h1]<;>simp
theorem ahR{q:Nat}(h:q<3):pJ [⟨aa AQ q,0⟩]=0:=by
 have:q=0∨q=1∨q=2:=oM
 rcases this with rfl|rfl|rfl<;>decide+kernel
theorem iT.uA{x:bn}{id lg d:Int}(h:iT x id lg d)(hi:0≤id∧id≤1073741824)(hv:fU lg d):gH x=0:=by
 have ha:=h.eX
 have ho:=h.dT
 have hd:=h.fL
 have hid:lF x.n:=by unfold lF;rw [h.bU,h.aL];omega
 have hk:¬(x.n.bo<1∨4<x.n.bo):=by have:=h.bo;omega
 have xx:¬(x.n.bo≠3∧¬fU x.n.fo x.n.jt):=by rw [h.fo,h.jt];exact fun g=>g.2 hv
 have fk:xr x.n:=by unfold xr;rw [h.jd,h.jK];omega
 have hp:¬(x.n.bo=1∧np x≠0):=by
  rintro⟨h1,h2⟩
  refine h2 ?_
  have hg:vz x.gs=0:=by
   rcases h.gs with e|⟨g,e,g1,g2,g3⟩
   ·rw [e];rfl
   ·rw [e,Px sM]
    have e2:xn g=0:=Wt  oM oM
    simp [dE,gF,aa,e2]
  have hl:pJ x.ls=0:=by
   rcases h.ls with e|⟨q,hq,e⟩
   ·rw [e];rfl
   ·rw [e];exact ahR hq
  rw [np,(h.hs h1).e,hg,hl];rfl
 have hs:kX x (kW x):=by
  by_cases h1:x.n.bo=1
  ·rw [HR (by unfold ff;omega)];exact PG x
  ·obtain⟨b1,b2,b3,b4,b5,b6⟩:=h.Cw h1
   have hb:ff x.n.bo:=by have:=h.bo;unfold ff;omega
   have h3:¬x.n.bo=3:=by have:=h.bo;omega
   rw [kW,aG hb]
   simp only [kX,aD h3,b1,b2,b3,b4,b5,b6,h.jd,h.jK,iR,and_self,true_and,lz]
   split<;>rfl
 rw [AK hid hk hs xx hp,WG fk]
theorem HW{k id lg d:Int}(h:k=2∨k=4):Cx ⟨⟨1,id,k,lg,d,0,0,0,0,0⟩, [], [], []⟩ id lg d:=
 ⟨⟨rfl,rfl,rfl,rfl,.inr h,fun h1=>by have e:k=1:=h1;omega,fun _=>⟨rfl,rfl,rfl,rfl,rfl,rfl⟩,.inl rfl,.inl rfl,⟨uf _,show(0:Int)≤3 by decide⟩,⟨uf _,show(0:Int)≤4 by decide⟩,⟨uf _,show(0:Int)≤9 by decide⟩,rfl,rfl⟩,⟨fun h hh=>(by cases hh),fun g hg=>(by cases hg)⟩⟩
theorem Ly{id lg d eX dT fL:Int}{hs:List Hd}{gs:List Gr}{ls:List eG}(hh:E7 hs)(hg:gs= []∨∃g,gs= [g]∧48≤g.aL∧g.aL≤90∧g.fo=3)(hl:ls= []∨∃q,q<3∧ls= [⟨aa AQ q,0⟩])(ha:0≤eX∧eX≤3)(ho:0≤dT∧dT≤4)(hd:0≤fL∧fL≤9):
  Cx ⟨⟨1,id,1,lg,d,eX,dT,fL,0,0⟩,hs,gs,ls⟩ id lg d:=by
 refine⟨⟨rfl,rfl,rfl,rfl,.inl rfl,fun _=>hh.toAP,fun h=>absurd rfl h,?_,hl,ha,ho,hd,rfl,rfl⟩,hh.r2,fun g hm=>?_⟩
 ·rcases hg with h|⟨g,e,h1,h2,h3⟩
  ·exact .inl h
  ·exact .inr ⟨g,e,oM,oM,h3⟩
 ·have ij:g∈gs:=hm
  rcases hg with h|⟨g',e,h1,h2,h3⟩
  ·rw [h]at ij;cases ij
  ·rw [e]at ij;rw [c_.1 ij];exact⟨h1,h2⟩
theorem HX{l:List Hd}(h:E7 l):0<l.length:=by rcases h.n with h|h<;>omega
theorem WY{l:List Hd}(h:E7 l):48≤(aa l 0).aL∧(aa l 0).aL≤90:=h.r2 _ (aI (HX h))
def Lz(h:Hd)(s:Bool):Gr:=⟨h.step,h.cd,h.bR,3,s⟩
theorem WZ{h:Hd}{s:Bool}(hh:48≤h.aL∧h.aL≤90):([Lz h s]=([]:List Gr))∨∃g, [Lz h s]= [g]∧48≤g.aL∧g.aL≤90∧g.fo=3:= .inr ⟨_,rfl,hh.1,hh.2,rfl⟩
structure oD(ts:List Tu.bj)(m:Int):Prop where
 sj:∀i,i<ts.length→(aa ts i).count=3∧(aa ts i).oB=3∧(aa ts i).normal=2∧0≤(aa ts i).first∧(aa ts i).first+3≤m
 aY:∀i j,i<j→j<ts.length→(aa ts i).first+3≤(aa ts j).first
theorem oD.fB{ts:List Tu.bj}{m:Int}(h:oD ts m){i:Nat}(hi:i<ts.length):Tu.fB (aa ts i)=(aa ts i).first+3:=by
 rw [Tu.fB,(h.sj i hi).1]
theorem oD.PT{ts:List Tu.bj}{n:Int}(h:oD ts n)(h2:n≤128):Tu.qp n ts ts.length:=by
 intro i hi
 obtain⟨e1,e2,e3,e4,e5⟩:=h.sj i hi
 refine Tu.O0 (by unfold Tu.lZ;omega) (fun h0=>?_) ?_
 ·have:=h.aY (i-1) i  oM hi
  unfold Tu.qo;omega
 ·have e:Tu.mB ts i (aa ts i).first= []:=by
   refine Tu.ago fun u hu=>?_
   obtain⟨j,hj,um,rfl⟩:=Tu.O7 hu
   rw [h.fB um]
   exact h.aY j i hj hi
  unfold Tu.re
  rw [e]
  simp
theorem oD.check{ts:List Tu.bj}{n:Int}(h:oD ts n)(h1:0≤n)(h2:n≤128)(h3:ts.length≤16):Tu.oC ts n=0:=Tu.VJ h1 h2 h3 (h.PT h2)
theorem PU{ts:List Tu.bj}{e:Int}:∀{k:Nat},(∀j,j<k→Tu.kT (aa ts j) e=false)→Tu.NN ts e k=1∧Tu.DD ts e k=1
 |0,_=>⟨rfl,rfl⟩
 |k+1,h=>by
  obtain⟨h1,h2⟩:=PU (k:=k) fun j hj=>h j  oM
  rw [Tu.Lc (h k  oM),Tu.Ld (h k  oM)]
  exact⟨h1,h2⟩
theorem W1{ts:List Tu.bj}{e:Int}{i:Nat}(h1:Tu.kT (aa ts i) e=true)(hn:(aa ts i).normal=2)(ha:(aa ts i).oB=3):∀{k:Nat},i<k→(∀j,j<k→j≠i→Tu.kT (aa ts j) e=false)→Tu.NN ts e k=2∧Tu.DD ts e k=3
 |k+1,hi,h=>by
  by_cases e0:i=k
  ·subst e0
   obtain⟨g1,g2⟩:=PU (ts:=ts) (e:=e) (k:=i) fun j hj=>h j  oM oM
   rw [Tu.NN,Tu.DD,aG h1,aG h1,g1,g2,hn,ha]
   exact⟨rfl,rfl⟩
  ·obtain⟨g1,g2⟩:=W1 h1 hn ha (k:=k)  oM fun j hj=>h j  oM
   rw [Tu.Lc (h k  oM oM),Tu.Ld (h k  oM oM)]
   exact⟨g1,g2⟩
theorem HY{t:Tu.bj}{e:Int}(h:e<t.first∨Tu.fB t≤e):Tu.kT t e=false:=by
 cases h1:Tu.kT t e with
 |false=>rfl
 |true=>rw [Tu.HI]at h1;omega
theorem W2{ts:List Tu.bj}{e x:Int}(hx:0≤x∧x≤7741440)(h:∀j,j<ts.length→Tu.kT (aa ts j) e=false):Tu.ia ts e x=(x,0):=by
 obtain⟨h1,h2⟩:=PU h
 rw [Tu.Ph hx (by rw [h1,h2];omega),h1,h2]
 simp
theorem ahS{ts:List Tu.bj}{m e x:Int}(h:oD ts m)(hx:0≤x∧x≤7741440)(h3:x%3=0){i:Nat}(hi:i<ts.length)(he:(aa ts i).first≤e∧e<(aa ts i).first+3):Tu.ia ts e x=(x*2/3,0):=by
 have h1:Tu.kT (aa ts i) e=true:=by rw [Tu.HI,h.fB hi];exact he
 obtain⟨g1,g2⟩:=W1 h1 (h.sj i hi).2.2.1 (h.sj i hi).2.1 hi fun j hj iU=>by
  rcases jH j i with bW|B_
  ·exact HY (.inr (by rw [h.fB hj];have:=h.aY j i bW hi;omega))
  ·exact HY (.inl (by have:=h.aY i j  oM hj;omega))
 rw [Tu.Ph hx (by rw [g1,g2];omega),g1,g2]
 rfl
instance:Inhabited bn:=⟨bn.zero⟩
def bn.o9(x:bn):Int:=if x.n.bo=3 then 0 else fC x.n.fo x.n.jt
theorem E8{a b:Int}(h:fU a b):0<fC a b∧fC a b≤7741440:=by
 unfold fU at h
 have h1:a= -1∨a=0∨a=1∨a=2∨a=3∨a=4∨a=5∨a=6∨a=7∨a=8:=oM
 have h2:b=0∨b=1∨b=2∨b=3:=oM
 rcases h1 with rfl|rfl|rfl|rfl|rfl|rfl|rfl|rfl|rfl|rfl<;>rcases h2 with rfl|rfl|rfl|rfl<;>decide
theorem LB{a b:Int}(h:fU a b):0≤fC a b∧fC a b≤7741440:=⟨Int.le_of_lt (E8 h).1,(E8 h).2⟩
theorem iT.o9{x:bn}{id lg d:Int}(h:iT x id lg d):x.o9=fC lg d:=by
 rw [bn.o9,aD (by have:=h.bo;omega),h.fo,h.jt]
def jw(es:List bn):List Int:=es.map bn.o9
def jg(es:List bn)(ts:List Tu.bj):List Int:=Tu.qt ts (jw es) es.length
structure VS(es:List bn)(ts:List Tu.bj)(u:Int):Prop where
 ev:∀j,j<es.length→∃id lg d,iT (aa es j) id lg d∧fU lg d
 so:oD ts es.length
 LC:∀i,i<ts.length→∃lg:Int,1≤lg∧lg≤4∧∀j:Nat,(aa ts i).first≤j→(j:Int)<(aa ts i).first+3→(aa es j).o9=fC lg 0
 ok:∀j:Nat,j<es.length→(Tu.ia ts j (aa es j).o9).2=0∧0<(Tu.ia ts j (aa es j).o9).1
 sum:Tu.ib (jg es ts)=u
theorem VS.nil:VS [] [] 0:=⟨fun j h=>absurd h sM,⟨fun i h=>absurd h sM,fun i j _ h=>absurd h sM⟩,fun i h=>absurd h sM,fun j h=>absurd h sM,rfl⟩
theorem oE{α:Type} [Inhabited α]{l r:List α}{j:Nat}(h:j<l.length):aa (l++r) j=aa l j:=by simp [aa,El h]
theorem E9{α:Type} [Inhabited α]{l r:List α}{j:Nat}(h:l.length≤j):aa (l++r) j=aa r (j-l.length):=by simp [aa,yj h]
theorem xy{es:List bn}{j:Nat}(h:j<es.length):aa (jw es) j=(aa es j).o9:=by
 simp [aa,jw,h]
theorem PW{ts W3:List Tu.bj}{w w':List Int}:∀{n:Nat},(∀j:Nat,j<n→(Tu.ia W3 j (aa w' j)).1=(Tu.ia ts j (aa w j)).1)→Tu.qt W3 w' n=Tu.qt ts w n
 |0,_=>rfl
 |n+1,h=>by rw [Tu.Ck,Tu.Ck,h n  oM,PW fun j hj=>h j  oM]
theorem VS.one{es:List bn}{ts:List Tu.bj}{u:Int}(h:VS es ts u){e:bn}{id lg d:Int}(he:iT e id lg d)(hv:fU lg d):VS (es++ [e]) ts (u+fC lg d):=by
 have ahT:∀x:Int,0≤x∧x≤7741440→Tu.ia ts es.length x=(x,0):=fun x hx=>W2 hx fun j hj=>HY (.inr (by rw [h.so.fB hj];exact(h.so.sj j hj).2.2.2.2))
 have xz:=ahT _ ⟨Int.le_of_lt (E8 hv).1,(E8 hv).2⟩
 have e1:∀j,j<es.length→aa (es++ [e]) j=aa es j:=fun j hj=>oE hj
 have e2:aa (es++ [e]) es.length=e:=by rw [E9 (cE _),wT];rfl
 refine⟨fun j hj=>?_,⟨fun i hi=>?_,h.so.aY⟩,fun i hi=>?_,fun j hj=>?_,?_⟩
 ·by_cases bW:j<es.length
  ·rw [e1 j bW];exact h.ev j bW
  ·rw [show j=es.length from by simp at hj;omega,e2];exact⟨_,_,_,he,hv⟩
 ·have:=h.so.sj i hi
  simp only [aT,yn];omega
 ·obtain⟨l,l1,l2,l3⟩:=h.LC i hi
  refine⟨l,l1,l2,fun j h1 h2=>?_⟩
  have:=(h.so.sj i hi).2.2.2.2
  rw [e1 j  oM];exact l3 j h1 h2
 ·by_cases bW:j<es.length
  ·rw [e1 j bW];exact h.ok j bW
  ·rw [show j=es.length from by simp at hj;omega,e2,he.o9,xz];exact⟨rfl,(E8 hv).1⟩
 ·have e3:jg (es++ [e]) ts=jg es ts++ [fC lg d]:=by
   unfold jg
   rw [aT,yn,Tu.Ck]
   rw [xy sM,e2,he.o9,xz]
   congr 1
   exact PW fun j hj=>by rw [xy (by simp;omega),xy hj,e1 j hj]
  rw [e3,Tu.HK,h.sum]
  simp [Tu.ib]
def nq(n:Nat):Tu.bj:=⟨n,3,3,2⟩
theorem W4{lg:Int}(h:1≤lg∧lg≤4):fC lg 0%3=0∧fU lg 0:=by
 have:lg=1∨lg=2∨lg=3∨lg=4:=oM
 rcases this with rfl|rfl|rfl|rfl<;>decide
theorem VS.ahU{es:List bn}{ts:List Tu.bj}{u:Int}(h:VS es ts u){a b c:bn}{i1 i2 i3 lg:Int}(ha:iT a i1 lg 0)(hb:iT b i2 lg 0)(hc:iT c i3 lg 0)(hl:1≤lg∧lg≤4):
  VS (es++ [a,b,c]) (ts++ [nq es.length]) (u+2*fC lg 0):=by
 obtain⟨h3,hv⟩:=W4 hl
 have rp:=E8 hv
 have W5:oD (ts++ [nq es.length]) (es.length+3):=by
  refine⟨fun i hi=>?_,fun i j lD hj=>?_⟩
  ·by_cases bW:i<ts.length
   ·rw [oE bW];have:=h.so.sj i bW;omega
   ·rw [E9  oM,show i-ts.length=0 from by simp at hi;omega]
    simp [aa,nq]
  ·by_cases bW:j<ts.length
   ·rw [oE bW,oE  oM];exact h.so.aY i j lD bW
   ·have fK:j=ts.length:=by simp at hj;omega
    subst fK
    rw [E9 (cE _),oE lD,wT]
    exact(h.so.sj i lD).2.2.2.2
 have fe:((es++ [a,b,c]).length:Int)=es.length+3:=by simp
 have xz:∀k:Nat,k<3→aa (es++ [a,b,c]) (es.length+k)=aa [a,b,c] k:=fun k hk=>by rw [E9  oM,Nat.add_sub_cancel_left]
 have Cy:∀k:Nat,k<3→(aa (es++ [a,b,c]) (es.length+k)).o9=fC lg 0:=fun k hk=>by
  rw [xz k hk]
  have:k=0∨k=1∨k=2:=oM
  rcases this with rfl|rfl|rfl
  ·exact ha.o9
  ·exact hb.o9
  ·exact hc.o9
 have AJ:aa (ts++ [nq es.length]) ts.length=nq es.length:=by rw [E9 (cE _),wT];rfl
 have PX:∀k:Nat,k<3→Tu.ia (ts++ [nq es.length]) ((es.length+k:Nat):Int) (fC lg 0)=(fC lg 0*2/3,0):=fun k hk=>
  ahS W5 ⟨Int.le_of_lt rp.1,rp.2⟩ h3 (i:=ts.length)  sM  (by rw [AJ];simp [nq];omega)
 have qm:∀(j:Nat) (x:Int),j<es.length→Tu.ia (ts++ [nq es.length]) j x=Tu.ia ts j x:=fun j x hj=>by
  have hk:∀k,k≤ts.length→Tu.NN (ts++ [nq es.length]) j k=Tu.NN ts j k∧Tu.DD (ts++ [nq es.length]) j k=Tu.DD ts j k:=by
   intro k
   induction k with
   |zero=>intro _;exact⟨rfl,rfl⟩
   |succ k ih=>
    intro hk
    obtain⟨g1,g2⟩:=ih  oM
    rw [Tu.NN,Tu.NN,Tu.DD,Tu.DD,oE  oM,g1,g2]
    exact⟨rfl,rfl⟩
  obtain⟨g1,g2⟩:=hk ts.length (cE _)
  have hb:Tu.kT (aa (ts++ [nq es.length]) ts.length) j=false:=by rw [AJ];exact HY (.inl (by simp [nq];omega))
  have e1:Tu.NN (ts++ [nq es.length]) j (ts++ [nq es.length]).length=Tu.NN ts j ts.length:=by
   rw [aT,yn,Tu.Lc hb,g1]
  have e2:Tu.DD (ts++ [nq es.length]) j (ts++ [nq es.length]).length=Tu.DD ts j ts.length:=by
   rw [aT,yn,Tu.Ld hb,g2]
  unfold Tu.ia
  rw [e1,e2]
 have W6:∀j:Nat,j<(es++ [a,b,c]).length→j<es.length∨∃k,k<3∧j=es.length+k:=fun j hj=>by
  by_cases bW:j<es.length
  ·exact .inl bW
  ·exact .inr ⟨j-es.length,by simp at hj;omega,oM⟩
 refine⟨fun j hj=>?_,by rw [fe];exact W5,fun i hi=>?_,fun j hj=>?_,?_⟩
 ·rcases W6 j hj with bW|⟨k,hk,rfl⟩
  ·rw [oE bW];exact h.ev j bW
  ·rw [xz k hk]
   have:k=0∨k=1∨k=2:=oM
   rcases this with rfl|rfl|rfl
   ·exact⟨_,_,_,ha,hv⟩
   ·exact⟨_,_,_,hb,hv⟩
   ·exact⟨_,_,_,hc,hv⟩
 ·by_cases bW:i<ts.length
  ·obtain⟨l,l1,l2,l3⟩:=h.LC i bW
   refine⟨l,l1,l2,?_⟩
   rw [oE bW]
   intro j h1 h2
   have:=(h.so.sj i bW).2.2.2.2
   rw [oE  oM];exact l3 j h1 h2
  ·have da:i=ts.length:=by simp at hi;omega
   subst da
   rw [AJ]
   refine⟨lg,hl.1,hl.2,fun j h1 h2=>?_⟩
   simp only [nq]at h1 h2
   have:=Cy (j-es.length)  oM
   rwa [show es.length+(j-es.length)=j from oM]at this
 ·rcases W6 j hj with bW|⟨k,hk,rfl⟩
  ·rw [oE bW,qm j _ bW];exact h.ok j bW
  ·rw [Cy k hk,PX k hk];exact⟨rfl,by show 0<fC lg 0*2/3;omega⟩
 ·have yN:jg (es++ [a,b,c]) (ts++ [nq es.length])=jg es ts++ [fC lg 0*2/3,fC lg 0*2/3,fC lg 0*2/3]:=by
   unfold jg
   rw [show(es++ [a,b,c]).length=es.length+0+1+1+1 from by simp,Tu.Ck,Tu.Ck,Tu.Ck]
   have q:∀k:Nat,k<3→(Tu.ia (ts++ [nq es.length]) ((es.length+k:Nat):Int) (aa (jw (es++ [a,b,c])) (es.length+k))).1=fC lg 0*2/3:=fun k hk=>by
    rw [xy (by simp;omega),Cy k hk,PX k hk]
   have q0:=q 0  oM
   rw [Eu]at q0
   rw [show es.length+0+1+1=es.length+2 from rfl,show es.length+0+1=es.length+1 from rfl,Eu,q0,q 1  oM,q 2  oM]
   rw [cj,cj]
   congr 1
   exact PW fun j hj=>by rw [xy (by simp;omega),xy hj,oE hj,qm j _ hj]
  rw [yN,Tu.HK,h.sum]
  simp only [Tu.ib]
  omega
theorem ahV{lg:Int}(h:1≤lg∧lg≤4):fC lg 0=qu 3870720 (lg+1).toNat:=by
 have:lg=1∨lg=2∨lg=3∨lg=4:=oM
 rcases this with rfl|rfl|rfl|rfl<;>rfl
theorem ahW{lg L:Int}(h:1≤lg∧lg≤4)(hL: -1≤L∧L≤lg)(he:3*fC lg 0=3*qu 3870720 (L+1).toNat):L=lg:=by
 have h1:lg=1∨lg=2∨lg=3∨lg=4:=oM
 have h2:L= -1∨L=0∨L=1∨L=2∨L=3∨L=4:=oM
 rcases h1 with rfl|rfl|rfl|rfl<;>rcases h2 with rfl|rfl|rfl|rfl|rfl|rfl<;>first|rfl|(exfalso;revert he;decide)|(exfalso;omega)
theorem LD{α:Type} [Inhabited α]{l:List α}{k j:Nat}:aa (l.drop k) j=aa l (k+j):=by simp [aa]
theorem oD.drop{ts:List Tu.bj}{m:Int}(h:oD ts m)(k:Nat):oD (ts.drop k) m:=by
 refine⟨fun i hi=>?_,fun i j lD hj=>?_⟩
 ·rw [kQ]at hi
  rw [LD];exact h.sj _  oM
 ·rw [kQ]at hj
  rw [LD,LD];exact h.aY _ _  oM oM
theorem oD.ahX{ts:List Tu.bj}{m:Int}(h:oD ts m){i:Nat}(hi:i<ts.length){e:Int}(he:e<(aa ts i).first+3):∀j,j<(ts.drop (i+1)).length→Tu.kT (aa (ts.drop (i+1)) j) e=false:=fun j hj=>by
 rw [kQ]at hj
 rw [LD]
 have:=h.aY i (i+1+j)  oM oM
 exact HY (.inl  oM)
def qv(l:List Int)(k:Nat):List Int:=l.take k++List.replicate (l.length-k) 0
theorem LF{l:List Int}{k:Nat}(h:k≤l.length):(qv l k).length=l.length:=by simp [qv];omega
theorem ahY(l:List Int):qv l 0=List.replicate l.length 0:=by simp [qv]
theorem W7{l:List Int}{k:Nat}(h:l.length≤k):qv l k=l:=by
 rw [qv,eS h,show l.length-k=0 from oM];simp
theorem W8{l:List Int}{k:Nat}(h:k<l.length):((qv l k).map Tu.eC).set k [.int .i64 (aa l k)]=(qv l (k+1)).map Tu.eC:=by
 have e:(l.take k).length=k:=by rw [eM];omega
 rw [qv,qv,q_ h,show l.length-k=l.length-(k+1)+1 from oM,List.replicate_succ,cn,B4 _ _ (by rw [bE,e];exact cE _),mQ,bE,e,wT]
 simp [Tu.eC]
theorem ahZ{l:List Int}{k j:Nat}(hj:j<k)(hl:j<l.length):aa (qv l k) j=aa l j:=by
 rw [qv,oE (by rw [eM];omega)]
 simp [aa,hj]
def mD(l:List Int):List Int:=(List.range l.length).map fun k=>Tu.ib (l.take k)
theorem Fa(l:List Int):(mD l).length=l.length:=by simp [mD]
theorem yO{l:List Int}{k:Nat}(h:k<l.length):aa (mD l) k=Tu.ib (l.take k):=by simp [mD,aa,h]
theorem ah0{l:List Int}{k:Nat}(h:k+1<l.length):aa (mD l) (k+1)=aa (mD l) k+aa l k:=by
 rw [yO h,yO  oM,Tu.ES  oM]
theorem ah1{l:List Int}(yP:(mD l).length=l.length):qv (mD l) 1=List.replicate l.length 0:=by
 rw [qv,yP]
 cases l with
 |nil=>rfl
 |cons a r=>
  have e:(mD (a::r)).take 1= [0]:=by
   rw [show 1=0+1 from rfl,q_ (by rw [yP];simp),yO sM]
   simp [Tu.ib]
  rw [e];simp [List.replicate_succ]
theorem W9{es:List aW}{k:Nat}(h:k<es.length):aa (es.map aW.x) k=(aa es k).x:=by simp [aa,h]
theorem ah2{es:List aW}{k:Nat}(h:k<es.length)(h0:gH (aa es k).x=0):aa (jw (es.map aW.x)) k=(if gH (aa es k).x≠0∨(aa es k).x.n.bo=3 then 0 else fC (aa es k).x.n.fo (aa es k).x.n.jt):=by
 rw [xy (by simpa using h),W9 h,bn.o9]
 by_cases h3:(aa es k).x.n.bo=3
 ·rw [aG h3,aG (.inr h3)]
 ·rw [aD h3,aD  oM]
theorem PY{es:List aW}{ts:List Tu.bj}{u:Int}(h:VS (es.map aW.x) ts u):∀x∈es,x.x.eT∧x.x.n.bo≠3:=fun x hx=>by
 obtain⟨i,hi,rfl⟩:=gS hx
 obtain⟨id,lg,d,he,-⟩:=h.ev i (by simpa using hi)
 rw [W9 hi]at he
 have e:aa es i=es[i]:=by simp [aa,hi]
 rw [e]at he
 exact⟨he.eT,by have:=he.bo;omega⟩
theorem ah3{es:List aW}{ts:List Tu.bj}{u:Int}(h:VS (es.map aW.x) ts u):∀j:Nat,j<(jw (es.map aW.x)).length→(Tu.ia ts j (aa (jw (es.map aW.x)) j)).2=0:=fun j hj=>by
 have fK:j<(es.map aW.x).length:=by simpa [jw]using hj
 rw [xy fK]
 exact(h.ok j fK).1
theorem ah4{es:List aW}{ts:List Tu.bj}{u:Int}(h:VS (es.map aW.x) ts u):∀i,i<ts.length→∃lg:Int,1≤lg∧lg≤4∧∀j:Nat,(aa ts i).first≤j→(j:Int)<(aa ts i).first+3→aa (jw (es.map aW.x)) j=fC lg 0:=fun i hi=>by
 obtain⟨lg,l1,l2,l3⟩:=h.LC i hi
 refine⟨lg,l1,l2,fun j h1 h2=>?_⟩
 have:=(h.so.sj i hi).2.2.2.2
 rw [xy  oM];exact l3 j h1 h2
def yQ(v:bF)(n:Int):Prop:=
 (∃x,v.es= [x]∧v.ts= []∧x.x.n.bo=3∧gH x.x=0∧x.x.eT)∨(VS (v.es.map aW.x) v.ts n∧(∀x∈v.es,gH x.x=0)∧0<v.es.length∧v.es.length≤128∧v.ts.length≤16∧v.ts.length≤v.tc)
def VL(v:bF)(n:Int):List Int:=if(aa v.es 0).x.n.bo=3 then [n]else jg (v.es.map aW.x) v.ts
theorem LG{v:bF}{n:Int}{x:aW}(h:v.es= [x])(h3:x.x.n.bo=3):VL v n= [n]:=by
 rw [VL,h,aG];exact h3
theorem LH{v:bF}{n u:Int}(h:VS (v.es.map aW.x) v.ts u)(hp:0<v.es.length):VL v n=jg (v.es.map aW.x) v.ts:=by
 rw [VL,aD (PY h _ (aI hp)).2]
theorem LI{v:bF}{n:Int}(h:yQ v n)(hn:1≤n∧n≤15482880):(0<(VL v n).length∧(VL v n).length≤128)∧Tu.ib (VL v n)=n∧∀x∈VL v n,0≤x∧x≤253671505920:=by
 rcases h with⟨x,e1,e2,nU,h0,hf⟩|⟨hv,h0,hp,hl,fk,oF⟩
 ·rw [LG e1 nU]
  refine⟨by simp,by simp [Tu.ib],fun y hy=>?_⟩
  simp only [c_]at hy
  subst hy;omega
 ·rw [LH hv hp]
  have lC:(jg (v.es.map aW.x) v.ts).length=v.es.length:=by simp [jg,Tu.ER]
  refine⟨oM,hv.sum,fun y hy=>?_⟩
  have hT:Tu.qs v.ts:=⟨_,by simp;omega,hv.so.PT (by simp;omega)⟩
  simp only [jg,Tu.qt,cL]at hy
  obtain⟨i,_,rfl⟩:=hy
  exact Tu.ags hT _ _
theorem W_{v:bF}{n:Int}(h:yQ v n)(hn:1≤n):∀x∈VL v n,0<x:=by
 rcases h with⟨x,e1,e2,nU,h0,hf⟩|⟨hv,h0,hp,hl,fk,oF⟩
 ·rw [LG e1 nU]
  intro y hy
  simp only [c_]at hy
  subst hy;omega
 ·rw [LH hv hp]
  intro y hy
  simp only [jg,Tu.qt,cL,e_]at hy
  obtain⟨i,hi,rfl⟩:=hy
  rw [xy hi]
  exact(hv.ok i hi).2
theorem Xa{v:bF}{n:Int}(h:yQ v n):(VL v n).length=v.es.length:=by
 rcases h with⟨x,e1,e2,nU,h0,hf⟩|⟨hv,h0,hp,hl,fk,oF⟩
 ·rw [LG e1 nU,e1];rfl
 ·rw [LH hv hp];simp [jg,Tu.ER]
theorem ah5{j:Nat}{x:Int}(hj:j≤3)(hx:0≤x∧x≤7741440):0≤(j:Int)*x∧(j:Int)*x≤23224320:=by
 refine⟨Int.mul_nonneg  oM hx.1,?_⟩
 have h1:(j:Int)*x≤3*x:=Ox  oM hx.1
 omega
def gU:List (Int×Int):=(List.range 10).flatMap fun(a:Nat)=>(List.range 4).map fun(d:Nat)=>((a:Int)-1,(d:Int))
theorem LO:gU.length=40:=by decide
theorem aio:∀a∈List.range 10,∀d∈List.range 4,gU.take (4*a+d)++ [((a:Int)-1,(d:Int))]=gU.take (4*a+(d+1)):=by decide
theorem aip{a d:Nat}(ha:a<10)(hd:d<4):gU.take (4*a+d)++ [((a:Int)-1,(d:Int))]=gU.take (4*a+(d+1)):=aio a (e_.2 ha) d (e_.2 hd)
def Xk(p:Int×Int):List Value:= [.agg #[.int .i64 p.1,.int .i64 p.2]]
def pN(p:Int×Int):List Value:= [.int .i64 p.1,.int .i64 p.2]
def rr(v:Int×Int):Prop:=fU v.1 v.2
theorem P5:∀v∈gU,rr v:=by
 unfold rr fU
 decide
theorem aiq:((5,0):Int×Int)∈gU:=by decide
def uV(v:Int×Int):Int:=fC v.1 v.2/945
theorem Fh{v:Int×Int}(h:rr v):8≤uV v∧uV v≤8192∧fC v.1 v.2=945*uV v:=by
 obtain⟨a,b⟩:=v
 unfold rr fU at h
 unfold uV
 simp only at h⊢
 have h1:a= -1∨a=0∨a=1∨a=2∨a=3∨a=4∨a=5∨a=6∨a=7∨a=8:=oM
 have h2:b=0∨b=1∨b=2∨b=3:=oM
 rcases h1 with rfl|rfl|rfl|rfl|rfl|rfl|rfl|rfl|rfl|rfl<;>rcases h2 with rfl|rfl|rfl|rfl<;>decide
theorem air:uV (5,0)=64:=by decide
theorem CE{α:Type} [Inhabited α]{l r:List α}{k:Nat}(h:k<l.length):aa (l++r) k=aa l k:=by simp [aa,El h]
def qy:List Int→Int
 | []=>0
 |x::l=>x+qy l
theorem LP:∀(a b:List Int),qy (a++b)=qy a+qy b
 | [],b=>by simp [qy]
 |x::a,b=>by
  have:=LP a b
  simp only [BX,qy]
  omega
def Ds(ds:List Int):Prop:=(∀i,i<ds.length→8≤aa ds i∧aa ds i≤8192)∧∃i,i<ds.length∧aa ds i=64
theorem ais{vs:List (Int×Int)}(h:vs.Perm gU):Ds (vs.map uV):=by
 have e:∀i,i<vs.length→aa (vs.map uV) i=uV (aa vs i):=fun i hi=>by simp [aa,mx,fi hi]
 refine⟨fun i hi=>?_,?_⟩
 ·rw [bE]at hi
  rw [e i hi]
  have:=Fh (P5 _ (h.mem_iff.1 (aI hi)))
  exact⟨this.1,this.2.1⟩
 ·obtain⟨i,hi,hv⟩:=gS (h.mem_iff.2 aiq)
  refine⟨i,by simpa using hi,?_⟩
  rw [e i hi,show aa vs i=(5,0)from by simp [aa,hi,hv]]
  exact air
theorem gz{α:Type} [Inhabited α]{l:List α}{k:Nat}(h:k<l.length):l.take (k+1)=l.take k++ [aa l k]:=by
 rw [List.take_add_one,fi h];simp [aa,h]
structure DPj(ds ct:List Int)(j:Nat):Prop where
 lo:aa ct j= -1∨(0≤aa ct j∧aa ct j≤j)
 zero:0<j→aa ct j≠0
 Xl:0<aa ct j→∃i,i<ds.length∧aa ds i≤j∧aa ct (j-(aa ds i).toNat)=aa ct j-1
 LQ:j%64=0→0≤aa ct j∧aa ct j*64≤j
def DP(ds ct:List Int)(k:Nat):Prop:=ct.length=k∧∀j,j<k→DPj ds ct j
structure tj(ds ct:List Int)(j i:Nat)(c:Int):Prop where
 is:c= -1∨(1≤c∧c≤j∧∃i',i'<i∧aa ds i'≤j∧aa ct (j-(aa ds i').toNat)=c-1)
 all:∀i',i'<i→aa ds i'≤j→0≤aa ct (j-(aa ds i').toNat)→1≤c∧c≤aa ct (j-(aa ds i').toNat)+1
theorem tj.ge{ds ct:List Int}{j i:Nat}{c:Int}(h:tj ds ct j i c):c= -1∨1≤c:=h.is.imp id (fun g=>g.1)
theorem DP.start{ds:List Int}:DP ds [0] 1:=⟨rfl,fun j hj=>by
 obtain rfl:j=0:=oM
 exact⟨.inr (by decide),fun h=>oM,fun h=>by simp [aa]at h,fun _=>by decide⟩⟩
theorem tj.start{ds ct:List Int}{j:Nat}:tj ds ct j 0 (-1):=⟨.inl rfl,fun i h=>oM⟩
theorem tj.skip{ds ct:List Int}{j i:Nat}{c:Int}(h:tj ds ct j i c)(hn:aa ds i≤j→0≤aa ct (j-(aa ds i).toNat)→1≤c∧c≤aa ct (j-(aa ds i).toNat)+1):tj ds ct j (i+1) c:=by
 refine⟨h.is.imp id fun⟨h1,h2,i',h3,h4⟩=>⟨h1,h2,i',oM,h4⟩,fun i' hi h1 h2=>?_⟩
 rcases jH i' i with bW|B_
 ·exact h.all i' bW h1 h2
 ·obtain rfl:i'=i:=oM
  exact hn h1 h2
theorem tj.take{ds ct:List Int}{j i:Nat}{c:Int}(h:tj ds ct j i c)(hD:DP ds ct j)(h8:8≤aa ds i)(h1:aa ds i≤j)(h2:0≤aa ct (j-(aa ds i).toNat))(h3:c<0∨aa ct (j-(aa ds i).toNat)+1<c):tj ds ct j (i+1) (aa ct (j-(aa ds i).toNat)+1):=by
 have hb:=(hD.2 (j-(aa ds i).toNat)  oM).lo
 refine⟨.inr ⟨oM,oM,i,oM,h1,oM⟩,fun i' hi g1 g2=>?_⟩
 rcases jH i' i with bW|B_
 ·have:=h.all i' bW g1 g2
  omega
 ·obtain rfl:i'=i:=oM
  omega
theorem DP.next{ds ct:List Int}{j:Nat}{c:Int}(hD:DP ds ct j)(pO:Ds ds)(hj:1≤j)(h:tj ds ct j ds.length c):DP ds (ct++ [c]) (j+1):=by
 have hl:=hD.1
 have e1:∀i,i<j→aa (ct++ [c]) i=aa ct i:=fun i hi=>CE  oM
 have e2:aa (ct++ [c]) j=c:=by simp [aa,←hl]
 refine⟨by simp [hl],fun q hq=>?_⟩
 rcases jH q j with bW|B_
 ·have g:=hD.2 q bW
  refine⟨by rw [e1 q bW];exact g.lo,by rw [e1 q bW];exact g.zero,fun hp=>?_,by rw [e1 q bW];exact g.LQ⟩
  rw [e1 q bW]at hp⊢
  obtain⟨i,hi,h1,h2⟩:=g.Xl hp
  exact⟨i,hi,h1,by rw [e1 _  oM];exact h2⟩
 ·obtain rfl:q=j:=oM
  refine⟨?_,?_,?_,?_⟩
  ·rw [e2];rcases h.is with h|h<;>omega
  ·rw [e2];rcases h.is with h|h<;>omega
  ·rw [e2]
   intro hp
   rcases h.is with h|⟨_,_,i,hi,h1,h2⟩
   ·omega
   ·have:=(pO.1 i hi).1
    exact⟨i,hi,h1,by rw [e1 _  oM];exact h2⟩
  ·rw [e2]
   intro hm
   obtain⟨i,hi,P6⟩:=pO.2
   have g:=(hD.2 (q-64)  oM).LQ  oM
   have:=h.all i hi (by rw [P6];omega) (by rw [P6];exact g.1)
   rw [P6]at this
   have e64:(64:Int).toNat=64:=rfl
   rw [e64]at this
   omega
def vK(ct:List Int)(n:Nat)(d:Int):Bool:=decide (d≤n)&&(aa ct (n-d.toNat)==aa ct n-1)
theorem Xm{α:Type} [Inhabited α]{p:α→Bool}:∀{l:List α} {i:Nat},i<l.length→p (aa l i)=true→ba.ed p l<l.length
 | [],i,h,_=>by simp at h
 |x::l,0,_,h=>by
  have h':p x=true:=h
  simp [ba.ed,h']
 |x::l,i+1,hi,h=>by
  by_cases hx:p x=true
  ·simp [ba.ed,hx]
  ·have:=Xm (l:=l) (i:=i) (by simpa using hi) h
   simp only [ba.ed,hx,ga]
   simp
   omega
structure CF(vs:List (Int×Int))(ct:List Int)(n left:Nat)(gI:List (Int×Int)):Prop where
 le:left≤n
 ok:∀v∈gI,rr v
 sum:qy (gI.map uV)+left=n
 len:gI.length+aa ct left=aa ct n
 nn:0≤aa ct left
theorem CF.start{vs:List (Int×Int)}{ct:List Int}{n:Nat}(h:0≤aa ct n):CF vs ct n n []:=⟨cE _,by simp,by simp [qy],by simp,h⟩
theorem CF.Fi{vs:List (Int×Int)}{ct:List Int}{n left k:Nat}{gI:List (Int×Int)}(h:CF vs ct n left gI)(hD:DP (vs.map uV) ct k)(hk:n<k)(hv:∀v∈vs,rr v)(h0:0<left):
  ∃i:Nat,i<vs.length∧ba.ig (vK ct left) (vs.map uV)=i∧uV (aa vs i)≤left∧aa (vs.map uV) i=uV (aa vs i)∧CF vs ct n (left-(uV (aa vs i)).toNat) (gI++ [aa vs i])∧rr (aa vs i):=by
 have g:=hD.2 left (by have:=h.le;omega)
 have hz:=g.zero h0
 have hn:=h.nn
 obtain⟨i,hi,h1,h2⟩:=g.Xl  oM
 have bW:=Xm (p:=vK ct left) hi (by simp [vK,h1,h2])
 have iU:ba.ig (vK ct left) (vs.map uV)≠-1:=by rw [ba.ig,aG bW];omega
 obtain⟨i',da,he,_,hp⟩:=ba.Cp iU
 rw [bE]at da
 have Xn:aa (vs.map uV) i'=uV (aa vs i'):=by simp [aa,mx,fi da]
 rw [Xn]at hp
 simp only [vK,eN,jl,g_]at hp
 have cy:=hv _ (aI da)
 have hb:=Fh cy
 refine⟨i',da,he,hp.1,Xn,⟨by have:=h.le;omega,fun v h_=>?_,?_,?_,?_⟩,cy⟩
 ·rcases ep.1 h_ with h'|h'
  ·exact h.ok v h'
  ·rw [c_.1 h'];exact cy
 ·have:=h.sum
  rw [cn,LP]
  simp only [mQ,List.map_nil,qy]
  omega
 ·have:=h.len
  rw [aT,yn,hp.2]
  omega
 ·rw [hp.2];omega
def ka(n:Int)(es:List aW):Prop:=∀j,j<es.length→(aa es j).x.n.bU=1∧(aa es j).x.n.aL=n+1+j
theorem ka.nil{n:Int}:ka n []:=fun j h=>absurd h  sM 
theorem ka.ru{n:Int}{es:List aW}(h:ka n es){e:aW}{id lg d:Int}(he:iT e.x id lg d)(hid:id=n+es.length+1):ka n (es++ [e]):=by
 intro j hj
 rw [aT,yn]at hj
 by_cases bW:j<es.length
 ·rw [CE bW];exact h j bW
 ·obtain rfl:j=es.length:=oM
  have e1:aa (es++ [e]) es.length=e:=by simp [aa]
  rw [e1]
  exact⟨he.bU,by rw [he.aL,hid];omega⟩
structure tk(n:Int)(es:List aW)(ts:List Tu.bj)(u:Int):Prop where
 vs:VS (es.map aW.x) ts u
 ee:ka n es
 rg:∀x∈es,Rg x.x
theorem tk.nil{n u:Int}(h:u=0):tk n [] [] u:=by subst h;exact⟨VS.nil,ka.nil,fun x hx=>by cases hx⟩
theorem tk.one{n u u':Int}{es:List aW}{ts:List Tu.bj}(h:tk n es ts u){e:aW}{id lg d:Int}(he:Cx e.x id lg d)(hid:id=n+es.length+1)(hv:fU lg d)(hu:u'=u+fC lg d):tk n (es++ [e]) ts u':=by
 subst hu
 refine⟨?_,h.ee.ru he.toiT hid,fun x hx=>?_⟩
 ·rw [cn]
  exact h.vs.one he.toiT hv
 ·rcases ep.1 hx with hx|hx
  ·exact h.rg x hx
  ·rw [c_.1 hx];exact he.rg
structure yW(n lg:Int)(es tr:List aW)(j:Nat):Prop where
 len:tr.length=j
 ee:ka n (es++tr)
 ev:∀i,i<j→∃id,Cx (aa tr i).x id lg 0
theorem yW.start{n lg u:Int}{es:List aW}{ts:List Tu.bj}(h:tk n es ts u):yW n lg es [] 0:=⟨rfl,by rw [iF];exact h.ee,fun i hi=>oM⟩
theorem yW.next{n lg:Int}{es tr:List aW}{j:Nat}(h:yW n lg es tr j){e:aW}{id d:Int}(he:Cx e.x id lg d)(hd:d=0)(hid:id=n+(es++tr).length+1):yW n lg es (tr++ [e]) (j+1):=by
 subst hd
 refine⟨by rw [aT,h.len];rfl,by rw [←cj];exact h.ee.ru he.toiT hid,fun i hi=>?_⟩
 by_cases bW:i<j
 ·rw [CE (by rw [h.len];exact bW)];exact h.ev i bW
 ·obtain rfl:i=j:=oM
  have e1:aa (tr++ [e]) i=e:=by simp [aa,←h.len]
  rw [e1];exact⟨id,he⟩
theorem yW.done{n lg u u':Int}{es tr:List aW}{ts:List Tu.bj}(h:yW n lg es tr 3)(hm:tk n es ts u)(hl:1≤lg∧lg≤4)(hu:u'=u+2*fC lg 0):tk n (es++tr) (ts++ [nq es.length]) u':=by
 subst hu
 refine⟨?_,h.ee,fun x hx=>by
  rcases ep.1 hx with hx|hx
  ·exact hm.rg x hx
  ·obtain⟨i,hi,rfl⟩:=gS hx
   obtain⟨id,g⟩:=h.ev i (by rw [←h.len];exact hi)
   rw [show aa tr i=tr[i] by simp [aa,hi]]at g;exact g.rg⟩
 obtain⟨a,b,c,rfl⟩:∃a b c,tr= [a,b,c]:=by
  have pP:=h.len
  rcases tr with _|⟨a,_|⟨b,_|⟨c,_|⟨d,t⟩⟩⟩⟩
  ·simp at pP
  ·simp at pP
  ·simp at pP
  ·exact⟨a,b,c,rfl⟩
  ·simp at pP
 obtain⟨i1,h1⟩:=h.ev 0  oM
 obtain⟨i2,h2⟩:=h.ev 1  oM
 obtain⟨i3,h3⟩:=h.ev 2  oM
 have e1:aa [a,b,c] 0=a:=rfl
 have e2:aa [a,b,c] 1=b:=rfl
 have e3:aa [a,b,c] 2=c:=rfl
 rw [e1]at h1
 rw [e2]at h2
 rw [e3]at h3
 have g:=VS.ahU hm.vs h1.toiT h2.toiT h3.toiT hl
 rw [bE]at g
 have e4:(es++ [a,b,c]).map aW.x=es.map aW.x++ [a.x,b.x,c.x]:=by simp
 rw [e4]
 exact g
theorem Xo{a d:Int}(ha:1≤a∧a≤4)(hd:0≤d∧d≤1):fU a d∧∃k:Nat,fC a d=60480*k∧1≤k∧k≤48:=by
 have h1:a=1∨a=2∨a=3∨a=4:=oM
 have h2:d=0∨d=1:=oM
 refine⟨by unfold fU;omega,?_⟩
 rcases h1 with rfl|rfl|rfl|rfl<;>rcases h2 with rfl|rfl
 ·exact⟨16,by decide,by decide,by decide⟩
 ·exact⟨24,by decide,by decide,by decide⟩
 ·exact⟨8,by decide,by decide,by decide⟩
 ·exact⟨12,by decide,by decide,by decide⟩
 ·exact⟨4,by decide,by decide,by decide⟩
 ·exact⟨6,by decide,by decide,by decide⟩
 ·exact⟨2,by decide,by decide,by decide⟩
 ·exact⟨3,by decide,by decide,by decide⟩
def nW(id:Int):aW:=⟨⟨⟨1,id,3,0,0,0,0,0,0,0⟩, [], [], []⟩,⟨none,0,none,0,none,0⟩⟩
def P7(id:Int)(v:Int×Int):aW:=⟨⟨⟨1,id,2,v.1,v.2,0,0,0,0,0⟩, [], [], []⟩,⟨none,0,none,0,none,0⟩⟩
theorem Xp{id:Int}{v:Int×Int}:Cx (P7 id v).x id v.1 v.2:=HW (.inl rfl)
theorem aiv{id:Int}(h:0≤id∧id≤1073741824):gH (nW id).x=0:=by
 have hid:lF (nW id).x.n:=by unfold lF nW;simp only;omega
 have hs:kX (nW id).x (kW (nW id).x):=by
  rw [kW,aG (show ff (nW id).x.n.bo from(by unfold ff;omega:ff (3:Int)))]
  simp [kX,nW,iR,vB]
 rw [AK hid (show¬((3:Int)<1∨4<(3:Int)) by decide) hs (fun g=>g.1 rfl) (fun g=>absurd g.1 (show¬(3:Int)=1 by decide)),WG (by unfold xr nW;simp)]
def bF.val(v:bF):Value:= .agg v.enc.toArray
structure lJ(v:bF)(n a:Int):Prop where
 e:yQ v n
 ee:ka a v.es
 len:0<v.es.length∧v.es.length≤56
 ev:∀x∈v.es,(∃id,x.x=(nW id).x)∨∃id lg d,iT x.x id lg d∧fU lg d
 rg:∀x∈v.es,Rg x.x
theorem lJ.aS{n a id:Int}{E:Option Addr}{ec:Nat}(hid:0≤a∧a≤1000000)(he:id=a+1):lJ ⟨[nW id], [],E,ec,none,0⟩ n a:=by
 subst he
 refine⟨.inl ⟨_,rfl,rfl,rfl,?_,?_⟩,fun j hj=>?_,by simp,fun x hx=> .inl ⟨a+1,?_⟩,fun x hx=>by rw [c_.1 hx];exact⟨fun h hh=>(by cases hh),fun g hg=>(by cases hg)⟩⟩
 ·exact aiv  oM
 ·exact⟨gl _,gl _,gl _,(show(0:Int)≤9223372036854775807 by decide)⟩
 ·obtain rfl:j=0:=by simpa using hj
  exact⟨rfl,by show a+1=a+1+(0:Nat);omega⟩
 ·rw [c_.1 hx]
theorem lJ.of{n a u:Int}{es:List aW}{ts:List Tu.bj}{E T:Option Addr}{ec tc:Nat}(h:tk a es ts u)(hu:u=n)(ha:0≤a∧a≤1000000)(hl:0<es.length∧es.length≤56)(ht:ts.length≤16)(P8:ts.length≤tc):lJ ⟨es,ts,E,ec,T,tc⟩ n a:=by
 subst hu
 have uE:∀x∈es,∃id lg d,iT x.x id lg d∧fU lg d∧0≤id∧id≤1073741824:=fun x hx=>by
  obtain⟨j,hj,rfl⟩:=gS hx
  obtain⟨id,lg,d,h1,h2⟩:=h.vs.ev j (by simpa using hj)
  have e1:aa (es.map aW.x) j=es[j].x:=by simp [aa,hj]
  have e2:aa es j=es[j]:=by simp [aa,hj]
  rw [e1]at h1
  have:=(h.ee j hj).2
  rw [e2,h1.aL]at this
  exact⟨id,lg,d,h1,h2,oM,oM⟩
 refine⟨.inr ⟨h.vs,fun x hx=>?_,hl.1,by have:=hl.2;show es.length≤128;omega,ht,P8⟩,h.ee,hl,fun x hx=> .inr ?_,h.rg⟩
 ·obtain⟨id,lg,d,h1,h2,h3,h4⟩:=uE x hx
  exact h1.uA ⟨h3,h4⟩ h2
 ·obtain⟨id,lg,d,h1,h2,_⟩:=uE x hx
  exact⟨id,lg,d,h1,h2⟩
namespace Hr
theorem cS.eq{a b:an}(h:a=b):cS a b:=by subst h;exact .refl
theorem ar.Ig{a b c:an}{rs l:List an}:ar (a::b::c:: .aY rs::l) (.aY (rs++ [a,b,c])::l):=by
 have h1:ar (a::b::c:: .aY rs::l) (.aY rs::a::b::c::l):= .aK (yt (a:=an.aY rs) (l₁:= [a,b,c]) (l₂:=l))
 refine h1.trans (.trans .sX ?_)
 rw [show rs++a::b::c::l=(rs++ [a,b,c])++l from by simp]
 exact .close_
end Hr
structure qz where
 dF:List l7
 A:Option Addr
 c:Nat
instance:Inhabited qz:=⟨⟨[],none,0⟩⟩
def qz.enc(l:qz):List Value:= [.slice l.A l.dF.length l.c]
structure jh where
 met:Int
 key:Int
 Ih:Int
 vL:Int
 vs:List qz
 VA:Option Addr
 vc:Nat
instance:Inhabited jh:=⟨⟨0,0,0,0, [],none,0⟩⟩
def jh.enc(b:jh):List Value:= [.int .u8 b.met,.int .u8 b.key,.int .u8 b.Ih,.int .u8 b.vL,.slice b.VA b.vs.length b.vc]
def jh.val(b:jh):Value:= .agg b.enc.toArray
structure qz.ok(l:qz):Prop where
 len:l.dF.length≤9223372036854775807
 dF:∀x∈l.dF,x.ok
structure jh.ok(b:jh):Prop where
 m:0≤b.met∧b.met≤255
 k:0≤b.key∧b.key≤255
 f:0≤b.Ih∧b.Ih≤255
 t:0≤b.vL∧b.vL≤255
 len:b.vs.length≤9223372036854775807
 vs:∀x∈b.vs,x.ok
structure jh.rd(w:World)(b:jh):Prop where
 v:Rd w b.VA 1 (b.vs.map qz.enc)
 r:∀x∈b.vs,Rd w x.A 6 (x.dF.map l7.enc)
def gJ(vs:List bF):List aW:=vs.flatMap bF.es
def dS(cs:List bA):List aW:=cs.flatMap fun c=>gJ c.vs
theorem qA(a b:List bF):gJ (a++b)=gJ a++gJ b:=by simp [gJ]
theorem LR(a b:List bA):dS (a++b)=dS a++dS b:=by simp [dS]
theorem qB(v:bF):gJ [v]=v.es:=by simp [gJ]
theorem LS(c:bA):dS [c]=gJ c.vs:=by simp [dS]
theorem ka.eY{n:Int}{a b:List aW}(ha:ka n a)(hb:ka (n+a.length) b):ka n (a++b):=by
 intro j hj
 by_cases bW:j<a.length
 ·rw [CE bW];exact ha j bW
 ·have e:aa (a++b) j=aa b (j-a.length):=by simp [aa,yj (show a.length≤j by omega)]
  rw [aT]at hj
  rw [e]
  have:=hb (j-a.length)  oM
  exact⟨this.1,by rw [this.2];omega⟩
structure xC(c:bA)(n:Int):Prop where
 cl:c.cl= []
 len:c.vs.length=1∨c.vs.length=2
 vs:∀v∈c.vs,∃a,lJ v n a
theorem LU:∀{vs:List bF} {n:Int},(∀v∈vs,∃a,lJ v n a)→(gJ vs).length≤56*vs.length
 | [],n,h=>by simp [gJ]
 |v::vs,n,h=>by
  obtain⟨a,hv⟩:=h v sM
  have h1:=LU (vs:=vs) (n:=n) fun x hx=>h x (by simp [hx])
  have e:gJ (v::vs)=v.es++gJ vs:=by simp [gJ]
  rw [e,aT,ga]
  have:=hv.len.2
  omega
theorem LV:∀{cs:List bA} {n:Int},(∀c∈cs,xC c n)→(dS cs).length≤112*cs.length
 | [],n,h=>by simp [dS]
 |c::cs,n,h=>by
  have hc:=h c sM
  have h0:=LU hc.vs
  have h1:=LV (cs:=cs) (n:=n) fun x hx=>h x (by simp [hx])
  have e:dS (c::cs)=gJ c.vs++dS cs:=by simp [dS]
  rw [e,aT,ga]
  have:=hc.len
  omega
def uF(n:Int)(b:jh):Ls:=⟨1,n+1,aa rj (b.met%5).toNat,0,b.key%9-4,false,0,0,0,0,0,0,ByteArray.mk #[]⟩
structure oI(m:ao)(k:Nat)(n:Int):Prop where
 met:Wm m.n.met
 tl:m.n.len=0
 id:m.n.bU=1∧m.n.aL=n+1
 fg: -4≤m.n.fg∧m.n.fg≤4
 ff:(m.n.fp=0∨m.n.fp=2∨m.n.fp=3)∧m.n.pK=0∧m.n.rf=0∧m.n.rh=0∧(m.n.xu=0∨m.n.xu=60)∧m.n.Co=0∧m.n.vC=ByteArray.mk #[]
 tm:m.tm= []∨∃t,m.tm= [t]∧t.cA=0∧300000≤t.yK∧t.yK≤2850000
 cs:m.cs.length=k
 ce:∀c∈m.cs,xC c m.n.met.ln
 ee:ka (n+1) (dS m.cs)
theorem oI.of{n:Int}{b:jh}{k:Nat}{cs:List bA}{tm:List kE}{TA CA:Option Addr}{tc cc:Nat}(hb:b.ok)(ht:tm= []∨∃t,tm= [t]∧t.cA=0∧300000≤t.yK∧t.yK≤2850000)(hl:cs.length=k)(hc:∀c∈cs,xC c (aa rj (b.met%5).toNat).ln)(hi:ka (n+1) (dS cs)):
  oI ⟨uF n b,tm,cs,TA,tc,CA,cc⟩ k n:=by
 have hk:=hb.k
 have hm:=hb.m
 exact⟨Lu  oM,rfl,⟨rfl,rfl⟩,⟨by show-4≤b.key%9-4;omega,by show b.key%9-4≤4;omega⟩,⟨.inl rfl,rfl,rfl,rfl,.inl rfl,rfl,rfl⟩,ht,hl,hc,hi⟩
theorem aiw{q:Nat}(h:q<5):∃u:Nat,(aa rj q).ln=60480*u∧1≤u∧u≤32:=by
 rcases(Lu h).ln.1 with e|e|e
 ·exact⟨32,by rw [e];rfl,by decide,by decide⟩
 ·exact⟨24,by rw [e];rfl,by decide,by decide⟩
 ·exact⟨20,by rw [e];rfl,by decide,by decide⟩
theorem Xq{b:Nat}{t:TypeId}{cs:List (Nat×Value)}{k:Nat}:bg [.aj b t cs] k↔b=k:=by simp [bg,an.at]
theorem LW{b:Nat}{t:TypeId}{cs yy:List (Nat×Value)}{W w w':World}(h:bb (bg [.aj b t cs]) W w)(h':bb (bg [.aj b t yy]) w w'):bb (bg [.aj b t cs]) W w':=h.step h' fun k _ hx hy=>hx (Xq.2 (Xq.1 hy))
section
namespace Hr
theorem Md{P:Program}{t:TypeId}{z:Value}(h:(P.info? t).bind (·.zero)=some z):∀w,(zeroValue t).run P w= .ok z w:=by
 intro w
 cases hi:P.info? t with
 |none=>rw [hi]at h;cases h
 |some i=>
  rw [hi]at h
  have hz:i.zero=some z:=h
  simp [zeroValue,typeInfo,hi,hz]
open Classical in
noncomputable def qH(f:Value→Option Value)(k v:Value):Value→Option Value:=fun q=>if q=k then some v else f q
theorem Iw{f:Value→Option Value}{k v:Value}:qH f k v k=some v:=aG rfl
theorem Bb{f:Value→Option Value}{k v q:Value}(h:q≠k):qH f k v q=f q:=aD h
structure tA(K:Value→Prop)(f:Value→Option Value)(es:List MapEntry)(ck:Nat):Prop where
 key:∀x∈es,K x.key
 nr:∀x∈es,x.born<ck
 nd:(es.map (·.born)).Nodup
 uk:(es.map (·.key)).Nodup
 Fi:∀x∈es,f x.key=some x.val
 QU:∀k,(∀x∈es,x.key≠k)→f k=none
theorem tA.nil{K:Value→Prop}{ck:Nat}:tA K (fun _=>none) [] ck:=⟨by simp,by simp,by simp,by simp,by simp,fun _ _=>rfl⟩
theorem QV{k:Value}:∀{es:List MapEntry} {i j:Nat} {v:Value},oP k es i=some (j,v)→∃q e,j=i+q∧es[q]?=some e∧e.key=k∧e.val=v
 | [],i,j,v,h=>by simp [oP]at h
 |x::es,i,j,v,h=>by
  by_cases e:x.key=k
  ·rw [oP,aG e]at h
   simp only [Option.some.injEq,Prod.mk.injEq]at h
   exact⟨0,x,oM,by simp,e,h.2⟩
  ·rw [oP,aD e]at h
   obtain⟨q,y,h1,h2,h3,h4⟩:=QV h
   exact⟨q+1,y,oM,by simpa using h2,h3,h4⟩
theorem QW{k:Value}:∀{es:List MapEntry} {i:Nat},oP k es i=none→∀x∈es,x.key≠k
 | [],_,_=>by simp
 |y::es,i,h=>by
  by_cases e:y.key=k
  ·rw [oP,aG e]at h;cases h
  ·rw [oP,aD e]at h
   intro x hx
   rcases gP.1 hx with rfl|hx
   ·exact e
   ·exact QW h x hx
theorem tA.Ym{K:Value→Prop}{f:Value→Option Value}{es:List MapEntry}{ck:Nat}(h:tA K f es ck)(k:Value):(oP k es 0).map (·.2)=f k:=by
 cases e:oP k es 0 with
 |none=>exact(h.QU k (QW e)).symm
 |some p=>
  obtain⟨q,x,_,h2,h3,h4⟩:=QV e
  have:=h.Fi x (B3 h2)
  rw [h3]at this
  rw [this,h4];rfl
theorem tA.ru{K:Value→Prop}{f:Value→Option Value}{es:List MapEntry}{ck:Nat}{k v:Value}(h:tA K f es ck)(hk:K k)(hn:∀x∈es,x.key≠k):tA K (qH f k v) (es++ [MapEntry.mk k v ck]) (ck+1):=by
 refine⟨fun x hx=>?_,fun x hx=>?_,?_,?_,fun x hx=>?_,fun q hq=>?_⟩
 ·rcases ep.1 hx with hx|hx
  ·exact h.key x hx
  ·rw [c_.1 hx];exact hk
 ·rcases ep.1 hx with hx|hx
  ·have:=h.nr x hx;omega
  ·rw [c_.1 hx];exact Nat.lt_succ_self _
 ·rw [cn,List.nodup_append]
  refine⟨h.nd,by simp,fun a ha b hb e=>?_⟩
  simp only [mQ,List.map_nil,c_]at hb
  obtain⟨x,hx,rfl⟩:=cL.1 ha
  have:=h.nr x hx
  omega
 ·rw [cn,List.nodup_append]
  refine⟨h.uk,by simp,fun a ha b hb e=>?_⟩
  simp only [mQ,List.map_nil,c_]at hb
  obtain⟨x,hx,rfl⟩:=cL.1 ha
  exact hn x hx (e.trans hb)
 ·rcases ep.1 hx with hx|hx
  ·rw [Bb (hn x hx)];exact h.Fi x hx
  ·rw [c_.1 hx];exact Iw
 ·have QX:q≠k:=fun e=>hq ⟨k,v,ck⟩  sM  e.symm
  rw [Bb QX]
  exact h.QU q fun x hx=>hq x (by simp [hx])
theorem tA.set{K:Value→Prop}{f:Value→Option Value}{es:List MapEntry}{ck q:Nat}{k v:Value}{e:MapEntry}(h:tA K f es ck)(hq:es[q]?=some e)(hk:e.key=k):tA K (qH f k v) (es.set q {e with val:=v}) ck:=by
 have QY:=(wN.1 hq).1
 have mg:es[q]=e:=(wN.1 hq).2
 have e1:(es.set q {e with val:=v}).map (·.key)=es.map (·.key):=by
  rw [jV]
  apply Ai
  intro i
  rw [G5]
  split
  ·rename_i hi;subst hi;rw [mx,hq,bE,aG QY];rfl
  ·rfl
 have e2:(es.set q {e with val:=v}).map (·.born)=es.map (·.born):=by
  rw [jV]
  apply Ai
  intro i
  rw [G5]
  split
  ·rename_i hi;subst hi;rw [mx,hq,bE,aG QY];rfl
  ·rfl
 have pe:∀x∈es.set q {e with val:=v},x={e with val:=v}∨(x∈es∧x.key≠k):=fun x hx=>by
  obtain⟨i,hi,rfl⟩:=gS hx
  rw [hU]at hi
  rw [List.getElem_set]
  split
  ·exact .inl rfl
  ·rename_i iU
   refine .inr ⟨GR _,fun uM=>iU ?_⟩
   have H6:=h.uk
   have h1:(es.map (·.key))[q]'(by simpa using QY)=k:=by simp [mg,hk]
   have h2:(es.map (·.key))[i]'(by simpa using hi)=k:=by simpa using uM
   exact(List.getElem_inj H6).1 (h1.trans h2.symm)
 refine⟨fun x hx=>?_,fun x hx=>?_,by rw [e2];exact h.nd,by rw [e1];exact h.uk,fun x hx=>?_,fun r hr=>?_⟩
 ·rcases pe x hx with rfl|⟨hx,_⟩
  ·exact h.key e (B3 hq)
  ·exact h.key x hx
 ·rcases pe x hx with rfl|⟨hx,_⟩
  ·exact h.nr e (B3 hq)
  ·exact h.nr x hx
 ·rcases pe x hx with rfl|⟨hx,iU⟩
  ·show qH f k v e.key=some v
   rw [hk,Iw]
  ·rw [Bb iU];exact h.Fi x hx
 ·have fI:∀y∈es.map (·.key),y≠r:=by
   rw [←e1]
   intro y hy
   obtain⟨x,hx,rfl⟩:=cL.1 hy
   exact hr x hx
  have OM:r≠k:=fun e'=>fI k (cL.2 ⟨e,B3 hq,hk⟩) e'.symm
  rw [Bb OM]
  exact h.QU r fun x hx=>fI x.key (cL.2 ⟨x,hx,rfl⟩)
def an.ew(b:Nat)(K:Value→Prop)(f:Value→Option Value):an:=
 .any (fun k=>b=k) (fun w=>∃es ck,w.heap[b]?=some (.map es.toArray ck)∧tA K f es ck) (fun w h k hk=>by obtain⟨_,_,h,_⟩:=h;subst hk;exact uh h) (fun w w' h hk=>by obtain⟨es,ck,h,g⟩:=h;exact⟨es,ck,(hk b rfl).trans h,g⟩)
theorem cS.ew{b:Nat}{K:Value→Prop}{f f':Value→Option Value}(h:f=f'):cS (.ew b K f) (.ew b K f'):=by subst h;exact .refl
def Fy(X:Nat→Prop)(W:World)(S:St)(b:Nat)(K:Value→Prop)(f:Value→Option Value):Prop:=∀w,bb X W w→Mem X W S.mem w→(an.ew b K f).holds w
theorem sy{w w':World}{b:Nat}{K:Value→Prop}{f:Value→Option Value}(h:(an.ew b K f).holds w)(hk:bb nX w w'):(an.ew b K f).holds w':=by
 obtain⟨es,ck,h1,g⟩:=h
 exact⟨es,ck,akp (ck:=ck) h1 hk,g⟩
theorem akq(P:Program)(k:Value)(w:World):∃m,(Instr.keyThatStays k k).run P w= .ok k {w with drawn:=w.drawn+m}:=by
 unfold Instr.keyThatStays
 split
 ·exact⟨0,rfl⟩
 ·exact⟨1,by simp [choose,Sem.run,Question.forced,Question.cut]⟩
theorem Yn{P:Program}{w:World}{r m:Nat}{es:Array MapEntry}{akr:Nat}(o:Obj)(hb:w.heap[r]?=some (.map es akr)):(setObj r o).run P {w with drawn:=w.drawn+m}= .ok () {w with heap:=w.heap.setIfInBounds r o,drawn:=w.drawn+m}:=by
 simp [setObj,Sem.run,hb]
section
variable{P:Program}{X:Nat→Prop}{W:World}{n:Nat}{S:St}{ai:List (Nat×Value)}{mem:List an}{o:Oper}{a:Act}{w:World}{d:Tmp}{x y z:Operand}{t kt et:TypeId}{K:Value→Prop}{f:Value→Option Value}
theorem Fy.ag{b:Nat}{l:List an}(h:ae S.mem (an.ew b K f) l):Fy X W S b K f:=fun _ _ hm=>h.holds hm
theorem Fy.au{b:Nat}(h:(an.ew b K f).holds W):Fy nX W S b K f:=fun _ hk _=>sy h hk
theorem Iy(ho:o.op= .makeMap t none)(hd:o.dst=some d)(hdn:Nat.blt d n=true):H1 P X W n ⟨ai,mem⟩ o (fun _:Nat=>True) (fun b=>⟨(d,.map (some b))::ai,an.ew b K (fun _=>none)::mem⟩):=by
 intro a w hs k Q hk
 have fG:(execOp a.eval o).run P w= .ok (.value (.map (some w.heap.size))) (w.alloc (.map #[] 0)):=by
  simp [execOp,ho,Instr.makeMap]
 refine vq fG ?_
 rw [hd]
 exact hk w.heap.size _ _ trivial ((hs.new (Obj.map #[] 0) (an.ew w.heap.size K (fun _=>none)) ⟨[],0,(MapKept.heap_alloc w _).1,tA.nil⟩ (fun _ h=>Eq.symm h)).put hdn _)
theorem Iz{b:Nat}{k zv v:Value}(ho:o.op= .lookup t x y false)(ht:P.underlying t=some (.map kt et))(hK:Ba P kt K)(hx:ev S.ai x=some (.map (some b)))(hy:ev S.ai y=some k)
  (hs:Fy X W S b K f)(hk:K k)(hz:∀w,(zeroValue et).run P w= .ok zv w)(hv:(f k).getD zv=v):Q1 P X W n S o v:=
 fun a w cz=> .inl (by
  obtain⟨es,ck,hh,hg⟩:=hs w cz.dx cz.mem
  have hf:=hK.Mc hk hg.key w
  have hl:=hg.Ym k
  subst hv
  cases e:oP k es 0 with
  |none=>
   rw [e]at hf hl
   rw [←hl]
   simp [execOp,ho,cz.eval hx,cz.eval hy,Instr.lookup,dM ht,G6 hh,hK.uA hk,hf,hz,Result.andThen]
  |some p=>
   rw [e]at hf hl
   rw [←hl]
   simp [execOp,ho,cz.eval hx,cz.eval hy,Instr.lookup,dM ht,G6 hh,hK.uA hk,hf,Result.andThen])
theorem aks{b:Nat}{k zv v:Value}{c:Bool}(ho:o.op= .lookup t x y true)(ht:P.underlying t=some (.map kt et))(hK:Ba P kt K)(hx:ev S.ai x=some (.map (some b)))(hy:ev S.ai y=some k)
  (hs:Fy X W S b K f)(hk:K k)(hz:∀w,(zeroValue et).run P w= .ok zv w)(hv:(f k).getD zv=v)(hc:(f k).isSome=c):Q1 P X W n S o (.tuple #[v,.bool c]):=
 fun a w cz=> .inl (by
  obtain⟨es,ck,hh,hg⟩:=hs w cz.dx cz.mem
  have hf:=hK.Mc hk hg.key w
  have hl:=hg.Ym k
  subst hv hc
  cases e:oP k es 0 with
  |none=>
   rw [e]at hf hl
   rw [←hl]
   simp [execOp,ho,cz.eval hx,cz.eval hy,Instr.lookup,dM ht,G6 hh,hK.uA hk,hf,hz,Result.andThen]
  |some p=>
   rw [e]at hf hl
   rw [←hl]
   simp [execOp,ho,cz.eval hx,cz.eval hy,Instr.lookup,dM ht,G6 hh,hK.uA hk,hf,Result.andThen])
theorem Fz{b:Nat}{l:List an}{k v:Value}(ho:o.op= .mapUpdate t x y z)(hd:o.dst=none)(ht:P.underlying t=some (.map kt et))(hK:Ba P kt K)(hx:ev ai x=some (.map (some b)))(hy:ev ai y=some k)(hz:ev ai z=some v)
  (hs:ae mem (an.ew b K f) l)(hk:K k):H1 P X W n ⟨ai,mem⟩ o (fun _:Unit=>True) (fun _=>⟨ai,an.ew b K (qH f k v)::l⟩):=by
 intro a w cz kk Q uM
 obtain⟨es,ck,hh,hg⟩:=hs.holds cz.mem
 have bW:=uh hh
 have hf:=hK.Mc hk hg.key w
 have K2:∀(pQ:List MapEntry) (zk m:Nat),tA K (qH f k v) pQ zk→(execOp a.eval o).run P w= .ok .skip {w with heap:=w.heap.setIfInBounds b (.map pQ.toArray zk),drawn:=w.drawn+m}→o.wp P a w kk Q:=by
  intro pQ zk m hg' fG
  refine Hl fG ?_
  rw [hd]
  refine uM () _ _ trivial ?_
  have sA:bb (fun k=>k=b) w {w with heap:=w.heap.setIfInBounds b (.map pQ.toArray zk),drawn:=w.drawn+m}:=
   ⟨rfl,rfl,rfl,by simp,fun k _ hx=>by simp [Array.getElem?_setIfInBounds,show¬b=k from fun e=>hx e.symm],Nat.le_add_right _ _⟩
  have hw:(an.ew b K (qH f k v)).holds {w with heap:=w.heap.setIfInBounds b (.map pQ.toArray zk),drawn:=w.drawn+m}:=
   ⟨pQ,zk,by show(w.heap.setIfInBounds b (.map pQ.toArray zk))[b]?=some (.map pQ.toArray zk);simp [Array.getElem?_setIfInBounds,bW],hg'⟩
  have hm:Mem (fun k=>k=b) w [an.ew b K (qH f k v)] {w with heap:=w.heap.setIfInBounds b (.map pQ.toArray zk),drawn:=w.drawn+m}:=Mem.nil.cons hw (fun k hk=> .inr (Eq.symm hk)) sM
  exact cz.change (Y:=fun k=>k=b) (cs:= [an.ew b K f]) (ls:=l) hs.aK sA (fun k hk=>⟨an.ew b K f,by simp,hk.symm⟩) hm
 cases e:oP k es 0 with
 |none=>
  rw [e]at hf
  refine K2 (es++ [MapEntry.mk k v ck]) (ck+1) 0 (hg.ru hk (QW e)) ?_
  simp [execOp,ho,cz.eval hx,cz.eval hy,cz.eval hz,Instr.mapUpdate,dM ht,G6 hh,hK.uA hk,hf,MapKept.run_setObj_map _ hh,Result.andThen]
 |some p=>
  obtain⟨j,u⟩:=p
  rw [e]at hf
  obtain⟨q,y,h1,h2,h3,h4⟩:=QV e
  rw [ub]at h1
  subst h1
  obtain⟨m,cG⟩:=akq P k w
  refine K2 (es.set j {y with val:=v}) ck m (hg.set h2 h3) ?_
  have Yo:(es.toArray[j]?.map (·.key)).getD k=k:=by rw [Oo,h2];exact h3
  have aku:es.toArray.modify j (fun e=>{e with key:=k,val:=v})=(es.set j {y with val:=v}).toArray:=by
   apply G3.1
   rw [Array.toList_modify]
   apply Ai
   intro i
   rw [List.getElem?_modify,G5]
   split
   ·rename_i hi
    subst hi
    rw [h2,aG (wN.1 h2).1]
    subst h3
    rfl
   ·simp
  simp [execOp,ho,cz.eval hx,cz.eval hy,cz.eval hz,Instr.mapUpdate,dM ht,G6 hh,hK.uA hk,hf,Result.andThen,Yn _ hh]
  rw [show(Option.map (·.key) es[j]?).getD k=k from by rw [h2];exact h3]
  simp only [cG,Result.andThen]
  rw [Yn _ hh]
  have IB:(es.modify j fun e=>{e with key:=k,val:=v})=es.set j {y with val:=v}:=by
   have:=ay Array.toList aku
   simpa using this
  rw [IB]
end
end Hr
end
theorem Dy:∀w,(zeroValue 4).run prog w= .ok (.bool false) w:=Hr.Md (by kernel_rfl)
namespace Hr
def akw(K:Value→Prop)(f:Value→Option Value)(w:World):Option Nat→Prop
 |none=>∀k,f k=none
 |some b=>(an.ew b K f).holds w
def an.ph(q:Option Nat)(K:Value→Prop)(f:Value→Option Value):an:=
 .any (fun k=>q=some k) (fun w=>akw K f w q) (fun w h k hk=>by subst hk;exact(show(an.ew k K f).holds w from h).lt k rfl)
  (fun w w' h hk=>by
   cases q with
   |none=>exact h
   |some b=>exact(show(an.ew b K f).holds w from h).o5 fun k OE=>hk k (by rw [show b=k from OE]))
theorem cS.toO{b:Nat}{K:Value→Prop}{f:Value→Option Value}:cS (.ew b K f) (.ph (some b) K f):=
 ⟨fun k hk=>by
  have e:some b=some k:=hk
  injection e,fun w h=>h⟩
theorem ar.Yw{K:Value→Prop}{m:List an}:ar m (.ph none K (fun _=>none)::m):=fun X W w h=>by
 refine⟨h.cons (fun _=>rfl) (fun b hb=>?_) (fun s hs b hb=>?_),fun r' jn b hb=>?_⟩
 ·cases(show none=some b from hb)
 ·cases(show none=some b from hb)
 ·rcases gP.1 jn with rfl|jn
  ·cases(show none=some b from hb)
  ·exact⟨r',jn,hb⟩
section
variable{P:Program}{X:Nat→Prop}{W:World}{n:Nat}{S:St}{ai:List (Nat×Value)}{mem:List an}{o:Oper}{a:Act}{w:World}{d:Tmp}{x y z:Operand}{t kt et:TypeId}{K:Value→Prop}{f:Value→Option Value}
theorem Yx{q:Option Nat}{l:List an}{k zv v:Value}{c:Bool}(ho:o.op= .lookup t x y true)(ht:P.underlying t=some (.map kt et))(hK:Ba P kt K)(hx:ev S.ai x=some (.map q))(hy:ev S.ai y=some k)
  (hs:ae S.mem (an.ph q K f) l)(hk:K k)(hz:∀w,(zeroValue et).run P w= .ok zv w)(hv:(f k).getD zv=v)(hc:(f k).isSome=c):Q1 P X W n S o (.tuple #[v,.bool c]):=by
 cases q with
 |some b=>exact aks ho ht hK hx hy (fun w _ hm=>hs.holds hm) hk hz hv hc
 |none=>
  exact fun a w cz=> .inl (by
   have h0:∀k,f k=none:=hs.holds cz.mem
   rw [h0]at hv hc
   subst hv hc
   have hf:=hK.Mc (es:= []) hk  sM  w
   simp [oP]at hf
   simp [execOp,ho,cz.eval hx,cz.eval hy,Instr.lookup,dM ht,hK.uA hk,hf,hz,Result.andThen])
end
end Hr
end Go.Proofs.YtjpbickffffgkaaGreat
