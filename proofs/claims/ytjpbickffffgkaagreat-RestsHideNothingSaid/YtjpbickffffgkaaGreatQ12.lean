/- Part. -/
import Derived.Test.YtjpbickffffgkaaGreatQ11
set_option linter.unusedSimpArgs false
set_option linter.unusedVariables false
set_option maxHeartbeats 40000000
set_option maxRecDepth 100000
namespace Go.Proofs.YtjpbickffffgkaaGreat
open Go Go.RowKit Hr Go.Proofs.Tryz
def rE:Int→List vW→List (Int×Int)
 |_, []=> []
 |D,m::ms=>if m.hid then rE (D+m.len) ms else(m.len,D)::rE D ms
def rF:Int→Int→List (Int×Int)→Int→Int
 |_,D0, [],_=>D0
 |t,_,(len,D)::r,x=>if x<t+len then D else rF (t+len) D r x
def zm:Bool→List vW→Prop
 |_, []=>True
 |q,m::ms=>0≤m.len∧(m.hid=true→q=true∧(∀x∈m.dF,qK x)∧zm true ms)∧
  (m.hid=false→(∀x∈m.dF,∀e on off,x=some (e,on,off)→e.hs≠ []→0≤on∧on<m.len)∧∃q',(q'=true→m.dF≠ []∧∀x∈m.dF,qK x)∧zm q' ms)
theorem Ra{δ:Int→Int}:∀{ms:List vW} {q:Bool} {t D D0:Int},zm q ms→(∀x,t≤x→δ x=rF t D0 (rE D ms) x)→IL δ q t D ms
 | [],_,_,_,_,_,_=>trivial
 |m::ms,q,t,D,D0,h,hd=>by
  refine⟨fun hh=>?_,fun hh=>?_⟩
  ·obtain⟨h1,h2,h3⟩:=h.2.1 hh
   refine⟨h1,h2,Ra h3 (D0:=D0) fun x hx=>?_⟩
   rw [hd x hx,rE,aG hh]
  ·obtain⟨h1,q',h2,h3⟩:=h.2.2 hh
   have hv:rE D (m::ms)=(m.len,D)::rE D ms:=by rw [rE,hh];rfl
   refine⟨fun x hx e on off he iU=>?_,q',h2,Ra h3 (D0:=D) fun x hx=>?_⟩
   ·obtain⟨g1,g2⟩:=h1 x hx e on off he iU
    rw [hd _  oM,hv,rF,aG  oM]
   ·have:=h.1
    rw [hd x  oM,hv,rF,aD  oM]
def C6:Int→List (Int×Int)→Prop
 |_, []=>True
 |D0,(_,D)::r=>D0≤D∧C6 D r
theorem YY:∀{l:List (Int×Int)} {t D0 x:Int},C6 D0 l→D0≤rF t D0 l x
 | [],_,_,_,_=>uf _
 |(len,D)::r,t,D0,x,h=>by
  rw [rF]
  split
  ·exact h.1
  ·exact Int.le_trans h.1 (YY h.2)
theorem YZ:∀{l:List (Int×Int)} {t D0 x y:Int},C6 D0 l→x≤y→rF t D0 l x≤rF t D0 l y
 | [],_,_,_,_,_,_=>uf _
 |(len,D)::r,t,D0,x,y,h,KK=>by
  rw [rF,rF]
  split
  ·split
   ·exact uf _
   ·exact YY h.2
  ·rw [aD  oM]
   exact YZ h.2 KK
theorem C6.le:∀{l:List (Int×Int)} {D D0:Int},C6 D l→D0≤D→C6 D0 l
 | [],_,_,_,_=>trivial
 |(len,D1)::r,D,D0,h,hl=>⟨Int.le_trans hl h.1,h.2⟩
theorem Rb:∀{ms:List vW} {q:Bool} {D:Int},zm q ms→C6 D (rE D ms)
 | [],_,_,_=>trivial
 |m::ms,q,D,h=>by
  rw [rE]
  have hl:=h.1
  cases hh:m.hid with
  |true=>
   rw [aG rfl]
   exact(Rb (h.2.1 hh).2.2 (D:=D+m.len)).le  oM
  |false=>
   rw [aD (by decide)]
   obtain⟨_,q',_,h3⟩:=h.2.2 hh
   exact⟨uf _,Rb h3⟩
theorem Y0:∀{x y:List Int},x.length=y.length→Ky.gE x y=0→x=y
 | [], [],_,_=>rfl
 | [],_::_,h,_=>by simp at h
 |_::_, [],h,_=>by simp at h
 |a::x,b::y,h,h0=>by
  rw [Ky.gE]at h0
  split at h0
  ·omega
  ·split at h0
   ·omega
   ·rw [show a=b by omega,Y0 (by simpa using h) h0]
theorem ak9{x y:aJ}(h1:Ky.cP cH y x=false)(h2:Ky.cP cH x y=false):x=y:=by
 simp only [Ky.cP,sT]at h1 h2
 have h3:=Ky.Pu (cH x) (cH y) rfl
 have h4:=Y0 (x:=cH x) (y:=cH y) rfl  oM
 simp only [cH,List.cons.injEq,lz]at h4
 obtain⟨e1,e2,e3,e4,e5,e6,e7,e8,e9⟩:=h4
 cases x;cases y
 simp only at e1 e2 e3 e4 e5 e6 e7 e8 e9
 subst e1;subst e2;subst e3;subst e4;subst e5;subst e6;subst e7;subst e8
 rw [show _=_ from Int.ofNat_inj.1 e9]
theorem ak_{a b:List aJ}(hp:a.Perm b)(ha:bh.db (Ky.cP cH) a)(hb:bh.db (Ky.cP cH) b):a=b:=
 hp.eq_of_pairwise (fun x y _ _ h1 h2=>ak9 h1 h2) ha hb
theorem ala{δ:Int→Int}(hm:∀x y,x≤y→δ x≤δ y){x y:aJ}(h:Ky.cP cH y x=false):Ky.cP cH (gX δ y) (gX δ x)=false:=by
 simp only [Ky.cP,sT]at h⊢
 by_cases h1:x.on<y.on
 ·have:=hm x.on y.on  oM
  have e:Ky.gE (cH (gX δ y)) (cH (gX δ x))=1:=by
   show Ky.gE ((y.on+δ y.on)::_) ((x.on+δ x.on)::_)=1
   rw [Ky.gE,aD  oM,aG  oM]
  omega
 ·by_cases h2:y.on<x.on
  ·exfalso
   apply h
   have e:Ky.gE (cH y) (cH x)= -1:=by
    show Ky.gE (y.on::_) (x.on::_)= -1
    rw [Ky.gE,aG h2]
   omega
  ·have e0:x.on=y.on:=oM
   have e:Ky.gE (cH (gX δ y)) (cH (gX δ x))=Ky.gE (cH y) (cH x):=by
    show Ky.gE [y.on+δ y.on,y.aL,y.part,y.st,y.vo,y.off+δ y.on,y.es,y.en,(y.hd:Int)] [x.on+δ x.on,x.aL,x.part,x.st,x.vo,x.off+δ x.on,x.es,x.en,(x.hd:Int)]=Ky.gE [y.on,y.aL,y.part,y.st,y.vo,y.off,y.es,y.en,(y.hd:Int)] [x.on,x.aL,x.part,x.st,x.vo,x.off,x.es,x.en,(x.hd:Int)]
    rw [e0]
    have k:∀(a b d:Int) (l r:List Int),Ky.gE ((a+d)::l) ((b+d)::r)=Ky.gE (a::l) (b::r):=fun a b d l r=>by
     rw [Ky.gE,Ky.gE]
     by_cases q1:a<b
     ·rw [aG q1,aG  oM]
     ·rw [aD q1,aD  oM]
      by_cases q2:b<a
      ·rw [aG q2,aG  oM]
      ·rw [aD q2,aD  oM]
    have k2:∀(a b:Int) {l r l' r':List Int},Ky.gE l r=Ky.gE l' r'→Ky.gE (a::l) (b::r)=Ky.gE (a::l') (b::r'):=fun a b l r l' r' h=>by
     rw [Ky.gE,Ky.gE,h]
    rw [k]
    exact k2 _ _ (k2 _ _ (k2 _ _ (k2 _ _ (k2 _ _ (k _ _ _ _ _)))))
   omega
theorem alb{δ:Int→Int}(hm:∀x y,x≤y→δ x≤δ y){ns ms r q:List aJ}(h1:ns.Perm r)(h2:ms.Perm q)(hq:q=r.map (gX δ))(s1:bh.db (Ky.cP cH) ns)(s2:bh.db (Ky.cP cH) ms):ns.map (gX δ)=ms:=by
 refine ak_ ((h1.map _).trans (hq▸h2.symm)) ?_ s2
 exact List.pairwise_map.2 (s1.imp fun h=>ala hm h)
def bF.aF(v:bF):List bn×List Tu.bj:=(v.es.map aW.x,v.ts)
def bA.aF(c:bA):List jX×List (List bn×List Tu.bj):=(c.cl,c.vs.map bF.aF)
structure fO where
 n:Ls
 tm:List kE
 cs:List (List jX×List (List bn×List Tu.bj))
def ao.aF(m:ao):fO:=⟨m.n,m.tm,m.cs.map bA.aF⟩
theorem vX{α β:Type} [Inhabited α]{f:α→β}{l r:List α}(h:l.map f=r.map f)(k:Nat):f (aa l k)=f (aa r k):=by
 have hl:l.length=r.length:=by simpa using ay List.length h
 have e:=ay (fun x=>x[k]?) h
 simp only [mx]at e
 unfold aa
 by_cases hk:k<l.length
 ·rw [fi hk,fi  oM]at e
  simp only [rW,Option.some.injEq]at e
  simp only [Aj,fi hk,fi (show k<r.length by omega),GX]
  exact e
 ·simp only [Aj,wV (show l.length≤k by omega),wV (show r.length≤k by omega)]
theorem kr{α β:Type}{f:α→β}{l r:List α}(h:l.map f=r.map f):l.length=r.length:=by simpa using ay List.length h
theorem ao.C7{m k:ao}(h:m.aF=k.aF)(c:Nat):(aa m.cs c).aF=(aa k.cs c).aF:=vX (ay fO.cs h) c
theorem bA.IM{a b:bA}(h:a.aF=b.aF)(v:Nat):(aa a.vs v).aF=(aa b.vs v).aF:=vX (ay Prod.snd h) v
theorem bF.Rc{a b:bF}(h:a.aF=b.aF)(x:Nat):(aa a.es x).x=(aa b.es x).x:=vX (f:=aW.x) (ay Prod.fst h) x
theorem Y3{a b:bF}(h:a.aF=b.aF)(n:Int):VL a n=VL b n:=by
 unfold VL
 rw [bF.Rc h 0,show a.es.map aW.x=b.es.map aW.x from ay Prod.fst h,show a.ts=b.ts from ay Prod.snd h]
theorem Y4{m k:ao}(h:m.aF=k.aF):∀i,cI m i=cI k i:=by
 have hn:m.n=k.n:=ay fO.n h
 have hv:∀q r,c6 m q r=c6 k q r:=fun q r=>by
  unfold c6
  rw [Y3 (bA.IM (ao.C7 h q) r),hn]
 have hc:∀q r,iW m q r=iW k q r:=fun q r=>by
  unfold iW
  refine ay List.flatten (iO fun x _=>?_)
  rw [hv,hn]
 intro i
 unfold cI
 refine ay List.flatten (iO fun x _=>?_)
 rw [hc,kr (ay Prod.snd (ao.C7 h x))]
theorem alc{m k:ao}(h:m.aF=k.aF){on:Int}{x:eZ}:xN m on x=xN k on x:=by
 unfold xN
 rw [bF.Rc (bA.IM (ao.C7 h x.st) x.vo) x.ev]
theorem ald{m k:ao}(h:m.aF=k.aF){a b:Nat}{on:Int}:fN m a b on=fN k a b on:=by
 have hl:m.cs.length=k.cs.length:=kr (ay fO.cs h)
 have e:∀q,ko m a b on q=ko k a b on q:=fun q=>by
  unfold ko
  rw [hl,Y4 h]
  exact iO fun x _=>alc h
 unfold fN
 rw [e,hl,Y4 h]
theorem Y5{m:ao}{a b:Nat}{on:Int}:fN m a b on=(fN m a b 0).map (pn on):=by
 have hs:∀x,xN m on x=pn on (xN m 0 x):=fun x=>by
  show some (_,on+x.on,on+x.off)=some (_,0+x.on+on,0+x.off+on)
  rw [show on+x.on=0+x.on+on by omega,show on+x.off=0+x.off+on by omega]
 have e:∀q,ko m a b on q=(ko m a b 0 q).map (pn on):=fun q=>by
  unfold ko
  rw [fu]
  exact iO fun x _=>hs x
 unfold fN
 rw [e]
 by_cases h:ko m a b 0 (cI m m.cs.length).length= []
 ·rw [aG h,aG (by rw [h];rfl)];rfl
 ·rw [aD h,aD (by simpa using h)]
def pX(a b:Nat)(ms:List ao)(hid:List Bool):List vW:=List.zipWith (fun m h=>⟨h,m.n.met.ln,fN m a b 0⟩) ms hid
def vY(a b:Nat)(ms:List ao):List vW:=ms.map fun m=>⟨false,m.n.met.ln,fN m a b 0⟩
def eJ(ms:List ao)(hid:List Bool):List ao:=(ms.zip hid).filterMap fun x=>if x.2 then none else some x.1
theorem Y6{a b:Nat}:∀{ms:List ao} {t:Int},tB t (vY a b ms)=(List.range ms.length).flatMap fun k=>fN (aa ms k) a b (t+fE ((ms.map fun m=>m.n.met.ln).take k))
 | [],_=>rfl
 |m::ms,t=>by
  have ih:=Y6 (a:=a) (b:=b) (ms:=ms) (t:=t+m.n.met.ln)
  show(fN m a b 0).map (pn t)++tB (t+m.n.met.ln) (vY a b ms)=_
  rw [ih,ga,List.range_succ_eq_map,B7,wX]
  congr 1
  ·show _=fN m a b (t+0)
   rw [Int.add_zero];exact Y5.symm
  ·unfold List.flatMap
   refine ay List.flatten (iO fun k _=>?_)
   show _=fN (aa ms k) a b (t+(m.n.met.ln+fE ((ms.map fun m=>m.n.met.ln).take k)))
   rw [Int.add_assoc]
theorem Y7{s:ax}{a b:Nat}:qL s a b s.ms.length=tB 0 (vY a b s.ms):=by
 rw [Y6]
 unfold qL List.flatMap
 refine ay List.flatten (iO fun k hk=>?_)
 rw [vU (ox (e_.1 hk)),Int.zero_add]
 rfl
theorem Y8{a b:Nat}:∀{ms:List ao} {hid:List Bool} {t:Int},hid.length=ms.length→tB t (pX a b ms hid)=tB t (vY a b ms)
 | [],_,_,_=>by cases‹List Bool›<;>rfl
 |m::ms, [],_,h=>by simp at h
 |m::ms,h0::hid,t,h=>by
  have ih:=Y8 (a:=a) (b:=b) (ms:=ms) (hid:=hid) (t:=t+m.n.met.ln) (by simpa using h)
  show _++tB (t+m.n.met.ln) (pX a b ms hid)=_++tB (t+m.n.met.ln) (vY a b ms)
  rw [ih]
theorem Re{a b:Nat}:∀{ms:List ao} {hid:List Bool} {t:Int},hid.length=ms.length→C4 t (pX a b ms hid)=tB t (vY a b (eJ ms hid))
 | [],_,_,_=>by cases‹List Bool›<;>rfl
 |m::ms, [],_,h=>by simp at h
 |m::ms,true::hid,t,h=>by
  have ih:=Re (a:=a) (b:=b) (ms:=ms) (hid:=hid) (t:=t) (by simpa using h)
  show C4 t (pX a b ms hid)=tB t (vY a b (eJ ms hid))
  exact ih
 |m::ms,false::hid,t,h=>by
  have ih:=Re (a:=a) (b:=b) (ms:=ms) (hid:=hid) (t:=t+m.n.met.ln) (by simpa using h)
  show _++C4 (t+m.n.met.ln) (pX a b ms hid)=_++tB (t+m.n.met.ln) (vY a b (eJ ms hid))
  rw [ih]
theorem ale{a b:Nat}{l r:List ao}(h:l.map ao.aF=r.map ao.aF):vY a b l=vY a b r:=by
 unfold vY
 apply KF
 ·simpa using kr h
 ·intro i h1 h2
  simp only [bE]at h1 h2
  have e:=vX h i
  simp only [List.getElem_map]
  rw [show l[i]=aa l i by simp [aa,h1],show r[i]=aa r i by simp [aa,h2],show(aa l i).n=(aa r i).n from ay fO.n e,ald e]
def kH(ms:List ao)(hid:List Bool):Int→Int:=rF 0 0 (rE 0 (pX 0 0 ms hid))
theorem Rf{a b a' b':Nat}:∀{ms:List ao} {hid:List Bool} {D:Int},rE D (pX a b ms hid)=rE D (pX a' b' ms hid)
 | [],_,_=>by cases‹List Bool›<;>rfl
 |m::ms, [],_=>rfl
 |m::ms,true::hid,D=>Rf (ms:=ms) (hid:=hid) (D:=D+m.n.met.ln)
 |m::ms,false::hid,D=>ay (List.cons (m.n.met.ln,D)) (Rf (a:=a) (b:=b) (a':=a') (b':=b') (ms:=ms) (hid:=hid) (D:=D))
theorem alf{s c:ax}{hid:List Bool}(hl:hid.length=s.ms.length)(hc:c.ms.map ao.aF=(eJ s.ms hid).map ao.aF)(rD:∀a b,xO c a b=xO s a b)(hw:∀a b,zm false (pX a b s.ms hid)):
  ∀k,ny s k=(ny c k).map (gX (kH s.ms hid)):=by
 have gA:∀a b kq Mp,Mp=kq.map (gX (kH s.ms hid))→FG s a Mp b=(FG c a kq b).map (gX (kH s.ms hid)):=by
  intro a b kq Mp he
  unfold FG
  rw [Y7,Y7,rD,ale hc,←Re hl,←Y8 hl]
  have cy:IL (kH s.ms hid) false 0 0 (pX a b s.ms hid):=Ra (hw a b) (D0:=0) fun x _=>by unfold kH;rw [Rf (a:=0) (b:=0) (a':=a) (b':=b)]
  exact mL.all cy (c:=xO s a b) (σ:=(fun _=>none,kq)) (τ:=(fun _=>none,Mp)) ⟨rfl,he,fun p k e=>by cases e⟩ (fun h=>by cases h)
 intro k
 induction k with
 |zero=>rfl
 |succ k ih=>
  rw [IK,IK,zl,zl,zl,zl,IJ,IJ]
  exact gA _ _ _ _ (gA _ _ _ _ ih)
theorem alg{ms:List ao}{hid:List Bool}(hw:zm false (pX 0 0 ms hid)):∀x y,x≤y→kH ms hid x≤kH ms hid y:=fun x y h=>YZ (Rb hw) h
theorem Y9{m:ao}{K:Nat}{a:Int}(h:mH m K a){i k:Nat}(hi:i<m.cs.length)(hk:k<(aa m.cs i).vs.length){j:Nat}(hj:j<(c6 m i k).length):aa (c6 m i k) j<m.n.met.ln:=by
 obtain⟨n,hv⟩:=h.vo hi hk
 have rD:=h.met.ln.1
 have xQ:=W_ hv.e (show 1≤m.n.met.ln by omega)
 have rp:=Me h hi hk hj
 obtain⟨_,hs,hb⟩:=LI hv.e (show 1≤m.n.met.ln∧m.n.met.ln≤15482880 by omega)
 have fe:(c6 m i k).length=(VL (aa (aa m.cs i).vs k) m.n.met.ln).length:=by rw [c6,Fa]
 have fK:j<(VL (aa (aa m.cs i).vs k) m.n.met.ln).length:=oM
 have k1:aa (c6 m i k) j=Tu.ib ((VL (aa (aa m.cs i).vs k) m.n.met.ln).take j):=yO fK
 have k2:=Tu.ES fK
 have k3:=xQ _ (aI fK)
 have Y_:=rp.2.2.1
 simp only [nw]at Y_
 by_cases hn:j+1<(c6 m i k).length
 ·rw [aG hn]at Y_
  have k4:aa (c6 m i k) (j+1)=Tu.ib ((VL (aa (aa m.cs i).vs k) m.n.met.ln).take (j+1)):=yO  oM
  omega
 ·have e:(VL (aa (aa m.cs i).vs k) m.n.met.ln).take (j+1)=VL (aa (aa m.cs i).vs k) m.n.met.ln:=eS  oM
  rw [e]at k2
  omega
theorem Za{m:ao}{K:Nat}{z:Int}(hM:mH m K z){a b:Nat}{on:Int}{t:k9}(ht:t∈fN m a b on):
  t=none∨∃v x,a<m.cs.length∧b<(aa m.cs a).vs.length∧x<(aa (aa m.cs a).vs b).es.length∧v=aa (c6 m a b) x∧0≤v∧v<m.n.met.ln∧∃off,t=some ((aa (aa (aa m.cs a).vs b).es x).x,on+v,off):=by
 unfold fN at ht
 split at ht
 ·exact .inl (c_.1 ht)
 ·unfold ko at ht
  obtain⟨x,hx,rfl⟩:=cL.1 ht
  obtain⟨rG,Bd⟩:=wR.1 hx
  obtain⟨c,q,j,h1,h2,h3,rfl⟩:=Mf (ue rG)
  simp only [eZ.is,nw,eN,g_]at Bd
  obtain⟨rfl,rfl⟩:=Bd
  have h4:=(FC hM h1 h2).1
  exact .inr ⟨_,j,h1,h2,oM,rfl,(Me hM h1 h2 h3).1,Y9 hM h1 h2 h3,_,rfl⟩
theorem Zb{m:ao}{a b:Nat}{on:Int}:fN m a b on≠ []:=by
 unfold fN
 split
 ·simp
 ·rename_i h;exact h
def mh(en:bu→Bool)(e:bn):Bool:=e.hs.isEmpty&&(e.n.fL==0&&(e.n.eX==0&& !en ⟨e.n.bU,e.n.aL⟩))
def qM(en:bu→Bool)(m:ao):Bool:=m.cs.all fun c=>c.vs.all fun v=>v.es.all fun x=>mh en x.x
def Rh(m:ao):Bool:= !m.n.start&&(m.n.fp==0&&(m.n.pK==0&&(m.n.rf==0&&m.n.rh==0)))
def uR(m:ao):Bool:=(m.tm.all fun x=>x.cA==0)&&m.cs.all fun c=>c.cl.all fun x=>x.cA==0
def lP(en:bu→Bool)(m:ao):Bool:=Rh m&&(uR m&&qM en m)
def Zc(a b:je):Bool:=a.ju==b.ju&&(a.nR==b.nR&&(a.g0==b.g0&&(a.g1==b.g1&&(a.g2==b.g2&&(a.g3==b.g3&&(a.g4==b.g4&&a.g5==b.g5))))))
def wa(a b:ao):Bool:=Zc a.n.met b.n.met&&(a.n.len==b.n.len&&(a.n.fg==b.n.fg&&(b.tm.isEmpty&&((b.cs.all fun c=>c.cl.isEmpty)&&(b.n.xu==0&&(b.n.Co==0&&b.n.vC.size==0))))))
def rH(E:ao→Bool)(J:ao→ao→Bool):Option ao→List ao→List Bool
 |_, []=> []
 |none,m::ms=>false::rH E J (some m) ms
 |some p,m::ms=>(E p&&(E m&&J p m))::rH E J (some m) ms
theorem IN{E:ao→Bool}{J:ao→ao→Bool}:∀{ms:List ao} {p:Option ao},(rH E J p ms).length=ms.length
 | [],p=>by cases p<;>rfl
 |m::ms,none=>by simp [rH,IN]
 |m::ms,some p=>by simp [rH,IN]
def Mq(E:ao→Bool):Option ao→Bool
 |none=>false
 |some p=>E p
structure Mr(E:ao→Bool)(m:ao)(a b:Nat):Prop where
 len:0≤m.n.met.ln
 qK:E m=true→∀x∈fN m a b 0,qK x
 on:∀x∈fN m a b 0,∀e on off,x=some (e,on,off)→e.hs≠ []→0≤on∧on<m.n.met.ln
theorem Zd{E:ao→Bool}{J:ao→ao→Bool}{a b:Nat}:∀{ms:List ao} {p:Option ao},(∀m∈ms,Mr E m a b)→zm (Mq E p) (pX a b ms (rH E J p ms))
 | [],p,_=>by cases p<;>trivial
 |m::ms,p,h=>by
  have hm:=h m sM
  have ih:=Zd (E:=E) (J:=J) (ms:=ms) (p:=some m) fun x hx=>h x (by simp [hx])
  have key:∀hb:Bool,(hb=true→Mq E p=true∧E m=true)→zm (Mq E p) (vW.mk hb m.n.met.ln (fN m a b 0)::pX a b ms (rH E J (some m) ms)):=fun hb hh=>by
   refine⟨hm.len,fun g=>?_,fun g=>⟨hm.on,E m,fun g2=>⟨Zb,hm.qK g2⟩,ih⟩⟩
   obtain⟨g1,g2⟩:=hh g
   refine⟨g1,hm.qK g2,?_⟩
   have Ze:=ih
   rw [show Mq E (some m)=true from g2]at Ze
   exact Ze
  cases p with
  |none=>exact key false (fun h=>by cases h)
  |some q=>
   refine key _ fun g=>?_
   rw [eN,eN]at g
   exact⟨g.1,g.2.1⟩
theorem Ri{en:bu→Bool}{m:ao}{K:Nat}{z:Int}(hM:mH m K z)(a b:Nat):Mr (lP en) m a b:=by
 refine⟨by have:=hM.met.ln.1;omega,fun he x hx=>?_,fun x hx e on off h iU=>?_⟩
 ·rcases Za hM hx with rfl|⟨v,k,h1,h2,h3,-,-,-,off,rfl⟩
  ·trivial
  ·show(aa (aa (aa m.cs a).vs b).es k).x.hs= []
   simp only [lP,qM,mh,eN,sR]at he
   have:=(he.2.2 _ (aI h1) _ (aI h2) _ (aI h3)).1
   simpa using this
 ·rcases Za hM hx with rfl|⟨v,k,h1,h2,h3,-,h4,h5,axe,rfl⟩
  ·cases h
  ·cases h
   exact⟨oM,oM⟩
def mi(s:ax)(i:bu):Bool:=s.sp.any fun x=>x.lG==i||x.di==i
def aB(s:ax):List Bool:=rH (lP (mi s)) wa none s.ms
theorem Zf{s:ax}(hB:bX s)(a b:Nat):zm false (pX a b s.ms (aB s)):=Zd (p:=none) fun m hm=>Ri (hB.g m hm) a b
theorem alh{s c:ax}(hB:bX s)(hc:c.ms.map ao.aF=(eJ s.ms (aB s)).map ao.aF)(rD:∀a b,xO c a b=xO s a b)(cG:aR c.ps=aR s.ps){ns ms:List aJ}
  (h1:ns.Perm (ny c (aR c.ps)))(h2:ms.Perm (ny s (aR s.ps)))(s1:bh.db (Ky.cP cH) ns)(s2:bh.db (Ky.cP cH) ms):ns.map (gX (kH s.ms (aB s)))=ms:=
 alb (alg (Zf hB 0 0)) h1 h2 (by rw [cG];exact alf IN hc rD (Zf hB) _) s1 s2
structure qN(Q H:aJ→Prop)(σ:HF×List aJ):Prop where
 q:∀x∈σ.2,Q x
 h:∀p k,σ.1 p=some k→k<σ.2.length∧H (aa σ.2 k)
structure Ms(Q H:aJ→Prop)(on off:Int):Prop where
 new:∀x:aJ,x.on=on→x.off=off→Q x∧H x
 up:∀x,Q x→H x→Q (sD x off)∧H (sD x off)
theorem qN.hd{Q H:aJ→Prop}{c:kj}{f:HF}{e:bn}{on off:Int}{σ:HF×List aJ}{i:Nat}(hs:Ms Q H on off)(h:qN Q H σ)(hf:∀p k,f p=some k→k<σ.2.length∧H (aa σ.2 k)):
  qN Q H (lO c f e on off σ i)∧∀p k,f p=some k→k<(lO c f e on off σ i).2.length∧H (aa (lO c f e on off σ i).2 k):=by
 obtain⟨g,ns⟩:=σ
 cases hk:f (jT (aa e.hs i))with
 |some k=>
  rw [Ml hk]
  obtain⟨h1,h2⟩:=hf _ _ hk
  have hq:=h.q _ (aI h1)
  have Bi:∀q,q<ns.length→H (aa ns q)→H (aa (ns.set k (sD (aa ns k) off)) q):=fun q gV hH=>by
   rw [L_ h1]
   split
   ·exact(hs.up _ hq h2).2
   ·exact hH
  refine⟨⟨fun x hx=>?_,fun p q gV=>?_⟩,fun p q gV=>?_⟩
  ·rcases akW hx with hx|rfl
   ·exact h.q x hx
   ·exact(hs.up _ hq h2).1
  ·have key:q<ns.length∧H (aa ns q):=by
    dsimp only at gV
    split at gV
    ·unfold pk at gV
     split at gV
     ·cases gV;exact⟨h1,h2⟩
     ·exact h.h p q gV
    ·exact h.h p q gV
   exact⟨by simpa using key.1,Bi q key.1 key.2⟩
  ·obtain⟨g1,g2⟩:=hf p q gV
   exact⟨by simpa using g1,Bi q g1 g2⟩
 |none=>
  rw [Mm hk]
  obtain⟨n1,n2⟩:=hs.new (qJ c e i on off) rfl rfl
  have qm:∀q,q<ns.length→H (aa ns q)→q<(ns++ [qJ c e i on off]).length∧H (aa (ns++ [qJ c e i on off]) q):=fun q gV hH=>⟨by simp;omega,by rw [CE gV];exact hH⟩
  refine⟨⟨fun x hx=>?_,fun p q gV=>?_⟩,fun p q gV=>?_⟩
  ·rcases ep.1 hx with hx|hx
   ·exact h.q x hx
   ·rw [c_.1 hx];exact n1
  ·dsimp only at gV
   have nr:g p=some q→_:=fun e'=>qm q (h.h p q e').1 (h.h p q e').2
   split at gV
   ·unfold pk at gV
    split at gV
    ·cases gV
     exact⟨by simp,by rw [show aa (ns++ [qJ c e i on off]) ns.length=qJ c e i on off by simp [aa]];exact n2⟩
    ·exact nr gV
   ·exact nr gV
  ·obtain⟨g1,g2⟩:=hf p q gV
   exact qm q g1 g2
theorem qN.ev{Q H:aJ→Prop}{c:kj}{σ:HF×List aJ}(h:qN Q H σ):∀{t:k9},(∀e on off,t=some (e,on,off)→e.hs≠ []→Ms Q H on off)→qN Q H (km c σ t)
 |none,_=>⟨h.q,fun p k e=>by cases e⟩
 |some (e,on,off),ht=>by
  by_cases hm:e.hs= []
  ·rw [Mi (t:=some (e,on,off)) hm]
   exact⟨h.q,fun p k e=>by cases e⟩
  ·have hs:=ht e on off rfl hm
   have key:∀(l:List Nat) (a:HF×List aJ),qN Q H a→(∀p k,σ.1 p=some k→k<a.2.length∧H (aa a.2 k))→qN Q H (l.foldl (lO c σ.1 e on off) a):=by
    intro l
    induction l with
    |nil=>intro a ha _;exact ha
    |cons i l ih=>
     intro a ha hf
     obtain⟨h1,h2⟩:=ha.hd (c:=c) (e:=e) (i:=i) hs hf
     exact ih _ h1 h2
   exact key _ (fun _=>none,σ.2) ⟨h.q,fun p k e=>by cases e⟩ h.h
theorem qN.tp{Q H:aJ→Prop}{c:kj}:∀{l:List k9} {σ:HF×List aJ},qN Q H σ→(∀t∈l,∀e on off,t=some (e,on,off)→e.hs≠ []→Ms Q H on off)→qN Q H (gm c σ l)
 | [],σ,h,_=>h
 |t::l,σ,h,hl=>qN.tp (l:=l) (h.ev (hl t sM)) fun x hx=>hl x (by simp [hx])
structure C8(s:ax)(E:ao→Bool)(x:aJ):Prop where
 cA:∃i,i<s.ms.length∧aa (cD s) i≤x.on∧x.on<aa (cD s) (i+1)
 Zg:∀j,j<s.ms.length→E (aa s.ms j)=true→(x.off≤aa (cD s) j∧x.on<aa (cD s) j)∨aa (cD s) (j+1)≤x.on
def Rj(s:ax)(E:ao→Bool)(i:Nat)(x:aJ):Prop:=x.on<aa (cD s) (i+1)∧∀j,j<i→E (aa s.ms j)=true→aa (cD s) (j+1)≤x.on
theorem Zh{m:ao}{K:Nat}{z:Int}(hM:mH m K z){a b:Nat}{on:Int}{e:bn}{o1 o2:Int}(ht:some (e,o1,o2)∈fN m a b on):on≤o1∧o1<o2∧o2≤on+m.n.met.ln∧o1<on+m.n.met.ln:=by
 unfold fN at ht
 split at ht
 ·have:=c_.1 ht;cases this
 ·unfold ko at ht
  obtain⟨x,hx,Zi⟩:=cL.1 ht
  obtain⟨rG,Bd⟩:=wR.1 hx
  obtain⟨c,q,j,h1,h2,h3,rfl⟩:=Mf (ue rG)
  obtain⟨b1,b2,b3,b4⟩:=Me hM h1 h2 h3
  have b5:=Y9 hM h1 h2 h3
  have bW:(nw c q m.n.met.ln (c6 m c q) j).on<(nw c q m.n.met.ln (c6 m c q) j).off:=by
   simp only [nw]
   by_cases hn:j+1<(c6 m c q).length
   ·rw [aG hn]
    obtain⟨n,hv⟩:=hM.vo h1 h2
    have rD:=hM.met.ln.1
    have fe:(c6 m c q).length=(VL (aa (aa m.cs c).vs q) m.n.met.ln).length:=by rw [c6,Fa]
    have k1:aa (c6 m c q) j=Tu.ib ((VL (aa (aa m.cs c).vs q) m.n.met.ln).take j):=yO  oM
    have k2:aa (c6 m c q) (j+1)=Tu.ib ((VL (aa (aa m.cs c).vs q) m.n.met.ln).take (j+1)):=yO  oM
    have k3:=Tu.ES (l:=VL (aa (aa m.cs c).vs q) m.n.met.ln) (k:=j)  oM
    have k4:=W_ hv.e (show 1≤m.n.met.ln by omega) _ (aI (q:=j) (l:=VL (aa (aa m.cs c).vs q) m.n.met.ln)  oM)
    omega
   ·rw [aD hn];exact b5
  have e1:(nw c q m.n.met.ln (c6 m c q) j).on=aa (c6 m c q) j:=rfl
  unfold xN at Zi
  cases Zi
  exact⟨oM,oM,oM,oM⟩
theorem zn{s:ax}(hB:bX s){a b:Nat}(h:a≤b)(hb:b≤s.ms.length):aa (cD s) a≤aa (cD s) b:=Q6 hB h hb
theorem ali{s:ax}(hB:bX s){E:ao→Bool}{i:Nat}(hi:i<s.ms.length)(he:E (aa s.ms i)=false){on off:Int}(h1:aa (cD s) i≤on)(h2:on<off)(h3:off≤aa (cD s) (i+1))(h4:on<aa (cD s) (i+1)):Ms (C8 s E) (Rj s E i) on off:=by
 refine⟨fun x nK Zj=>?_,fun x hQ hH=>?_⟩
 ·rw [←nK]at h1 h2 h4
  rw [←Zj]at h2 h3
  refine⟨⟨⟨i,hi,h1,h4⟩,fun j hj hE=>?_⟩,h4,fun j hj hE=>?_⟩
  ·by_cases bW:j<i
   ·have:=zn hB (show j+1≤i by omega)  oM ;right;omega
   ·by_cases heq:j=i
    ·subst heq;rw [he]at hE;cases hE
    ·have:=zn hB (show i+1≤j by omega)  oM ;left;omega
  ·have:=zn hB (show j+1≤i by omega)  oM ;omega
 ·refine⟨⟨hQ.cA,fun j hj hE=>?_⟩,hH⟩
  show(off≤_∧x.on<_)∨_≤x.on
  by_cases bW:j<i
  ·exact .inr (hH.2 j bW hE)
  ·by_cases heq:j=i
   ·subst heq;rw [he]at hE;cases hE
   ·have h5:=zn hB (show i+1≤j by omega)  oM
    have h6:=hH.1
    left;omega
theorem Rk{s:ax}(hB:bX s){E:ao→Bool}(hE:∀m∈s.ms,∀a b,Mr E m a b){c:kj}{a b:Nat}{kq:List aJ}(Mt:∀x∈kq,C8 s E x):∀i,i≤s.ms.length→
  qN (C8 s E) (fun x=>x.on<aa (cD s) i∧∀j,j<i→E (aa s.ms j)=true→aa (cD s) (j+1)≤x.on) (gm c (fun _=>none,kq) (qL s a b i))
 |0,_=>⟨Mt,fun p k e=>by cases e⟩
 |i+1,hi=>by
  have ih:=Rk hB hE (c:=c) (a:=a) (b:=b) Mt i  oM
  have da:i<s.ms.length:=oM
  have hM:=hB.g _ (aI da)
  have gn:=Mh da
  have rD:=hM.met.ln.1
  rw [YW,IG]
  have hQ0:qN (C8 s E) (Rj s E i) (gm c (fun _=>none,kq) (qL s a b i)):=⟨ih.q,fun p k e=>by
   obtain⟨g1,g2,g3⟩:=ih.h p k e
   exact⟨g1,oM,g3⟩⟩
  cases Rl:E (aa s.ms i)with
  |false=>
   have h1:qN (C8 s E) (Rj s E i) (gm c (gm c (fun _=>none,kq) (qL s a b i)) (fN (aa s.ms i) a b (aa (cD s) i))):=hQ0.tp fun t ht e on off he iU=>by
    subst he
    obtain⟨b1,b2,b3,b4⟩:=Zh hM ht
    exact ali hB da Rl b1 b2  oM oM
   refine⟨h1.q,fun p k e=>?_⟩
   obtain⟨g1,g2,g3⟩:=h1.h p k e
   refine⟨g1,g2,fun j hj Rm=>?_⟩
   by_cases bW:j<i
   ·exact g3 j bW Rm
   ·rw [show j=i by omega,Rl]at Rm;cases Rm
  |true=>
   have Q_:∀t∈fN (aa s.ms i) a b (aa (cD s) i),qK t:=fun t ht=>by
    rw [Y5]at ht
    obtain⟨y,hy,rfl⟩:=cL.1 ht
    exact Mo.2 ((hE _ (aI da) a b).qK Rl y hy)
   have hs:=Mj (c:=c) (σ:=gm c (fun _=>none,kq) (qL s a b i)) Q_
   refine⟨fun x hx=>ih.q x (by rw [hs.1]at hx;exact hx),fun p k e=>?_⟩
   rw [hs.2 (.inl Zb)]at e
   cases e
theorem Rn{s:ax}(hB:bX s){E:ao→Bool}(hE:∀m∈s.ms,∀a b,Mr E m a b):∀k,∀x∈ny s k,C8 s E x
 |0=>fun x hx=>by cases hx
 |k+1=>by
  have ih:=Rn hB hE k
  rw [IK,zl,zl,IJ]
  exact(Rk hB hE (a:=k) (b:=1) (Rk hB hE (a:=k) (b:=0) ih _ (cE _)).q _ (cE _)).q
theorem Zk{s:ax}{E:ao→Bool}{x:aJ}(h:C8 s E x){a:Nat}:∀{n:Nat},0<n→a+n≤s.ms.length→(∀j,a≤j→j<a+n→E (aa s.ms j)=true)→x.on<aa (cD s) (a+n)→x.off≤aa (cD s) a
 |0,h0,_,_,_=>absurd h0  oM
 |1,_,hl,hE,nK=>by
  rcases h.Zg a  oM (hE a  oM oM)with h1|h1
  ·exact h1.1
  ·omega
 |n+2,_,hl,hE,nK=>by
  rcases h.Zg (a+(n+1))  oM (hE _  oM oM)with h1|h1
  ·exact Zk h (n:=n+1)  oM oM (fun j h2 h3=>hE j h2  oM) h1.2
  ·have:a+(n+1)+1=a+(n+2):=oM
   rw [this]at h1;omega
def aQ:Nat→List Bool→List Nat
 |_, []=> []
 |k,true::r=>aQ (k+1) r
 |k,false::r=>k::aQ (k+1) r
theorem tC:∀{r:List Bool} {k:Nat},aQ (k+1) r=(aQ k r).map (· +1)
 | [],_=>rfl
 |true::r,k=>tC (r:=r) (k:=k+1)
 |false::r,k=>by
  show(k+1)::aQ (k+1+1) r=(k+1)::(aQ (k+1) r).map (· +1)
  rw [tC (r:=r) (k:=k+1)]
theorem zo:∀{ms:List ao} {hid:List Bool} {k:Nat},hid.length=ms.length→(aQ k hid).length=(eJ ms hid).length
 | [], [],_,_=>rfl
 | [],_::_,_,h=>by simp at h
 |m::ms, [],_,h=>by simp at h
 |m::ms,true::r,k,h=>zo (ms:=ms) (hid:=r) (k:=k+1) (by simpa using h)
 |m::ms,false::r,k,h=>by
  show(aQ (k+1) r).length+1=(eJ ms r).length+1
  rw [zo (ms:=ms) (hid:=r) (k:=k+1) (by simpa using h)]
theorem FI{m:ao}{ms:List ao}{r:List Bool}:eJ (m::ms) (false::r)=m::eJ ms r:=rfl
theorem FJ{m:ao}{ms:List ao}{r:List Bool}:eJ (m::ms) (true::r)=eJ ms r:=rfl
theorem Mu:∀{ms:List ao} {hid:List Bool} {k i:Nat},hid.length=ms.length→i∈aQ k hid→k≤i∧i<k+ms.length
 | [], [],_,_,_,h=>by cases h
 | [],_::_,_,_,h,_=>by simp at h
 |m::ms, [],_,_,h,_=>by simp at h
 |m::ms,true::r,k,i,h,hi=>by
  have:=Mu (ms:=ms) (hid:=r) (k:=k+1) (by simpa using h) hi
  rw [ga];omega
 |m::ms,false::r,k,i,h,hi=>by
  rw [ga]
  rcases gP.1 hi with rfl|hi
  ·omega
  ·have:=Mu (ms:=ms) (hid:=r) (k:=k+1) (by simpa using h) hi
   omega
theorem Zl{ms:List ao}{hid:List Bool}(h:hid.length=ms.length):∀{m:Nat},m<(aQ 0 hid).length→aa (eJ ms hid) m=aa ms (aa (aQ 0 hid) m):=by
 induction ms generalizing hid with
 |nil=>cases hid with
  |nil=>intro m hm;simp [aQ]at hm
  |cons _ _=>simp at h
 |cons a ms ih=>
  cases hid with
  |nil=>simp at h
  |cons b r=>
   intro m hm
   have hr:r.length=ms.length:=by simpa using h
   cases b with
   |true=>
    have e:aQ 0 (true::r)=(aQ 0 r).map (· +1):=tC (r:=r) (k:=0)
    rw [e]at hm⊢
    have ij:m<(aQ 0 r).length:=by simpa using hm
    rw [FJ,ih hr ij,jz ij]
    simp [aa]
   |false=>
    have e:aQ 0 (false::r)=0::(aQ 0 r).map (· +1):=ay (List.cons 0) (tC (r:=r) (k:=0))
    rw [e]at hm⊢
    rw [FI]
    cases m with
    |zero=>simp [aa]
    |succ m=>
     have ij:m<(aQ 0 r).length:=by simpa using hm
     have e2:aa (a::eJ ms r) (m+1)=aa (eJ ms r) m:=by simp [aa]
     have e3:aa (0::(aQ 0 r).map (· +1)) (m+1)=aa ((aQ 0 r).map (· +1)) m:=by simp [aa]
     rw [e2,e3,jz ij,ih hr ij]
     simp [aa]
def nz(ms:List ao):List Int:=ms.map fun m=>m.n.met.ln
theorem FK{a:Int}{l:List Int}:fE (a::l)=a+fE l:=rfl
theorem Zm:∀{l:List Int},(∀x∈l,0≤x)→∀n,0≤fE (l.take n)
 | [],_,n=>by simp [fE]
 |a::l,h,0=>by simp [fE]
 |a::l,h,n+1=>by
  have:=Zm (l:=l) (fun x hx=>h x (by simp [hx])) n
  have h0:=h a sM
  rw [sS,FK];omega
theorem Ro{a b:Nat}:∀{ms:List ao} {hid:List Bool} {t D0 D x:Int} {m:Nat},hid.length=ms.length→(∀y∈nz ms,0≤y)→m<(eJ ms hid).length→
  t+fE ((nz (eJ ms hid)).take m)≤x→x<t+fE ((nz (eJ ms hid)).take (m+1))→
  rF t D0 (rE D (pX a b ms hid)) x=D+(fE ((nz ms).take (aa (aQ 0 hid) m))-fE ((nz (eJ ms hid)).take m))
 | [], [],_,_,_,_,_,_,_,hm,_,_=>by cases hm
 | [],_::_,_,_,_,_,_,h,_,_,_,_=>by simp at h
 |q::ms, [],_,_,_,_,_,h,_,_,_,_=>by simp at h
 |q::ms,true::r,t,D0,D,x,m,h,hn,hm,h1,h2=>by
  have hr:r.length=ms.length:=by simpa using h
  rw [FJ]at hm h1 h2⊢
  have ih:=Ro (a:=a) (b:=b) (ms:=ms) (hid:=r) (t:=t) (D0:=D0) (D:=D+q.n.met.ln) (x:=x) (m:=m) hr (fun y hy=>hn y (by simp [nz]at hy⊢;exact .inr hy)) hm h1 h2
  show rF t D0 (rE (D+q.n.met.ln) (pX a b ms r)) x=_
  rw [ih]
  have ij:m<(aQ 0 r).length:=by rw [zo hr];exact hm
  have e:aQ 0 (true::r)=(aQ 0 r).map (· +1):=tC (r:=r) (k:=0)
  rw [e,jz ij]
  show _=D+(fE ((q.n.met.ln::nz ms).take (aa (aQ 0 r) m+1))-_)
  rw [sS,FK];omega
 |q::ms,false::r,t,D0,D,x,m,h,hn,hm,h1,h2=>by
  have hr:r.length=ms.length:=by simpa using h
  have hq:0≤q.n.met.ln:=hn _ (by simp [nz])
  have e:aQ 0 (false::r)=0::(aQ 0 r).map (· +1):=ay (List.cons 0) (tC (r:=r) (k:=0))
  rw [FI]at hm h1 h2⊢
  rw [e]
  show rF t D0 ((q.n.met.ln,D)::rE D (pX a b ms r)) x=_
  rw [rF]
  cases m with
  |zero=>
   have C9:x<t+fE ((q.n.met.ln::nz (eJ ms r)).take 1):=h2
   rw [sS,Ah,FK]at C9
   have:fE ([]:List Int)=0:=rfl
   rw [aG  oM]
   show D=D+(fE ((nz (q::ms)).take 0)-fE ((nz (q::eJ ms r)).take 0))
   rw [Ah,Ah];omega
  |succ m=>
   have kI:m<(eJ ms r).length:=by simpa using hm
   have ij:m<(aQ 0 r).length:=by rw [zo hr];exact kI
   have zg:t+fE ((q.n.met.ln::nz (eJ ms r)).take (m+1))≤x:=h1
   have C9:x<t+fE ((q.n.met.ln::nz (eJ ms r)).take (m+1+1)):=h2
   rw [sS,FK]at zg C9
   have C_:0≤fE ((nz (eJ ms r)).take m):=Zm (fun y hy=>by
    obtain⟨z,hz,rfl⟩:=cL.1 hy
    obtain⟨w,hw,Rp⟩:=List.mem_filterMap.1 hz
    have hw3:=(List.of_mem_zip (a:=w.1) (b:=w.2) hw).1
    split at Rp
    ·cases Rp
    ·cases Rp
     exact hn _ (cL.2 ⟨_,gR _ hw3,rfl⟩)) m
   rw [aD  oM]
   have ih:=Ro (a:=a) (b:=b) (ms:=ms) (hid:=r) (t:=t+q.n.met.ln) (D0:=D) (D:=D) (x:=x) (m:=m) hr (fun y hy=>hn y (by simp [nz]at hy⊢;exact .inr hy)) kI  oM oM
   rw [ih]
   have e3:aa (0::(aQ 0 r).map (· +1)) (m+1)=aa ((aQ 0 r).map (· +1)) m:=by simp [aa]
   rw [e3,jz ij]
   show _=D+(fE ((q.n.met.ln::nz ms).take (aa (aQ 0 r) m+1))-fE ((q.n.met.ln::nz (eJ ms r)).take (m+1)))
   rw [sS,sS,FK,FK];omega
theorem Rq:∀{hid:List Bool} {m:Nat},m<(aQ 0 hid).length→aa (aQ 0 hid) m+1<hid.length→aa hid (aa (aQ 0 hid) m+1)=false→m+1<(aQ 0 hid).length∧aa (aQ 0 hid) (m+1)=aa (aQ 0 hid) m+1
 | [],_,hm,_,_=>by cases hm
 |true::r,m,hm,h1,h2=>by
  have e:aQ 0 (true::r)=(aQ 0 r).map (· +1):=tC (r:=r) (k:=0)
  rw [e]at hm h1 h2⊢
  have ij:m<(aQ 0 r).length:=by simpa using hm
  rw [jz ij]at h1 h2⊢
  have e2:aa (true::r) (aa (aQ 0 r) m+1+1)=aa r (aa (aQ 0 r) m+1):=by simp [aa]
  rw [e2]at h2
  obtain⟨g1,g2⟩:=Rq (hid:=r) ij (by simpa using h1) h2
  exact⟨by simpa using g1,by rw [jz g1,g2]⟩
 |false::r,m,hm,h1,h2=>by
  have e:aQ 0 (false::r)=0::(aQ 0 r).map (· +1):=ay (List.cons 0) (tC (r:=r) (k:=0))
  rw [e]at hm h1 h2⊢
  cases m with
  |zero=>
   have e0:aa (0::(aQ 0 r).map (· +1)) 0=0:=rfl
   rw [e0]at h1 h2⊢
   cases r with
   |nil=>simp at h1
   |cons b r=>
    have hb:b=false:=by simpa [aa]using h2
    subst hb
    have e3:aQ 0 (false::r)=0::(aQ 0 r).map (· +1):=ay (List.cons 0) (tC (r:=r) (k:=0))
    rw [e3]
    exact⟨by simp,rfl⟩
  |succ m=>
   have ij:m<(aQ 0 r).length:=by simpa using hm
   have e3:∀q,aa (0::(aQ 0 r).map (· +1)) (q+1)=aa ((aQ 0 r).map (· +1)) q:=fun q=>by simp [aa]
   rw [e3,jz ij]at h1 h2
   rw [e3,e3,jz ij]
   have e2:aa (false::r) (aa (aQ 0 r) m+1+1)=aa r (aa (aQ 0 r) m+1):=by simp [aa]
   rw [e2]at h2
   obtain⟨g1,g2⟩:=Rq (hid:=r) ij (by simpa using h1) h2
   exact⟨by simpa using g1,by rw [jz g1,g2]⟩
theorem Rr:∀{hid:List Bool} {m:Nat},m<(aQ 0 hid).length→aa (aQ 0 hid) m+1=hid.length→m+1=(aQ 0 hid).length
 | [],_,hm,_=>by cases hm
 |true::r,m,hm,h1=>by
  have e:aQ 0 (true::r)=(aQ 0 r).map (· +1):=tC (r:=r) (k:=0)
  rw [e]at hm h1⊢
  have ij:m<(aQ 0 r).length:=by simpa using hm
  rw [jz ij]at h1
  have:=Rr (hid:=r) ij (by simpa using h1)
  simpa using this
 |false::r,m,hm,h1=>by
  have e:aQ 0 (false::r)=0::(aQ 0 r).map (· +1):=ay (List.cons 0) (tC (r:=r) (k:=0))
  rw [e]at hm h1⊢
  cases m with
  |zero=>
   have:r.length=0:=by
    have e0:aa (0::(aQ 0 r).map (· +1)) 0=0:=rfl
    rw [e0]at h1;simp at h1;simpa using h1.symm
   rw [List.length_eq_zero_iff.1 this];rfl
  |succ m=>
   have ij:m<(aQ 0 r).length:=by simpa using hm
   have e3:aa (0::(aQ 0 r).map (· +1)) (m+1)=aa ((aQ 0 r).map (· +1)) m:=by simp [aa]
   rw [e3,jz ij]at h1
   have:=Rr (hid:=r) ij (by simpa using h1)
   simpa using this
theorem Mv{E:ao→Bool}{J:ao→ao→Bool}:∀{ms:List ao} {p:Option ao} {k:Nat},k+1<ms.length→aa (rH E J p ms) (k+1)=(E (aa ms k)&&(E (aa ms (k+1))&&J (aa ms k) (aa ms (k+1))))
 | [],_,_,h=>by simp at h
 | [_],_,_,h=>by simp at h
 |m::q::ms,p,0,_=>by cases p<;>simp [rH,aa]
 |m::q::ms,p,k+1,h=>by
  have ih:=Mv (E:=E) (J:=J) (ms:=q::ms) (p:=some m) (k:=k) (by simpa using h)
  have e:aa (rH E J p (m::q::ms)) (k+1+1)=aa (rH E J (some m) (q::ms)) (k+1):=by cases p<;>simp [rH,aa]
  rw [e,ih]
  simp [aa]
theorem jZ{s:ax}:(aB s).length=s.ms.length:=IN
theorem Zn{s:ax}{m:Nat}(hm:m<(aQ 0 (aB s)).length)(hE:lP (mi s) (aa s.ms (aa (aQ 0 (aB s)) m))=false):
  (aa (aQ 0 (aB s)) m+1<s.ms.length→m+1<(aQ 0 (aB s)).length∧aa (aQ 0 (aB s)) (m+1)=aa (aQ 0 (aB s)) m+1)∧(s.ms.length≤aa (aQ 0 (aB s)) m+1→(aQ 0 (aB s)).length≤m+1):=by
 have hl:(aB s).length=s.ms.length:=IN
 have bW:=(Mu (ms:=s.ms) hl (aI hm)).2
 refine⟨fun h=>Rq hm  oM ?_,fun h=>Nat.le_of_eq (Rr hm  oM).symm⟩
 exact(Mv (E:=lP (mi s)) (J:=wa) (p:=none) h).trans (by rw [hE];rfl)
def Rs(m:ao):List (List (List (Int×List aZ))):=m.cs.map fun c=>c.vs.map fun v=>v.es.map kb
theorem Zo{α β γ:Type}{f:α→β}{g:α→γ}{h:β→γ}(e:∀x,g x=h (f x)){l r:List α}(hd:l.map f=r.map f):l.map g=r.map g:=by
 have:∀l:List α,l.map g=(l.map f).map h:=fun l=>by rw [fu];exact iO fun x _=>e x
 rw [this,this,hd]
theorem Zp{m k:ao}(h:m.aF=k.aF):Rs m=Rs k:=
 Zo (f:=bA.aF) (h:=fun c=>c.2.map fun v=>v.1.map fun e=>(e.n.bo,e.hs.map Hd.pt)) (fun c=>by
  show c.vs.map _=(c.vs.map bF.aF).map _
  rw [fu]
  refine iO fun v _=>?_
  show v.es.map kb=(v.es.map aW.x).map _
  rw [fu];rfl) (ay fO.cs h)
theorem Da{ms:List ao}{i:Nat}:aa (er ms) i=if i<ms.length then Rs (aa ms i)else default:=by
 by_cases h:i<ms.length
 ·rw [aG h];exact pb h
 ·rw [aD h];simp [aa,er,h]
structure im(s c:ax):Prop where
 aF:c.ms.map ao.aF=(eJ s.ms (aB s)).map ao.aF
theorem im.len{s c:ax}(h:im s c):c.ms.length=(aQ 0 (aB s)).length:=by
 rw [kr h.aF,zo (ms:=s.ms) (hid:=aB s) jZ]
theorem im.at{s c:ax}(h:im s c){i:Nat}(hi:i<c.ms.length):(aa c.ms i).aF=(aa s.ms (aa (aQ 0 (aB s)) i)).aF:=by
 rw [h.len]at hi
 rw [vX h.aF i,Zl (ms:=s.ms) (hid:=aB s) jZ hi]
theorem im.FL{s c:ax}(h:im s c){i:Nat}(hi:i<c.ms.length):aa (aQ 0 (aB s)) i<s.ms.length:=by
 rw [h.len]at hi
 have:=(Mu (ms:=s.ms) (hid:=aB s) jZ (aI hi)).2
 omega
theorem im.next{s c:ax}(h:im s c){i a v x:Nat}(hi:i<c.ms.length)(hE:lP (mi s) (aa s.ms (aa (aQ 0 (aB s)) i))=false):yX (er c.ms) i a v x=yX (er s.ms) (aa (aQ 0 (aB s)) i) a v x:=by
 have ho:=h.FL hi
 have hl:=h.len
 have e1:aa (er c.ms) i=aa (er s.ms) (aa (aQ 0 (aB s)) i):=by rw [Da,Da,aG hi,aG ho,Zp (h.at hi)]
 obtain⟨g1,g2⟩:=Zn (hl▸hi) hE
 have iI:(er c.ms).length=c.ms.length:=by simp [er]
 have alm:(er s.ms).length=s.ms.length:=by simp [er]
 unfold yX
 rw [e1,iI,alm]
 by_cases hn:aa (aQ 0 (aB s)) i+1<s.ms.length
 ·obtain⟨k1,k2⟩:=g1 hn
  have fT:i+1<c.ms.length:=oM
  have e2:aa (er c.ms) (i+1)=aa (er s.ms) (aa (aQ 0 (aB s)) i+1):=by rw [Da,Da,aG fT,aG hn,Zp (h.at fT),k2]
  rw [e2]
  simp only [fT,hn,true_and]
 ·have fT:¬i+1<c.ms.length:=by have:=g2  oM ;omega
  simp only [fT,hn,false_and,wQ]
theorem im.ev{s c:ax}(h:im s c){i:Nat}(hi:i<c.ms.length)(a v x:Nat):(aa (aa (aa (aa c.ms i).cs a).vs v).es x).x=(aa (aa (aa (aa s.ms (aa (aQ 0 (aB s)) i)).cs a).vs v).es x).x:=
 bF.Rc (bA.IM (ao.C7 (h.at hi) a) v) x
theorem im.cs{s c:ax}(h:im s c){i:Nat}(hi:i<c.ms.length):(aa c.ms i).cs.length=(aa s.ms (aa (aQ 0 (aB s)) i)).cs.length:=kr (ay fO.cs (h.at hi))
theorem im.vs{s c:ax}(h:im s c){i:Nat}(hi:i<c.ms.length)(a:Nat):(aa (aa c.ms i).cs a).vs.length=(aa (aa s.ms (aa (aQ 0 (aB s)) i)).cs a).vs.length:=kr (ay Prod.snd (ao.C7 (h.at hi) a))
theorem im.es{s c:ax}(h:im s c){i:Nat}(hi:i<c.ms.length)(a v:Nat):(aa (aa (aa c.ms i).cs a).vs v).es.length=(aa (aa (aa s.ms (aa (aQ 0 (aB s)) i)).cs a).vs v).es.length:=kr (f:=aW.x) (ay Prod.fst (bA.IM (ao.C7 (h.at hi) a) v))
theorem Mw{en:bu→Bool}{m:ao}{a v x:Nat}(ha:a<m.cs.length)(hv:v<(aa m.cs a).vs.length)(hx:x<(aa (aa m.cs a).vs v).es.length)(h:mh en (aa (aa (aa m.cs a).vs v).es x).x=false):lP en m=false:=by
 rw [←Bool.not_eq_true]
 intro he
 simp only [lP,qM,eN,sR]at he
 rw [he.2.2 _ (aI ha) _ (aI hv) _ (aI hx)]at h
 cases h
theorem Zq{en:bu→Bool}{e:bn}(h:e.hs≠ []):mh en e=false:=by
 unfold mh
 cases hh:e.hs with
 |nil=>exact absurd hh h
 |cons a l=>rfl
theorem im.rA{s c:ax}(h:im s c)(hT:uJ s.ms):uJ c.ms:=fun i a v x q hr ht=>by
 have hi:=hr.li
 have hc:=hr.lc
 have hv:=hr.lv
 have hx:=hr.lx
 have hq:=hr.lh
 have e:=h.ev hi a v x
 have e1:=h.cs hi
 have e2:=h.vs hi a
 have e3:=h.es hi a v
 rw [e1]at hc
 have h_:v<(aa (aa s.ms (aa (aQ 0 (aB s)) i)).cs a).vs.length:=by rw [←e2];exact hv
 have mK:x<(aa (aa (aa s.ms (aa (aQ 0 (aB s)) i)).cs a).vs v).es.length:=by rw [←e3];exact hx
 have gV:q<(aa (aa (aa (aa s.ms (aa (aQ 0 (aB s)) i)).cs a).vs v).es x).x.hs.length:=by rw [←e];exact hq
 have mY:Fj s.ms (aa (aQ 0 (aB s)) i) a v x q=true:=by
  show(aa (aa (aa (aa (aa s.ms (aa (aQ 0 (aB s)) i)).cs a).vs v).es x).x.hs q).jJ=true
  rw [←e];exact ht
 have hE:lP (mi s) (aa s.ms (aa (aQ 0 (aB s)) i))=false:=Mw hc h_ mK (Zq fun h0=>by rw [h0]at gV;simp at gV)
 obtain⟨k,l,h1,h2,h3⟩:=hT _ a v x q ⟨h.FL hi,hc,h_,mK,gV⟩ mY
 refine⟨k,l,by rw [h.next hi hE];exact h1,h2,?_⟩
 show(aa (aa (aa (aa (aa c.ms i).cs a).vs v).es x).x.hs q).pt∈l
 rw [e];exact h3
theorem Zr:∀{l r:List ao} {st:Bool},l.map ao.aF=r.map ao.aF→gL st l=gL st r
 | [], [],_,_=>rfl
 | [],_::_,_,h=>by cases h
 |_::_, [],_,h=>by cases h
 |a::l,b::r,st,h=>by
  rw [mQ,mQ,List.cons.injEq]at h
  have hn:a.n=b.n:=ay fO.n h.1
  rw [gL,gL,hn]
  split
  ·rfl
  ·exact Zr h.2
theorem Rt{E:ao→Bool}{J:ao→ao→Bool}(hE:∀m,E m=true→m.n.start=false∧m.n.fp=0):∀{ms:List ao} {p:Option ao} {st:Bool},gL st (eJ ms (rH E J p ms))=gL st ms
 | [],p,_=>by cases p<;>rfl
 |m::ms,p,st=>by
  have key:∀hb:Bool,(hb=true→E m=true)→gL st (eJ (m::ms) (hb::rH E J (some m) ms))=gL st (m::ms):=fun hb hh=>by
   cases hb with
   |false=>
    rw [FI,gL,gL]
    split
    ·rfl
    ·exact Rt hE
   |true=>
    obtain⟨g1,g2⟩:=hE m (hh rfl)
    rw [FJ,Rt hE,gL,g1,g2]
    simp
  cases p with
  |none=>exact key false fun h=>by cases h
  |some q=>
   refine key _ fun g=>?_
   rw [eN,eN]at g
   exact g.2.1
theorem aln{en:bu→Bool}{m:ao}(h:lP en m=true):m.n.start=false∧m.n.fp=0:=by
 simp only [lP,Rh,eN,Ey,g_]at h
 exact⟨h.1.1,h.1.2.1⟩
theorem im.Ru{s c:ax}(h:im s c)(hR:qE s):qE c:=by
 unfold qE at*
 rw [Zr h.aF,←hR]
 exact Rt (fun m=>aln)
theorem im.Rv{s c:ax}(h:im s c)(hM:zf s):zf c:=fun i a v x hi hc hv hx=>by
 have e:=h.ev hi a v x
 have e1:=h.cs hi
 have e2:=h.vs hi a
 have e3:=h.es hi a v
 have hl:=h.len
 have oy:a<(aa s.ms (aa (aQ 0 (aB s)) i)).cs.length:=by rw [←e1];exact hc
 have h_:v<(aa (aa s.ms (aa (aQ 0 (aB s)) i)).cs a).vs.length:=by rw [←e2];exact hv
 have mK:x<(aa (aa (aa s.ms (aa (aQ 0 (aB s)) i)).cs a).vs v).es.length:=by rw [←e3];exact hx
 have hm:=hM (aa (aQ 0 (aB s)) i) a v x (h.FL hi) oy h_ mK
 by_cases ht:nS (aa (aa (aa (aa c.ms i).cs a).vs v).es x).x=true
 ·have hh:(aa (aa (aa (aa s.ms (aa (aQ 0 (aB s)) i)).cs a).vs v).es x).x.hs≠ []:=fun h0=>by
   rw [e]at ht
   simp [nS,h0]at ht
  have hE:lP (mi s) (aa s.ms (aa (aQ 0 (aB s)) i))=false:=Mw oy h_ mK (Zq hh)
  obtain⟨g1,g2⟩:=Zn (hl▸hi) hE
  unfold oN oK at hm⊢
  by_cases h1:x+1<((aa (aa (aa c.ms i).cs a).vs v)).es.length
  ·rw [aG h1];simp
  ·have zg:¬x+1<((aa (aa (aa s.ms (aa (aQ 0 (aB s)) i)).cs a).vs v)).es.length:=fun hn=>h1 (by show _<(aa (aa (aa c.ms i).cs a).vs v).es.length;rw [e3];exact hn)
   rw [aD h1]
   rw [aD zg]at hm
   by_cases h2:pf c.ms (i+1) a v∧((aa (aa (aa c.ms (i+1)).cs a).vs v)).es.length≠0
   ·have fT:i+1<c.ms.length:=h2.1.1
    have hn:aa (aQ 0 (aB s)) i+1<s.ms.length:=by
     by_cases hn:aa (aQ 0 (aB s)) i+1<s.ms.length
     ·exact hn
     ·have:=g2  oM ;omega
    have k2:=(g1 hn).2
    have f1:=h.cs fT
    have f2:=h.vs fT a
    have f3:=h.es fT a v
    rw [k2]at f1 f2 f3
    have C9:pf s.ms (aa (aQ 0 (aB s)) i+1) a v∧((aa (aa (aa s.ms (aa (aQ 0 (aB s)) i+1)).cs a).vs v)).es.length≠0:=by
     refine⟨⟨hn,?_,?_⟩,?_⟩
     ·rw [←f1];exact h2.1.lc
     ·show v<(aa (aa s.ms _).cs a).vs.length
      rw [←f2];exact h2.1.lv
     ·show(aa (aa (aa s.ms _).cs a).vs v).es.length≠0
      rw [←f3];exact h2.2
    rw [aG h2]
    rw [aG C9]at hm
    have n1:(aa c.ms i).n=(aa s.ms (aa (aQ 0 (aB s)) i)).n:=ay fO.n (h.at hi)
    have n2:(aa c.ms (i+1)).n=(aa s.ms (aa (aQ 0 (aB s)) i+1)).n:=by rw [←k2];exact ay fO.n (h.at fT)
    dsimp only at hm⊢
    rw [show((aa (aa (aa (aa c.ms i).cs a).vs v).es x)).x=((aa (aa (aa (aa s.ms (aa (aQ 0 (aB s)) i)).cs a).vs v).es x)).x from e,n1,n2]
    rw [show nS ((aa (aa (aa (aa s.ms (aa (aQ 0 (aB s)) i)).cs a).vs v).es x)).x=true from e▸ht]at hm⊢
    have q1:∀k:Nat,decide (k+1≠k)=true:=fun k=>dC  oM
    rw [q1]at hm⊢
    exact hm
   ·rw [aD h2]
 ·have mY:nS ((aa (aa (aa (aa c.ms i).cs a).vs v).es x)).x=false:=by simpa using ht
  unfold oN
  split
  ·rw [mY];rfl
  ·rfl
end Go.Proofs.YtjpbickffffgkaaGreat
