/- Part. -/
import Derived.Test.YtjpbickffffgkaaGreatQ01
set_option linter.unusedSimpArgs false
set_option linter.unusedVariables false
set_option maxHeartbeats 40000000
set_option maxRecDepth 100000
namespace Go.Proofs.YtjpbickffffgkaaGreat
open Go Go.RowKit Hr Go.Proofs.Tryz
section
namespace Hr
open Go Go.RowKit Go.ChangeShapes Go.WideShapes Go.Deep
section
variable{H:Type}{enc:TypeId×Value→H}{P:Program}
theorem agi{f:Func}{s:ChangeSpec}{apart OW OX OY:Bool}{W W':World}{args:Array Value}{v:Value}{ds gs:List (DataW H)}{r7 pa pv:List MemPlace}
  (hW:DataW.Whole enc P f.params.toList s.vars apart W args.toList ds gs r7)
  (HC:∀(b:Nat) (sp:Nat→Bool) (hd:Bool),DataW.TrodAll enc P W' b sp hd f.resultTypes.toList (v.resultList f.resultTypes.size) (s.fn H (ds++gs)).results [])
  (xg:∀sp:Nat→Bool,(∀p∈r7,sp p.block=true)→DataW.TrodAll enc P W' 0 sp true f.params.toList args.toList (s.fn H (ds++gs)).args pa)
  (VD:∀sp:Nat→Bool,(∀p∈r7,sp p.block=true)→DataW.TrodVars enc P W' sp s.vars (s.fn H (ds++gs)).vars pv)
  (fz:r7=pa++pv)(hb:Below W.heap.size W W')
  (cy:∀(j:Nat) (t:TypeId) (r:Value),f.resultTypes[j]?=some t→(v.resultList f.resultTypes.size)[j]?=some r→Value.okWide P W' .any 0 t r):
  s.post enc P f apart OW OX OY W args v W':=by
 have bW:∀p∈r7,p.block<W.heap.size:=fun p hp=>hW.lt p hp
 have qm:∀p∈r7,(fun b=>decide (b<W.heap.size)) p.block=true:=fun p hp=>by simpa using bW p hp
 refine⟨ds,gs,r7, [],pa,pv,hW,HC _ _ _,xg _ qm,VD _ qm,World.keptBut_mono (fun p hp=>⟨hp,?_⟩) (hb.frame (· ∈r7)),fun _=>?_⟩
 ·rw [fz,ep]at hp
  exact Or.inr hp
 ·obtain⟨_,_,_,_,_,hz,hn⟩:=hW
  refine⟨cy,_,_,([]++pa)++pv,⟨[]++pa,pv,trodAll_append (xg _ (fun _ _=>rfl)) (HC _ _ _),VD _ (fun _ _=>rfl),rfl,?_,?_⟩,?_⟩
  ·intro b off hp
   have dN:MemPlace.cell b off∈r7:=by rw [fz];simpa using hp
   rw [hb.frozen (bW _ dN)]
   exact hz b off dN
  ·intro ha
   have:=hn ha
   rw [fz]at this
   simpa using this
  ·intro p hp _
   rw [fz]
   simpa using hp
theorem VE(hl:laidOutB P=true){W W':World}{VF:Nat→Bool}(hb:Below W.heap.size W W'):∀{ts:List TypeId} {vs:List Value} {ds:List (DataW H)} {ps:List MemPlace},
  (∀t∈ts,P.readableRec t=true∧t<P.types.size)→DataW.TrodAll enc P W 0 (fun _=>true) true ts vs ds ps→(∀p∈ps,p.block<W.heap.size)→(∀p∈ps,VF p.block=true)→DataW.TrodAll enc P W' 0 VF true ts vs ds ps
 | [],vs,ds,ps,_,h,_,_=>by
  obtain⟨rfl,rfl,rfl⟩:=trodAll_nil h
  exact rfl
 |t::ts,vs,ds,ps,hr,h,bW,hs=>by
  obtain⟨v,vs',d,ds',p,q,rfl,rfl,rfl,hd,agj⟩:=trodAll_cons h
  exact⟨p,q,WideElems.Trod_stays hl (hr t sM).1 (hr t sM).2 hd (fun x hx=>hb.same (bW x (by simp [hx]))) (fun x hx=>hs x (by simp [hx])),
   VE hl hb (fun t ht=>hr t (by simp [ht])) agj (fun x hx=>bW x (by simp [hx])) (fun x hx=>hs x (by simp [hx])),rfl⟩
theorem agk{f:Func}{s:ChangeSpec}{apart OW OX OY:Bool}{W W':World}{args:Array Value}{ds gs:List (DataW H)}{r7:List MemPlace}{tb:TypeId}
  (hl:laidOutB P=true)(hr:∀t∈f.params.toList,P.readableRec t=true∧t<P.types.size)(HC:f.resultTypes= #[tb])(ur:P.underlying tb=some .bool)(hv:s.vars= [])
  (hs:s.fn H ds={results:= [.lit (.bool true)],args:=ds})(hW:DataW.Whole enc P f.params.toList s.vars apart W args.toList ds gs r7)(hk:bb nX W W'):
  s.post enc P f apart OW OX OY W args (.bool true) W':=by
 have bW:∀p∈r7,p.block<W.heap.size:=fun p hp=>hW.lt p hp
 obtain⟨p,q,hA,hV,EN,hz,hn⟩:=id hW
 rw [hv]at hV
 obtain⟨VG,hq⟩:=trodVars_none hV
 subst VG
 subst hq
 have cO:s.fn H (ds++ [])={results:= [.lit (.bool true)],args:=ds}:=by rw [iF];exact hs
 rw [iF]at EN
 subst EN
 refine agi (pa:=r7) (pv:= []) hW ?_ ?_ ?_  sM  hk.below ?_
 ·intro b sp hd
  rw [cO,HC]
  exact trodAll_mk1 (shut_bool ur true)
 ·intro sp jq
  rw [cO]
  exact VE hl hk.below hr hA bW jq
 ·intro sp jq
  rw [cO,hv]
  rfl
 ·exact ok_one HC rfl (okWide_bool_mk ur true)
theorem ra{k:IntKind}{x lo hi:Int}(h:(Lit.int k x).wf=true)(h1:k.min=lo)(h2:k.max=hi):lo≤x∧x≤hi:=by
 subst h1;subst h2
 simpa [Lit.wf]using h
theorem HD{α:Type}{encα:α→List Value}{Q:α→Prop}{w:World}{base dh:Nat}{ei:Bool}{t e:TypeId}{s:Nat}{cs:List Value}{x:DataW H×List MemPlace}(ht:P.underlying t=some (.slice e))(fF:P.cellsOf e=s)
  (he:∀n cs x,DataW.trod enc P w base (fun _=>true) ei n e cs=some x→∃p:α,cs=encα p∧Q p)(h:DataW.trod enc P w base (fun _=>true) ei dh t cs=some x):
  ∃(A:Option Addr) (l:List α) (c:Nat),cs= [.slice A l.length c]∧l.length≤c∧c≤maxLen∧Rd w A s (l.map encα)∧∀p∈l,Q p:=by
 rcases open_slice ht h with⟨kB,_⟩|⟨a,len,cap,m,n,D,Pl,kB,hb,hl,hm,yD,hx,hi⟩
 ·exact⟨none, [],0,by simpa using kB,by simp,by simp,.inl rfl,by simp⟩
 ·rw [aG rfl]at yD
  subst yD
  rw [fF]at hi
  have key:∀i:Fin len,∃p:α,w.cells? base (a.add (i.val*s)) s=some (encα p)∧Q p:=by
   intro i
   obtain⟨yy,hc,mY⟩:=hi i.val  oM
   obtain⟨p,rfl,hq⟩:=he _ _ _ mY
   exact⟨p,hc,hq⟩
  refine⟨some a,List.ofFn fun i=>Classical.choose (key i),m,by simpa using kB,by simpa using hl,hm,.inr ⟨a,rfl,fun i c HE j v hj=>?_⟩,?_⟩
  ·rw [mx,List.getElem?_ofFn]at HE
   split at HE
   ·rename_i bW
    simp only [rW,Option.some.injEq]at HE
    subst HE
    obtain⟨_,b_,ql⟩:=World.cells?_some (GN (key ⟨i,bW⟩)).1
    have fK:j<s:=by rw [←b_];exact(wN.1 hj).1
    rw [←Go.Deep.add_add,ql j fK,hj]
   ·cases HE
  ·intro p hp
   obtain⟨i,rfl⟩:=List.mem_ofFn.1 hp
   exact(GN (key i)).2
end
end Hr
end
namespace Hr
def bg(rs:List an):Nat→Prop:=fun b=>∃r∈rs,r.at b
theorem Mem.eW{X:Nat→Prop}{W w:World}{rs l:List an}(h:Mem X W (rs++l) w):Mem (bg rs) w rs w:=
 ⟨fun r hr=>h.holds r (by simp [hr]),fun r hr b hb=> .inr ⟨r,hr,hb⟩,(ua.1 h.apart).1⟩
theorem EO:∀(ls:List (List Value)) (size m:Nat),(∀x∈ls,x.length=size)→(ls.take m).flatten=ls.flatten.take (m*size)
 | [],size,m,_=>by simp
 |x::ls,size,0,_=>by simp
 |x::ls,size,m+1,h=>by
  have hx:=h x sM
  have e:(m+1)*size=size+m*size:=by rw [GQ,Nat.add_comm]
  rw [sS,uc,uc,EO ls size m (fun y hy=>h y (by simp [hy])),e,List.take_append,hx,Nat.add_sub_cancel_left,eS (l:=x) (by rw [hx];omega)]
theorem cS.EP{t:TypeId}{size:Nat}{A:Option Addr}{n n' m' c c':Nat}{ls fH:List (List Value)}(hn:n'=m')(hc:c'=c)(hm:m'≤n)(hl:fH=ls.take m'):cS (.ag t size A n c ls) (.ag t size A n' c' fH):=by
 subst hn;subst hc;subst hl
 refine⟨fun _ h=>h,fun w h=>?_⟩
 obtain⟨⟨h1,h2⟩,h3,h4⟩:=h
 have fe:(ls.take n').length=n':=by rw [eM,h3];omega
 refine⟨⟨?_,?_⟩,fe,fun x hx=>h4 x (ue hx)⟩
 ·rw [EO _ _ _ h4,eM,h1]
  exact vh (sQ _ hm)
 ·rcases h2 with⟨hv,ng⟩|⟨g,cap,eO,hv,hg,hh,iJ,hmx,fF,K6⟩
  ·subst ng
   have:n'=0:=oM
   subst this
   exact .inl ⟨hv,rfl⟩
  ·simp only [Value.slice.injEq]at hv
   obtain⟨rfl,-,rfl⟩:=hv
   refine .inr ⟨g,c',eO,rfl,hg,hh,oM,hmx,fF,?_⟩
   rw [EO _ _ _ h4,←K6,GY,vh (sQ _ hm)]
section
variable{P:Program}{X:Nat→Prop}{W:World}{n:Nat}{ai:List (Nat×Value)}{mem:List an}{S:St}{o:Oper}{d:Tmp}
theorem gh{f:FuncId}{xs:List Operand}{vs:List Value}(ho:o.op= .makeFunc (.func f) #[] xs.toArray)(hx:lB S.ai xs vs):Q1 P X W n S o (.func (.func f) #[] vs.toArray):=
 fun a w hs=> .inl (by simp [execOp,ho,Instr.makeFunc,hx.map hs])
theorem Cg{f:FuncId}{y:Operand}{xs:List Operand}{ts:Array TypeId}{vs cap:List Value}{Y:World→Nat→Prop}{Φ:Value→List an→Prop}(cs ls:List an)(ho:o.op= .call {callee:= .value y,args:=xs.toArray,argTypes:=ts})(hd:o.dst=some d)(hdn:Nat.blt d n=true)
  (hy:ev ai y=some (.func (.func f) #[] cap.toArray))(hf:fw P f)(hx:lB ai xs vs)(hp:mem.Perm (cs++ls))(hY:∀w b,Y w b→∃r∈cs,r.at b)(hc:∀w,bb X W w→Mem X W mem w→Calls P f (vs++cap).toArray w (bJ w (Y w) Φ)):
  H1 P X W n ⟨ai,mem⟩ o (fun i:Value×List an=>Φ i.1 i.2) (fun i=>⟨(d,i.1)::ai,i.2++ls⟩):=by
 intro a w hs k Q hk
 unfold Oper.wp
 rw [Vc ho hy hf hx hs]
 refine(hc w hs.dx hs.mem).mono ?_
 rintro e w' ⟨v,m,hΦ,rfl,Hs,hm⟩
 have h2:=(hs.change hp Hs (hY w) hm).put hdn v
 show k (a.put o.dst v) w'
 rw [hd]
 exact hk (v,m) _ _ hΦ h2
end
theorem s7{P:Program}{fn:Func}{R:Ending→World→Prop}{X:Nat→Prop}{W:World}{n:Nat}{k:List K}{S:St}{t:TypeId}{size m c:Nat}{A:Option Addr}{ls:List (List Value)}{l:List an}(hs:ae S.mem (.ag t size A m c ls) l)(h:m≤c→bt P fn R X W n k S):bt P fn R X W n k S:=by
 intro a w cz
 refine h ?_ a w cz
 obtain⟨⟨_,h2⟩,_,_⟩:=hs.holds cz.mem
 rcases h2 with⟨hv,ng⟩|⟨g,cap,eO,hv,hg,hh,iJ,_⟩
 ·omega
 ·simp only [Value.slice.injEq]at hv
  omega
theorem aI{α:Type} [Inhabited α]{l:List α}{q:Nat}(h:q<l.length):aa l q∈l:=by
 rw [aa,Aj,fi h];exact GR h
theorem K7{w:World}{b s:Nat}{t:TypeId}{cs:List (Nat×Value)}{vs:List Value}(h:(an.aj b t cs).holds w)(hv:∀i v,vs[i]?=some v→dw cs i=some v):Rd w (some ⟨b,0,none⟩) s [vs]:=by
 refine .inr ⟨_,rfl,fun i c hi j v hj=>?_⟩
 cases i with
 |zero=>
  simp only [Kv,Option.some.injEq]at hi
  subst hi
  rw [Nat.zero_mul,ub]
  have e:(Addr.add ⟨b,0,none⟩ j)=⟨b,j,none⟩:=by
   unfold Addr.add
   by_cases iy:j=0
   ·simp [iy]
   ·simp [iy]
  rw [e]
  exact EG h (hv j v hj)
 |succ i=>simp at hi
theorem V3{size d:Nat}{v:Value}(hd:d<size):∀(ls:List (List Value)) (q:Nat) (c:List Value),(∀z∈ls,z.length=size)→ls[q]?=some c→
  (ls.set q (c.set d v)).flatten=ls.flatten.take (q*size+d)++ [v]++ls.flatten.drop (q*size+d+1)
 | [],q,c,_,h=>by simp at h
 |z::ls,0,c,h,hq=>by
  have hz:=h z sM
  simp only [Kv,Option.some.injEq]at hq
  subst hq
  simp only [List.set_cons_zero,uc,Nat.zero_mul,ub]
  rw [Kz  oM,List.drop_append_of_le_length  oM,List.set_eq_take_append_cons_drop,aG  oM]
  simp
 |z::ls,q+1,c,h,hq=>by
  have hz:=h z sM
  have ih:=V3 hd ls q c (fun y hy=>h y (by simp [hy])) (by simpa using hq) (v:=v)
  simp only [List.set_cons_succ,uc,ih]
  have e1:(q+1)*size+d=z.length+(q*size+d):=by rw [hz,ud];omega
  rw [e1,List.take_length_add_append,BY z.length,Oq]
  simp
section
variable{P:Program}{X:Nat→Prop}{W:World}{n:Nat}{ai:List (Nat×Value)}{mem:List an}{S:St}{o:Oper}{d:Tmp}{t t' e:TypeId}{x y:Operand}
theorem s8{A:Option Addr}{m c size q f:Nat}{ls:List (List Value)}{l:List an}{cs:List Value}{v:Value}(ho:o.op= .store t x y)(hd:o.dst=none)(fF:Sz P t 1)(hx:ev ai x=some (.pointer (some (((bN A).add (q*size)).add f))))(hy:ev ai y=some v)
  (hv:Ar v=false)(hl:dK v= [v])(h1:ja [v]=true)(hs:ae mem (.ag e size A m c ls) l)(hq:q<m)(hf:f<size)(hc:ls[q]?=some cs):
  H1 P X W n ⟨ai,mem⟩ o (fun _:Unit=>True) (fun _=>⟨ai,.ag e size A m c (ls.set q (cs.set f v))::l⟩):=by
 intro a w cz k Q hk
 have hh:=hs.holds cz.mem
 obtain⟨g,eO,rfl,hg,h3,h4,h5,h6⟩:=EJ hh  oM
 obtain⟨_,fe,hz⟩:=hh
 have Vh:q*size+size≤m*size:=by rw [←GQ];exact sQ _ hq
 have Av:m*size≤c*size:=sQ _ h3
 have cG:=GP P g (q*size+f) e [v] 0 eO w hg (by simp;omega) (As h1)
 have fG:(execOp a.eval o).run P w= .ok .skip (w.setRow g (eO.toList.take (q*size+f)++ [v]++eO.toList.drop (q*size+f+1)).toArray):=by
  have Hn:((bN (some ⟨g,0,none⟩)).add (q*size)).add f=⟨g,q*size+f,none⟩:=by rw [An];simp [bN,vf]
  simp only [execOp,ho,cz.eval hx,cz.eval hy,Instr.storeAt,Instr.sureAddr,storeVar,Hn,EI hv,hl]
  simp [fF.run,cG]
 refine Hl fG ?_
 rw [hd]
 refine hk () _ _ trivial ?_
 have b_:cs.length=size:=hz cs (B3 hc)
 have hw:=Hm (ls:=ls) (fH:=ls.set q (cs.set f v)) (vs:= [v]) hg h3 h4 h5 h6 (by simp;omega) (by simpa using fe) (fun z mX=>by
  rcases B0 mX with h|rfl
  ·exact hz z h
  ·simpa using b_) (V3 hf ls q cs hz hc)
 have hm:Mem (fun k=>k=g) w [.ag e size (some ⟨g,0,none⟩) m c (ls.set q (cs.set f v))] _:=Mem.nil.cons hw (fun k hk=> .inr (by simpa [an.at,eq_comm]using hk)) sM
 exact cz.change (Y:=fun k=>k=g) (cs:= [.ag e size (some ⟨g,0,none⟩) m c ls]) (ls:=l) hs.aK EH (fun k hk=>⟨.ag e size (some ⟨g,0,none⟩) m c ls,by simp,by simp [hk,an.at]⟩) hm
theorem agv(w:World)(d:Nat)(t e:TypeId)(a:Option Addr)(m c:Nat)(h:P.underlying t=some (.slice e)):(Op.equalIn (d+1) t (.slice a m c) (.slice none 0 0)).run P w= .ok a.isNone w:=by
 cases a<;>simp [Op.equalIn,dM h]
theorem AF{A:Option Addr}{m c:Nat}(ho:o.op= .binOp .eql t x y t')(hx:ev S.ai x=some (.slice A m c))(hy:ev S.ai y=some (.slice none 0 0))(ht:P.underlying t=some (.slice e)):Q1 P X W n S o (.bool A.isNone):=
 fun _ w hs=> .inl (by
  have h1:(binOp .eql t (.slice A m c) (.slice none 0 0)).run P w= .ok (.bool A.isNone) w:=by
   simp only [binOp]
   simp [Op.equal,Op.maxDepth,agv w 9999 t e A m c ht]
  simp only [execOp,ho,hs.eval hx,hs.eval hy,eqGuard_at_slice,wO,BZ,yk,h1])
end
section
variable{P:Program}{fn:Func}{R:Ending→World→Prop}{X:Nat→Prop}{W:World}{n:Nat}{k:List K}{S:St}{ai:List (Nat×Value)}{mem:List an}{M0:List an}{aq:Array Oper}{aO:Array Bool}{m:Nat}
def Dk(X:Nat→Prop)(W:World)(M0:List an)(_:Nat)(w1 w':World):Prop:=gb X W M0 w1→gb X W M0 w'
def gx(P:Program)(fn:Func)(R:Ending→World→Prop)(X:Nat→Prop)(W:World)(n:Nat)(k:List K)(M0:List an)(aq:Array Oper)(m:Nat)(aO:Array Bool)(S:St):Prop:=
 Region.noSelect aq=true→jW aq aO→∀a w,cB X W n S a w→gb X W M0 w→
  fJ P aq (Dk X W M0) (fun a w=>post P fn R k .normal a w) (jo fun a w=>post P fn R k .normal a w) m aO a w
theorem r9{id:Nat}{l:List Oper}(hm:P.follows .mixedOrders=true)(cy:Region.noSelect l.toArray=true)(hM:ar S.mem M0)(h:gx P fn R X W n k M0 l.toArray l.toArray.size (Array.replicate l.toArray.size false) S):
  bt P fn R X W n (.bC (.region id l.toArray true)::k) S:=by
 intro a w hs
 have cO:cB X W n S a {w with drawn:=w.drawn+1}:=hs.world (bb.refl nX w).drew
 have b_:jW l.toArray (Array.replicate l.toArray.size false):=by
  intro j o hj hl
  rcases jH j l.toArray.size with h'|h'
  ·simp at h';simp [h']at hl
  ·simp at h';simp [h']at hl
 have hd:=h cy b_ a _ cO ⟨cO.dx,(hM _ _ _ cO.mem).1⟩
 have:=wp_region_any (P:=P) (id:=id) hm (fJ.any (E:=jo fun a w=>post P fn R k .normal a w) (fun a w h=>⟨rfl,h⟩) hd)
 exact BW (fun e a w ⟨he,hq⟩=>by subst he;exact hq) this
theorem agw(h0:Region.ready .any aq aO= [])(h:bt P fn R X W n k S):gx P fn R X W n k M0 aq 0 aO S:=by
 intro _ _ a w hs _ w1 cC
 exact⟨h0,h a w1 (hs.world cC)⟩
theorem V4{i:Nat}{o:Oper}{v:Value}{a:Act}{w:World}(hi:aq[i]?=some o)(hr:((Region.ready .any aq aO).contains i&&Region.free .any aq aO i)=true)(cU:Region.noSelect aq=true)(b_:jW aq aO)
  (hy:o7 P aq (gb X W M0) o v a)(hC:gb X W M0 w)
  (hk:jW aq (aO.setIfInBounds i true)→fJ P aq (Dk X W M0) (fun a w=>post P fn R k .normal a w) (jo fun a w=>post P fn R k .normal a w) m (aO.setIfInBounds i true) (a.put o.dst v) w):
  fJ P aq (Dk X W M0) (fun a w=>post P fn R k .normal a w) (jo fun a w=>post P fn R k .normal a w) (m+1) aO a w:=by
 simp only [eN]at hr
 have jn:i∈Region.ready .any aq aO:=by simpa using hr.1
 exact fJ.first (C:=gb X W M0) (v:=v) hi (GV cU) (fun _ _=>gb.up) (fun w1 w' hk h=>h.up hk) (fun L j w1 w' _ _ _ pF hD=>hD pF) _ _ _ _ b_ (GW hi hr.2) jn hy hC (hk (b_.step jn))
theorem Pk{i d:Nat}{o:Oper}{v:Value}(hi:aq[i]?=some o)(hr:((Region.ready .any aq aO).contains i&&Region.free .any aq aO i)=true)(hw:dd aq ai o true)(hd:o.dst=some d)(hdn:Nat.blt d n=true)(h:Q1 P X W n ⟨ai,M0⟩ o v)
  (hk:gx P fn R X W n k M0 aq m (aO.setIfInBounds i true) ⟨(d,v)::ai,mem⟩):gx P fn R X W n k M0 aq (m+1) aO ⟨ai,mem⟩:=by
 intro cU b_ a w hs hC
 refine V4 hi hr cU b_ (v:=v) (.inl ⟨hw.eq hs,fun w' lA=>h a w' ⟨hs.size,hs.defers,hs.ai,lA.1,lA.2⟩⟩) hC fun nf=>?_
 have:=hk cU nf (a.put (some d) v) w (hs.put hdn v) hC
 rw [hd]
 exact this
def uu(P:Program)(fn:Func)(R:Ending→World→Prop)(X:Nat→Prop)(W:World)(n:Nat)(k:List K)(M0:List an)(aq:Array Oper)(m:Nat)(aO:Array Bool)(i:Nat)(S:St):Prop:=
 Region.noSelect aq=true→jW aq aO→jW aq (aO.setIfInBounds i true)→∀a w,cB X W n S a w→gb X W M0 w→
  wpOp P aq (jo fun a w=>post P fn R k .normal a w) i (fun a' w'=>Dk X W M0 i w w'∧fJ P aq (Dk X W M0) (fun a w=>post P fn R k .normal a w) (jo fun a w=>post P fn R k .normal a w) m (aO.setIfInBounds i true) a' w') a w
theorem AG{i:Nat}{o:Oper}{ι:Type}{φ:ι→Prop}{next:ι→St}(hi:aq[i]?=some o)(hw:dd aq ai o true)(h:H1 P X W n ⟨ai,mem⟩ o φ next)(hM:∀j,φ j→ar (next j).mem M0)
  (hk:∀j,φ j→gx P fn R X W n k M0 aq m (aO.setIfInBounds i true) (next j)):uu P fn R X W n k M0 aq m aO i ⟨ai,mem⟩:=by
 intro cU b_ nf a w hs hC
 unfold wpOp
 simp only [hi]
 rw [aG (hw.eq hs)]
 refine .inl (h a w hs _ _ fun i' a' w' hφ cO=>?_)
 have nL:gb X W M0 w':=⟨cO.dx,(hM i' hφ _ _ _ cO.mem).1⟩
 exact⟨fun _=>nL,hk i' hφ cU nf a' w' cO nL⟩
theorem Pm(i:Nat)(hr:Region.ready .any aq aO= [i])(h:uu P fn R X W n k M0 aq m aO i S):gx P fn R X W n k M0 aq (m+1) aO S:=by
 intro cU b_ a w hs hC w1 cC
 refine⟨fun h0=>(by rw [hr]at h0;cases h0),fun j hj=>?_⟩
 have cG:=b_.step hj
 rw [hr]at hj
 simp only [c_]at hj
 subst hj
 exact h cU b_ cG a w1 (hs.world cC) (hC.up cC)
theorem agx(i j:Nat)(hr:Region.ready .any aq aO= [i,j])(h:uu P fn R X W n k M0 aq m aO i S)(h':uu P fn R X W n k M0 aq m aO j S):gx P fn R X W n k M0 aq (m+1) aO S:=by
 intro cU b_ a w hs hC w1 cC
 refine⟨fun h0=>(by rw [hr]at h0;cases h0),fun q hq=>?_⟩
 have cG:=b_.step hq
 rw [hr]at hq
 simp only [gP,yp,yq]at hq
 rcases hq with rfl|rfl
 ·exact h cU b_ cG a w1 (hs.world cC) (hC.up cC)
 ·exact h' cU b_ cG a w1 (hs.world cC) (hC.up cC)
theorem V5(i j p:Nat)(hr:Region.ready .any aq aO= [i,j,p])(h:uu P fn R X W n k M0 aq m aO i S)(h':uu P fn R X W n k M0 aq m aO j S)(h'':uu P fn R X W n k M0 aq m aO p S):gx P fn R X W n k M0 aq (m+1) aO S:=by
 intro cU b_ a w hs hC w1 cC
 refine⟨fun h0=>(by rw [hr]at h0;cases h0),fun q hq=>?_⟩
 have cG:=b_.step hq
 rw [hr]at hq
 simp only [gP,yp,yq]at hq
 rcases hq with rfl|rfl|rfl
 ·exact h cU b_ cG a w1 (hs.world cC) (hC.up cC)
 ·exact h' cU b_ cG a w1 (hs.world cC) (hC.up cC)
 ·exact h'' cU b_ cG a w1 (hs.world cC) (hC.up cC)
theorem agz{i d:Nat}{o:Oper}(hi:aq[i]?=some o)(hr:((Region.ready .any aq aO).contains i&&Region.free .any aq aO i)=true)(hw:dd aq ai o false)(hd:o.dst=some d)(hdn:Nat.blt d n=true)
  (hk:gx P fn R X W n k M0 aq m (aO.setIfInBounds i true) ⟨(d,undef)::ai,mem⟩):gx P fn R X W n k M0 aq (m+1) aO ⟨ai,mem⟩:=by
 intro cU b_ a w hs hC
 refine V4 hi hr cU b_ (v:=undef) (.inr ⟨hw.eq hs,rfl⟩) hC fun nf=>?_
 have:=hk cU nf (a.put (some d) undef) w (hs.put hdn undef) hC
 rw [hd]
 exact this
end
def s9(aq:Array Oper):List (Nat×Nat)→Array Bool→Bool
 | [],aO=>(Region.ready .any aq aO).isEmpty
 |(i,0)::r,aO=>(Region.ready .any aq aO).contains i&&Region.free .any aq aO i&&s9 aq r (aO.setIfInBounds i true)
 |(i,3)::r,aO=>(Region.ready .any aq aO).contains i&&Region.free .any aq aO i&&s9 aq r (aO.setIfInBounds i true)
 |(i,_)::r,aO=>(Region.ready .any aq aO== [i])&&s9 aq r (aO.setIfInBounds i true)
def V6(aq:Array Oper)(order:List (Nat×Nat)):Bool:=Region.noSelect aq&&Nat.beq order.length aq.size&&s9 aq order (Array.replicate aq.size false)&&AA aq order
section
variable{P:Program}{fn:Func}{R:Ending→World→Prop}{X:Nat→Prop}{W:World}{n:Nat}{k:List K}{S:St}{ai:List (Nat×Value)}{mem:List an}{M0:List an}{aq:Array Oper}{cg:List (Nat×Nat)}
def yG(X:Nat→Prop)(W:World)(M0:List an)(cg:List (Nat×Nat))(j:Nat)(w1 w':World):Prop:=
 match j_ cg j with
 |0=>bb nX w1 w'
 |3=>bb nX w1 w'
 |2=>bb X W w'
 |_=>gb X W M0 w'
def nO(P:Program)(fn:Func)(R:Ending→World→Prop)(X:Nat→Prop)(W:World)(n:Nat)(k:List K)(M0:List an)(aq:Array Oper)(cg order:List (Nat×Nat))(S:St):Prop:=
 ∀aO,Region.noSelect aq=true→AA aq cg=true→s9 aq order aO=true→jW aq aO→∀a w,cB X W n S a w→((∃i,j_ cg i=0∧aO.getD i true=false)→gb X W M0 w)→
  fJ P aq (yG X W M0 cg) (fun a w=>post P fn R k .normal a w) (jo fun a w=>post P fn R k .normal a w) order.length aO a w
theorem run_pure{id:Nat}{l:List Oper}(order:List (Nat×Nat))(hm:P.follows .mixedOrders=true)(cy:V6 l.toArray order=true)(hM:ar S.mem M0)(h:nO P fn R X W n k M0 l.toArray order order S):
  bt P fn R X W n (.bC (.region id l.toArray true)::k) S:=by
 intro a w hs
 simp only [V6,eN]at cy
 obtain⟨⟨⟨h1,h2⟩,h3⟩,h4⟩:=cy
 have fe:order.length=l.toArray.size:=yh h2
 have cO:cB X W n S a {w with drawn:=w.drawn+1}:=hs.world (bb.refl nX w).drew
 have b_:jW l.toArray (Array.replicate l.toArray.size false):=by
  intro j o hj hl
  rcases jH j l.toArray.size with h'|h'
  ·simp at h';simp [h']at hl
  ·simp at h';simp [h']at hl
 have hd:=h _ h1 h4 h3 b_ a _ cO (fun _=>⟨cO.dx,(hM _ _ _ cO.mem).1⟩)
 rw [fe]at hd
 have:=wp_region_any (P:=P) (id:=id) hm (fJ.any (E:=jo fun a w=>post P fn R k .normal a w) (fun a w h=>⟨rfl,h⟩) hd)
 exact BW (fun e a w ⟨he,hq⟩=>by subst he;exact hq) this
theorem agA(h:bt P fn R X W n k S):nO P fn R X W n k M0 aq cg [] S:=by
 intro aO _ _ cy _ a w hs _ w1 cC
 exact⟨by simpa [s9]using cy,h a w1 (hs.world cC)⟩
theorem agB{i:Nat}{o:Oper}{v:Value}{r:List (Nat×Nat)}{aO:Array Bool}{a:Act}{w:World}(hi:aq[i]?=some o)(ht:j_ cg i=0)(cU:Region.noSelect aq=true)(fk:AA aq cg=true)(cy:s9 aq ((i,0)::r) aO=true)(b_:jW aq aO)
  (hy:o7 P aq (gb X W M0) o v a)(hC:gb X W M0 w)
  (hk:s9 aq r (aO.setIfInBounds i true)=true→jW aq (aO.setIfInBounds i true)→fJ P aq (yG X W M0 cg) (fun a w=>post P fn R k .normal a w) (jo fun a w=>post P fn R k .normal a w) r.length (aO.setIfInBounds i true) (a.put o.dst v) w):
  fJ P aq (yG X W M0 cg) (fun a w=>post P fn R k .normal a w) (jo fun a w=>post P fn R k .normal a w) ((i,0)::r).length aO a w:=by
 simp only [s9,eN]at cy
 obtain⟨⟨h1,h2⟩,h3⟩:=cy
 have hr:i∈Region.ready .any aq aO:=by simpa using h1
 refine fJ.first (C:=gb X W M0) (v:=v) hi (GV cU) (fun _ _=>gb.up) (fun w1 w' hk=>by unfold yG;rw [ht];exact hk) (fun L j w1 w' hL EL hj pF hD=>?_) _ _ _ _ b_ (GW hi h2) hr hy hC (hk h3 (b_.step hr))
 unfold yG at hD
 split at hD
 ·exact pF.up hD
 ·exact pF.up hD
 ·rename_i hx
  exfalso
  have:=K0 fk hL ht hx hj
  rcases jH i L.size with h'|h'
  ·simp [h']at this EL;rw [EL]at this;cases this
  ·simp [h']at this
 ·exact hD
theorem V7{i d:Nat}{o:Oper}{v:Value}{r:List (Nat×Nat)}(hi:aq[i]?=some o)(ht:j_ cg i=0)(hw:dd aq ai o true)(hd:o.dst=some d)(hdn:Nat.blt d n=true)(h:Q1 P X W n ⟨ai,M0⟩ o v)
  (hk:nO P fn R X W n k M0 aq cg r ⟨(d,v)::ai,mem⟩):nO P fn R X W n k M0 aq cg ((i,0)::r) ⟨ai,mem⟩:=by
 intro aO cU fk cy b_ a w hs hC
 have hr:i∈Region.ready .any aq aO:=by simp only [s9,eN]at cy;simpa using cy.1.1
 have nL:=hC ⟨i,ht,OT hr⟩
 refine agB hi ht cU fk cy b_ (v:=v) (.inl ⟨hw.eq hs,fun w' lA=>h a w' ⟨hs.size,hs.defers,hs.ai,lA.1,lA.2⟩⟩) nL fun h3 nf=>?_
 have:=hk _ cU fk h3 nf (a.put (some d) v) w (hs.put hdn v) (fun _=>nL)
 rw [hd]
 exact this
theorem amz{i d:Nat}{o:Oper}{r:List (Nat×Nat)}(hi:aq[i]?=some o)(ht:j_ cg i=0)(hw:dd aq ai o false)(hd:o.dst=some d)(hdn:Nat.blt d n=true)
  (hk:nO P fn R X W n k M0 aq cg r ⟨(d,undef)::ai,mem⟩):nO P fn R X W n k M0 aq cg ((i,0)::r) ⟨ai,mem⟩:=by
 intro aO cU fk cy b_ a w hs hC
 have hr:i∈Region.ready .any aq aO:=by simp only [s9,eN]at cy;simpa using cy.1.1
 have nL:=hC ⟨i,ht,OT hr⟩
 refine agB hi ht cU fk cy b_ (v:=undef) (.inr ⟨hw.eq hs,rfl⟩) nL fun h3 nf=>?_
 have:=hk _ cU fk h3 nf (a.put (some d) undef) w (hs.put hdn undef) (fun _=>nL)
 rw [hd]
 exact this
theorem agC{i t:Nat}{o:Oper}{r:List (Nat×Nat)}{ι:Type}{φ:ι→Prop}{next:ι→St}(hi:aq[i]?=some o)(hw:dd aq ai o true)(h:H1 P X W n ⟨ai,mem⟩ o φ next)(hD:∀j w1 w',φ j→bb X W w'→Mem X W (next j).mem w'→yG X W M0 cg i w1 w')
  (hM:∀j,φ j→ar (next j).mem M0∨j_ cg i=2)
  (agD:∀aO,s9 aq ((i,t)::r) aO=((Region.ready .any aq aO== [i])&&s9 aq r (aO.setIfInBounds i true)))
  (hk:∀j,φ j→nO P fn R X W n k M0 aq cg r (next j)):nO P fn R X W n k M0 aq cg ((i,t)::r) ⟨ai,mem⟩:=by
 intro aO cU fk cy b_ a w hs _ w1 cC
 have agc:=cy
 rw [agD]at cy
 simp only [eN,g_]at cy
 obtain⟨h1,h3⟩:=cy
 refine⟨fun h0=>(by rw [h1]at h0;cases h0),fun j hj=>?_⟩
 rw [h1]at hj
 simp only [c_]at hj
 subst hj
 unfold wpOp
 simp only [hi]
 have dX:=hs.world cC
 rw [aG (hw.eq dX)]
 refine .inl (h a w1 dX _ _ fun i' a' w' hφ cO=>⟨hD i' w1 w' hφ cO.dx cO.mem,?_⟩)
 refine hk i' hφ _ cU fk h3 (b_.step (by rw [h1];simp)) a' w' cO ?_
 rintro⟨q,hq,xf⟩
 rcases hM i' hφ with hm|hm
 ·exact⟨cO.dx,(hm _ _ _ cO.mem).1⟩
 ·have h5:=K0 fk b_ hq hm (by rw [h1];simp)
  have h6:=getD_set_true (i:=j) h5
  rcases jH q (aO.setIfInBounds j true).size with h'|h'
  ·simp only [Ot,Ou h',GX]at h6 xf
   rw [xf]at h6;cases h6
  ·simp only [Ot,Ek h',Option.getD_none]at h6
   cases h6
theorem V8{i:Nat}{o:Oper}{r:List (Nat×Nat)}{ι:Type}{φ:ι→Prop}{next:ι→St}(hi:aq[i]?=some o)(ht:j_ cg i=2)(hw:dd aq ai o true)(h:H1 P X W n ⟨ai,mem⟩ o φ next)
  (hk:∀j,φ j→nO P fn R X W n k M0 aq cg r (next j)):nO P fn R X W n k M0 aq cg ((i,2)::r) ⟨ai,mem⟩:=
 agC (t:=2) hi hw h (fun j w1 w' _ hk _=>by unfold yG;rw [ht];exact hk) (fun _ _=> .inr ht) (fun _=>rfl) hk
theorem s_{i d:Nat}{o:Oper}{v:Value}{r:List (Nat×Nat)}(hi:aq[i]?=some o)(ht:j_ cg i=3)(hw:dd aq ai o true)(hd:o.dst=some d)(hdn:Nat.blt d n=true)(h:Q1 P X W n ⟨ai, []⟩ o v)
  (hk:nO P fn R X W n k M0 aq cg r ⟨(d,v)::ai,mem⟩):nO P fn R X W n k M0 aq cg ((i,3)::r) ⟨ai,mem⟩:=by
 intro aO cU fk cy b_ a w hs hC
 simp only [s9,eN]at cy
 obtain⟨⟨h1,h2⟩,h3⟩:=cy
 have hr:i∈Region.ready .any aq aO:=by simpa using h1
 have hy:o7 P aq (gb X W []) o v a:= .inl ⟨hw.eq hs,fun w' lA=>h a w' ⟨hs.size,hs.defers,hs.ai,lA.1,lA.2⟩⟩
 refine fJ.first (C:=gb X W []) (v:=v) hi (GV cU) (fun _ _=>gb.up) (fun w1 w' hk=>by unfold yG;rw [ht];exact hk) (fun L j w1 w' hL EL hj pF hD=>?_) _ _ _ _ b_ (GW hi h2) hr hy ⟨hs.dx,Mem.nil⟩ ?_
 ·unfold yG at hD
  split at hD
  ·exact pF.up hD
  ·exact pF.up hD
  ·exact⟨hD,Mem.nil⟩
  ·exact⟨hD.1,Mem.nil⟩
 ·have:=hk _ cU fk h3 (b_.step hr) (a.put (some d) v) w (hs.put hdn v) (fun⟨q,hq,xf⟩=>hC ⟨q,hq,?_⟩)
  ·rw [hd]
   exact this
  ·by_cases V9:i=q
   ·subst V9
    rw [hq]at ht
    cases ht
   ·rwa [getD_set_ne true V9]at xf
end
section
variable{P:Program}{X:Nat→Prop}{W:World}{n:Nat}{S:St}{o:Oper}{t e:TypeId}{x y:Operand}
theorem agQ{len b off size q d:Nat}{k:IntKind}{i:Int}(ho:o.op= .indexAddr t x y)(ht:P.underlying t=some (.array len e))(fF:Sz P e size)(hx:ev S.ai x=some (.pointer (some ⟨b,off,none⟩)))(hy:ev S.ai y=some (.int k i))
  (hi:i=(q:Int))(hq:q<len)(hd:off+q*size=d):Q1 P X W n S o (.pointer (some ⟨b,d,none⟩)):=
 fun _ w hs=> .inl (by
  subst hi;subst hd
  have h1:(0:Int)≤(q:Int)∧(q:Int)<(len:Int):=oM
  have e2:(Addr.add ⟨b,off,none⟩ (q*size))=⟨b,off+q*size,none⟩:=by
   unfold Addr.add
   by_cases iy:q*size=0
   ·simp [iy]
   ·simp [iy]
  simp [execOp,ho,hs.eval hx,hs.eval hy,Instr.indexAt,Instr.sureAddr,dM ht,asIntOf,fF.run,h1.2,hq,e2])
end
section
variable{P:Program}{X:Nat→Prop}{W:World}{n:Nat}{S:St}{o:Oper}{t t' e:TypeId}{x y:Operand}{k:IntKind}
def r_(a b:ByteArray):Bool:=a.toList==b.toList
theorem HN{a b:ByteArray}(ho:o.op= .binOp .eql t x y t')(hx:ev S.ai x=some (.string a))(hy:ev S.ai y=some (.string b)):Q1 P X W n S o (.bool (r_ a b)):=
 fun _ w hs=> .inl (by simp [execOp,ho,hs.eval hx,hs.eval hy,binOp,Op.stringOp,r_,eqGuard_at_string])
theorem Wi{s:ByteArray}{i:Int}{q:Nat}{b:UInt8}(ho:o.op= .index t x y)(ht:P.underlying t=some .string)(hx:ev S.ai x=some (.string s))(hy:ev S.ai y=some (.int k i))(hi:i=(q:Int))(hb:s[q]?=some b):Q1 P X W n S o (.int .u8 b.toNat):=
 fun _ w hs=> .inl (by
  subst hi
  simp [execOp,ho,hs.eval hx,hs.eval hy,Instr.index,asIntOf,dM ht,hb])
theorem Cl{i j:Int}{k':IntKind}(ho:o.op= .binOp .shr t x y t')(hx:ev S.ai x=some (.int k i))(hy:ev S.ai y=some (.int k' j))(hj:0≤j):Q1 P X W n S o (.int k (i.fdiv (2^(min j.toNat k.bits)))):=
 fun _ w hs=> .inl (by
  have h0:¬j<0:=oM
  simp [execOp,ho,hs.eval hx,hs.eval hy,binOp,Op.shift,h0,eqGuard_at_int])
def Li(k:IntKind)(i j:Int):Int:=k.wrap ((BitVec.ofInt k.bits i&&&BitVec.ofInt k.bits j).toNat:Int)
theorem Cm{i j:Int}(ho:o.op= .binOp .and t x y t')(hx:ev S.ai x=some (.int k i))(hy:ev S.ai y=some (.int k j)):Q1 P X W n S o (.int k (Li k i j)):=
 fun _ w hs=> .inl (by simp [execOp,ho,hs.eval hx,hs.eval hy,binOp,Op.intBits,Li,eqGuard_at_int])
end
theorem Wj(z:Array Value)(n:Nat):(Builtin.zeroCells z n).toList=(List.replicate n z.toList).flatten:=by
 have hf:=q8 (size:=z.size) (List.replicate n z.toList) (fun x hx=>by rw [G2 hx];simp)
 rw [List.length_replicate]at hf
 apply Ai
 intro j
 rcases jH j (n*z.size)with h|h
 ·have hz:0<z.size:=by
   rcases Nat.eq_zero_or_pos z.size with h0|h0
   ·rw [h0]at h;omega
   ·exact h0
  have hq:j/z.size<n:=Kq (by rw [ym];exact h)
  have hr:j%z.size<z.toList.length:=by simpa using Et _ hz
  have h2:=EE (List.replicate n z.toList) z.size (fun x hx=>by rw [G2 hx];simp) (j/z.size) z.toList (by simp [hq]) (j%z.size) _ (fi hr)
  have e:j/z.size*z.size+j%z.size=j:=by rw [ym];exact Kr _ _
  rw [e]at h2
  rw [h2]
  simp only [Builtin.zeroCells,KB,Array.toList_range,mx,List.getElem?_range h,rW]
  have jn:j%z.size<z.size:=Et _ hz
  simp [jn]
 ·rw [wV (by simpa [Builtin.zeroCells]using h),wV  oM]
theorem Wk:∀(a b:List Value),ja (a++b)=(ja a&&ja b)
 | [],b=>by simp [ja]
 |v::a,b=>by cases v<;>simp [ja,Wk a b]
theorem Wl{zs:List Value}(h:ja zs=true):∀n,ja (List.replicate n zs).flatten=true
 |0=>rfl
 |n+1=>by rw [List.replicate_succ,uc,Wk,h,Wl h n];rfl
section
variable{P:Program}{X:Nat→Prop}{W:World}{n:Nat}{ai:List (Nat×Value)}{mem:List an}{S:St}{o:Oper}{d:Tmp}{t t' e:TypeId}{x y:Operand}
theorem HO{A:Option Addr}{m c i size bytes d':Nat}{ls:List (List Value)}{l:List an}{zs:List Value}(ho:o.op= .call {callee:= .builtin .clear,args:= #[x],argTypes:= #[t]})(hd:o.dst=none)
  (ht:P.underlying t=some (.slice e))(hi:vp P e zs size bytes)(rZ:zs.length=size)(h1:ja zs=true)(hx:ev ai x=some (.slice (o6 A i c size) d' (c-i)))(vy:d'=m-i)(K3:i≤m)(hs:ae mem (.ag e size A m c ls) l):
  H1 P X W n ⟨ai,mem⟩ o (fun _:Unit=>True) (fun _=>⟨ai,.ag e size A m c (ls.take i++List.replicate (m-i) zs)::l⟩):=by
 intro a w cz k Q hk
 subst vy
 have hh:=hs.holds cz.mem
 have fe:=hh.2.1
 have hz:=hh.2.2
 obtain⟨iz,z,fT,pE,vr,s4,Aw⟩:=hi
 rcases Nat.eq_zero_or_pos (m-i)with h0|h0
 ·have fG:(execOp a.eval o).run P w= .ok (.value (.tuple #[])) w:=by
   rw [h0]at hx
   rcases hA:o6 A i c size with _|ad
   ·rw [hA]at hx
    simp [execOp,ho,resolve,invoke,builtin,cz.eval hx,Builtin.clear_,dM ht]
   ·rw [hA]at hx
    simp [execOp,ho,resolve,invoke,builtin,cz.eval hx,Builtin.clear_,dM ht]
  refine vq fG ?_
  rw [hd]
  refine hk () _ _ trivial ?_
  have e1:ls.take i++List.replicate (m-i) zs=ls:=by rw [h0,List.replicate_zero,iF,eS  oM]
  rw [e1]
  exact cz.Ha cz.dx (cz.mem.aK hs.aK)
 ·obtain⟨g,eO,rfl,hg,h3,h4,h5,h6⟩:=EJ hh  oM
  have yH:c≠i:=oM
  have Pv:o6 (some ⟨g,0,none⟩) i c size=some ⟨g,i*size,none⟩:=by
   simp [o6,yH,vf]
  have kU:(Builtin.zeroCells z.cells (m-i)).toList=(List.replicate (m-i) zs).flatten:=by rw [Wj,vr]
  have jc:(List.replicate (m-i) zs).flatten.length=(m-i)*size:=by
   rw [q8 (size:=size) _ (fun q hq=>by rw [G2 hq];exact rZ),List.length_replicate]
  have HP:ja (List.replicate (m-i) zs).flatten=true:=by
   exact Wl h1 _
  have xl:i*size+(m-i)*size=m*size:=by rw [←ud];congr 1;omega
  have Av:m*size≤c*size:=sQ _ h3
  have cG:=GP P g (i*size) e (List.replicate (m-i) zs).flatten 0 eO w hg (by rw [jc];omega) (As HP)
  have fG:(execOp a.eval o).run P w= .ok (.value (.tuple #[])) (w.setRow g (eO.toList.take (i*size)++(List.replicate (m-i) zs).flatten++eO.toList.drop (i*size+(List.replicate (m-i) zs).flatten.length)).toArray):=by
   rw [Pv]at hx
   obtain⟨q,hq⟩:∃q,m-i=q+1:=⟨m-i-1,oM⟩
   rw [←kU]at cG⊢
   rw [hq]at hx cG⊢
   simp [execOp,ho,resolve,invoke,builtin,cz.eval hx,Builtin.clear_,dM ht,zeroValue,typeInfo,fT,pE,cG]
  refine vq fG ?_
  rw [hd]
  refine hk () _ _ trivial ?_
  have hw:=Hm (e:=e) (o':=i*size) (ls:=ls) (fH:=ls.take i++List.replicate (m-i) zs) (vs:=(List.replicate (m-i) zs).flatten) hg h3 h4 h5 h6 (by rw [jc];omega) (by simp;omega) (fun q hq=>by
   rcases ep.1 hq with h|h
   ·exact hz q (ue h)
   ·rw [G2 h];exact rZ) (by
    rw [Kt,EO ls size i hz,vg (by rw [jc,q8 ls hz,fe];omega),iF])
  have hm:Mem (fun k=>k=g) w [.ag e size (some ⟨g,0,none⟩) m c (ls.take i++List.replicate (m-i) zs)] _:=Mem.nil.cons hw (fun k hk=> .inr (by simpa [an.at,eq_comm]using hk)) sM
  have:=cz.change (Y:=fun k=>k=g) (cs:= [.ag e size (some ⟨g,0,none⟩) m c ls]) (ls:=l) hs.aK EH (fun k hk=>⟨.ag e size (some ⟨g,0,none⟩) m c ls,by simp,by simp [hk,an.at]⟩) hm
  exact this
end
section
variable{P:Program}{X:Nat→Prop}{W:World}{n:Nat}{S:St}{ai:List (Nat×Value)}{mem:List an}{o:Oper}{t t' e:TypeId}{x y:Operand}{d:Tmp}
theorem l5{a:Addr}{f d1 d2:Nat}{fs:Array Field}{fd:Field}{s:Nat}(ho:o.op= .fieldAddr t x f)(ht:P.underlying t=some (.struct fs))(hx:ev S.ai x=some (.pointer (some (a.add d1))))(hf:fs[f]?=some fd)(fF:Sz P fd.type (s+1))(hd:d1+fd.offset=d2):
  Q1 P X W n S o (.pointer (some (a.add d2))):=
 fun _ w hs=> .inl (by simp [execOp,ho,hs.eval hx,Instr.fieldAt,dM ht,hf,Instr.sureAddr,fieldPlace,fF.run,An,hd])
theorem kV{A:Option Addr}{ls:List (List Value)}{q d s size:Nat}{cs vs:List Value}(ho:o.op= .load t x)(ht:i_ P t s)(hx:ev S.ai x=some (.pointer (some (((bN A).add (q*size)).add d))))(hr:iH X W S A size ls)(hq:ls[q]?=some cs)(hv:(cs.drop d).take s=vs)(hl:vs.length=s):Q1 P X W n S o (.agg vs.toArray):=
 OK ho (by rw [hl];exact ht) hx fun w hk hm j v hj=>by
  rcases hr w hk hm with h|⟨ad,rfl,h⟩
  ·subst h;simp at hq
  ·rw [An,An]
   subst hv
   rw [Eo]at hj
   split at hj
   ·rw [GO]at hj
    exact h q cs hq (d+j) v hj
   ·cases hj
theorem Wn{m cap size bytes:Nat}{kl kc:IntKind}{zs:List Value}(ho:o.op= .makeSlice t x y)(hd:o.dst=some d)(hdn:Nat.blt d n=true)(ht:P.underlying t=some (.slice e))(hi:vp P e zs (size+1) bytes)(rZ:zs.length=size+1)(hx:ev ai x=some (.int kl m))(hy:ev ai y=some (.int kc cap))(Au:m≤cap)
  (hb:bytes*cap≤281474976710656)(Hp:cap≤9223372036854775807):
  H1 P X W n ⟨ai,mem⟩ o (fun _:Nat=>True) (fun b=>⟨(d,.slice (some ⟨b,0,none⟩) m cap)::ai,.ag e (size+1) (some ⟨b,0,none⟩) m cap (List.replicate m zs)::mem⟩):=by
 intro a w hs k Q hk
 obtain⟨i,z',fT,pE,vr,s4,Aw⟩:=hi
 have Hq:z'.cells.size=size+1:=by rw [←rZ,←vr,Es]
 have lW:(i.bytes:Int)*(cap:Int)≤281474976710656:=by
  rw [Aw]
  have h:((bytes*cap:Nat):Int)≤281474976710656:=oM
  rwa [GU]at h
 have hr:=run_make (P:=P) w t e i z' ht fT pE kl kc m cap  oM oM lW  oM
 simp only [Int.toNat_natCast,s4]at hr
 have fG:(execOp a.eval o).run P w= .ok (.value (.slice (some ⟨w.heap.size,0,none⟩) m cap)) (w.alloc (.cells (madeCells z'.cells (cap*(size+1))) e)):=by
  simp [execOp,ho,hs.eval hx,hs.eval hy,hr]
 refine vq fG ?_
 rw [hd]
 have agR:(madeCells z'.cells (cap*(size+1))).toList=(List.replicate cap zs).flatten:=by
  have:=Wj z'.cells cap
  rw [vr]at this
  rw [←this,←Hq];rfl
 have fe:∀z∈List.replicate m zs,z.length=size+1:=fun z hz=>by rw [G2 hz];exact rZ
 refine hk w.heap.size _ _ trivial (cB.put (hs.new _ (.ag e (size+1) (some ⟨w.heap.size,0,none⟩) m cap (List.replicate m zs)) ⟨⟨?_,.inr ⟨w.heap.size,cap,_,rfl,gl _,heap_alloc_new w _,Au,by simpa [maxLen]using Hp,by simp [size_madeCells],?_⟩⟩,by simp,fe⟩ (fun _ h=>(Option.some.inj h).symm)) hdn _)
 ·rw [q8 (size:=size+1) _ fe];simp
 ·rw [agR,←EO _ _ _ (fun z hz=>by rw [G2 hz];exact rZ),List.take_replicate,vh Au]
theorem gi{w:World}{b:Nat}{t:TypeId}{v:Value}(h:(an.aj b t [(0,v)]).holds w):Rd w (some ⟨b,0,none⟩) 1 [[v]]:=
 K7 h fun i u hu=>by
  cases i with
  |zero=>simpa [dw]using hu
  |succ i=>simp at hu
end
section
variable{P:Program}{fn:Func}{R:Ending→World→Prop}{X:Nat→Prop}{W:World}{n:Nat}{k:List K}
theorem xm{ι:Type}{c:Code}{bS:List (Nat×Value)}{bT:List an}{s0:Nat}{u0:Value}{r0 r1 r2 r3:an}(φ:ι→Prop)(f0:ι→Value)(g0 g1 g2 g3:ι→an)(μ:ι→Nat)(i0:ι)(h0:φ i0)(e0:u0=f0 i0)(q0:cS r0 (g0 i0))(q1:cS r1 (g1 i0))(q2:cS r2 (g2 i0))(q3:cS r3 (g3 i0))
  (hr:∀i,φ i→bt P fn R X W n (.bC c:: .stop (pC X W n φ (fun i=>⟨(s0,f0 i)::bS,g0 i::g1 i::g2 i::g3 i::bT⟩) μ (μ i))::k) ⟨(s0,f0 i)::bS,g0 i::g1 i::g2 i::g3 i::bT⟩):bt P fn R X W n (.bC (.loop c)::k) ⟨(s0,u0)::bS,r0::r1::r2::r3::bT⟩:=by
 subst e0
 exact rY φ (fun i=>⟨(s0,f0 i)::bS,g0 i::g1 i::g2 i::g3 i::bT⟩) μ i0 h0 (az eo.refl (ar.cons ae.ak q0 (ar.cons ae.ak q1 (ar.cons ae.ak q2 (ar.cons ae.ak q3 ar.refl))))) hr
theorem Wo{ι:Type}{c:Code}{bS:List (Nat×Value)}{bT:List an}{s0 s1:Nat}{u0 u1:Value}{r0 r1 r2 r3:an}(φ:ι→Prop)(f0 f1:ι→Value)(g0 g1 g2 g3:ι→an)(μ:ι→Nat)(i0:ι)(h0:φ i0)(e0:u0=f0 i0)(e1:u1=f1 i0)(q0:cS r0 (g0 i0))(q1:cS r1 (g1 i0))(q2:cS r2 (g2 i0))(q3:cS r3 (g3 i0))
  (hr:∀i,φ i→bt P fn R X W n (.bC c:: .stop (pC X W n φ (fun i=>⟨(s0,f0 i)::(s1,f1 i)::bS,g0 i::g1 i::g2 i::g3 i::bT⟩) μ (μ i))::k) ⟨(s0,f0 i)::(s1,f1 i)::bS,g0 i::g1 i::g2 i::g3 i::bT⟩):bt P fn R X W n (.bC (.loop c)::k) ⟨(s0,u0)::(s1,u1)::bS,r0::r1::r2::r3::bT⟩:=by
 subst e0;subst e1
 exact rY φ (fun i=>⟨(s0,f0 i)::(s1,f1 i)::bS,g0 i::g1 i::g2 i::g3 i::bT⟩) μ i0 h0 (az eo.refl (ar.cons ae.ak q0 (ar.cons ae.ak q1 (ar.cons ae.ak q2 (ar.cons ae.ak q3 ar.refl))))) hr
theorem agS{ι:Type}{c:Code}{bS:List (Nat×Value)}{bT:List an}{s0 s1:Nat}{u0 u1:Value}{r0 r1 r2 r3 r4:an}(φ:ι→Prop)(f0 f1:ι→Value)(g0 g1 g2 g3 g4:ι→an)(μ:ι→Nat)(i0:ι)(h0:φ i0)(e0:u0=f0 i0)(e1:u1=f1 i0)(q0:cS r0 (g0 i0))(q1:cS r1 (g1 i0))(q2:cS r2 (g2 i0))(q3:cS r3 (g3 i0))(q4:cS r4 (g4 i0))
  (hr:∀i,φ i→bt P fn R X W n (.bC c:: .stop (pC X W n φ (fun i=>⟨(s0,f0 i)::(s1,f1 i)::bS,g0 i::g1 i::g2 i::g3 i::g4 i::bT⟩) μ (μ i))::k) ⟨(s0,f0 i)::(s1,f1 i)::bS,g0 i::g1 i::g2 i::g3 i::g4 i::bT⟩):bt P fn R X W n (.bC (.loop c)::k) ⟨(s0,u0)::(s1,u1)::bS,r0::r1::r2::r3::r4::bT⟩:=by
 subst e0;subst e1
 exact rY φ (fun i=>⟨(s0,f0 i)::(s1,f1 i)::bS,g0 i::g1 i::g2 i::g3 i::g4 i::bT⟩) μ i0 h0 (az eo.refl (ar.cons ae.ak q0 (ar.cons ae.ak q1 (ar.cons ae.ak q2 (ar.cons ae.ak q3 (ar.cons ae.ak q4 ar.refl)))))) hr
end
def o_(P:Program)(o:Oper):Prop:=(∀c,o.op≠ .defer c)∧∀(ρ:Operand→Value) (w:World),match(execOp ρ o).run P w with
 | .ok (.value _) _=>True
 | .ok .skip _=>True
 | .halt _ _=>True
 |_=>False
theorem o_.LJ{P:Program}{o:Oper}(hd:∀c,o.op≠ .defer c)(h:∀ρ,∃s:Sem Value,execOp ρ o=(do pure (.value (←s)))):o_ P o:=⟨hd,fun ρ w=>by
 obtain⟨s,hs⟩:=h ρ
 rw [hs]
 cases hr:s.run P w with
 |ok v w'=>simp [hr]
 |halt x w'=>simp [hr]⟩
theorem o_.Xb{P:Program}{o:Oper}(hd:∀c,o.op≠ .defer c)(h:∀ρ,∃s:Sem Unit,execOp ρ o=(do s;pure .skip)):o_ P o:=⟨hd,fun ρ w=>by
 obtain⟨s,hs⟩:=h ρ
 rw [hs]
 cases hr:s.run P w with
 |ok v w'=>simp [hr]
 |halt x w'=>simp [hr]⟩
theorem Fb{P:Program}{o:Oper}{x:Operand}(ho:o.op= .move x):o_ P o:=⟨(by rw [ho];intro c h;cases h),fun ρ w=>by simp [execOp,ho]⟩
theorem vF{P:Program}{o:Oper}{t:TypeId}{x:Operand}(ho:o.op= .load t x):o_ P o:= .LJ (by rw [ho];intro c h;cases h) fun ρ=>⟨_,by simp only [execOp,ho];rfl⟩
theorem Fc{P:Program}{o:Oper}{t:TypeId}{x y:Operand}(ho:o.op= .store t x y):o_ P o:= .Xb (by rw [ho];intro c h;cases h) fun ρ=>⟨_,by simp only [execOp,ho];rfl⟩
theorem ah6{P:Program}{o:Oper}{t:TypeId}{m:Nat}{xs:Array (Nat×Operand)}(ho:o.op= .buildSlice t m xs):o_ P o:= .LJ (by rw [ho];intro c h;cases h) fun ρ=>⟨_,by simp only [execOp,ho];rfl⟩
theorem ah7{P:Program}{o:Oper}{t:TypeId}{x y:Operand}(ho:o.op= .indexAddr t x y):o_ P o:= .LJ (by rw [ho];intro c h;cases h) fun ρ=>⟨_,by simp only [execOp,ho];rfl⟩
theorem PZ{P:Program}{o:Oper}{b:BinOp}{t t':TypeId}{x y:Operand}(ho:o.op= .binOp b t x y t'):o_ P o:= .LJ (by rw [ho];intro c h;cases h) fun ρ=>⟨_,by simp only [execOp,ho];rfl⟩
theorem ah8{P:Program}{o:Oper}{x y:Operand}{ts:Array TypeId}(ho:o.op= .call {callee:= .builtin .append,args:= #[x,y],argTypes:=ts}):o_ P o:=⟨(by rw [ho];intro c h;cases h),fun ρ w=>by
 simp only [execOp,ho,resolve,invoke,builtin]
 cases hr:Sem.run P (Builtin.append_ ts o.type #[ρ x,ρ y]) w<;>simp [hr]⟩
theorem ah9{vs:List Value}{m:Nat}{W:World}(hz:Nat.ble vs.length m=true):cB nX W m ⟨bB 0 vs, []⟩ {tmps:=vs.toArray++Array.replicate (m-vs.toArray.size) undef,defers:= []} W:=by
 have mX:vs.length≤m:=by simpa using hz
 refine⟨by simp;omega,rfl,fun k v hk=>?_,bb.refl _ _,Mem.nil⟩
 obtain⟨_,h2⟩:=Hi vs 0 k v hk
 have h3:vs.toArray[k]?=some v:=by simpa using h2
 have bW:=(On.1 h3).1
 show(vs.toArray++_)[k]?=_
 rw [Kl bW,h3]
end Hr
section
namespace Hr
abbrev Fr(ρ:Option Nat):Fence:={Fence.wide with round:=ρ}
def HZ(o:Oper):Bool:=match o.op with
 | .defer _=>false
 |_=>true
theorem ah_{o:Oper}(h:HZ o=true):∀c,o.op≠ .defer c:=fun c hc=>by
 unfold HZ at h
 rw [hc]at h
 cases h
theorem rq(a:Act)(d:Option Tmp)(v:Value):(a.put d v).defers=a.defers:=by cases d<;>rfl
theorem yR(a:Act):({a with defers:= []}:Act).eval=a.eval:=by funext x;cases x<;>rfl
theorem aia{ρ:Option Nat}{P:Program}{o:Oper}{a:Act}{w:World}{k:Act→World→Prop}{Q:Exit→Act→World→Prop}(hd:HZ o=true)
  (h:o.wp P {a with defers:= []} w (fun a' w'=>k {a' with defers:=a'.defers++a.defers} w') (fun _ _ _=>False)):o.wpIn (Fr ρ) 0 P a w k Q:=by
 have ke:∀(ds:List Deferred) (v:Value),({({a with defers:=ds}:Act).put o.dst v with defers:=(({a with defers:=ds}:Act).put o.dst v).defers++a.defers}:Act)=({a with defers:=ds++a.defers}:Act).put o.dst v:=fun ds v=>by cases hd:o.dst<;>rfl
 have kp:∀{v:Value} {w':World},k {({a with defers:= []}:Act).put o.dst v with defers:=(({a with defers:= []}:Act).put o.dst v).defers++a.defers} w'→k (a.put o.dst v) w':=fun{v w'} h'=>by
  rw [ke]at h';exact h'
 unfold Oper.wpIn
 refine⟨fun f _=>trivial,?_⟩
 rw [B5 (Fr ρ) _ _ (ah_ hd)]
 unfold Oper.wp at h
 rw [yR]at h
 generalize (execOp a.eval o).run P w=r at*
 cases r with
 |ok nx w'=>
  cases nx with
  |value v=>exact kp h
  |skip=>exact kp h
  |defer d=>
   have h':k {({a with defers:= [d]}:Act).put o.dst undef with defers:=(({a with defers:= [d]}:Act).put o.dst undef).defers++a.defers} w':=h
   rw [ke]at h';exact h'
  |enter f args=>
   refine⟨(fun h'=>by cases h'),?_⟩
   have h2:=callsIn_wide (n:=0).2 h
   refine CallsIn.mono h2 fun e Hu he=>?_
   cases e with
   |returned v=>exact kp he
   |panicked c=>exact he.elim
   |outgrown=>obtain⟨_,_,he⟩:=he;exact he.elim
  |row r args=>exact⟨(fun h'=>by cases h'),fun c cs _=>let ⟨v,w',r,s⟩:=h c cs;⟨v,w',kp r,stepsIn_wide.2 s⟩⟩
  |_=>exact h.elim
 |halt x w'=>
  cases x with
  |panic v=>exact h.elim
  |_=>exact h.elim
def uC(ρ:Option Nat)(P:Program)(Qb:Exit→Act→World→Prop):List K→Exit→Act→World→Prop
 | []=>Qb
 | .bC c::k=>Exit.then (c.wpIn (Fr ρ) 0 P (uC ρ P Qb k)) (uC ρ P Qb k)
 | .aq all l::k=>Exit.then (wpListIn (Fr ρ) 0 P all (uC ρ P Qb k) l) (uC ρ P Qb k)
 | .aj id::k=>Exit.inBlock id (uC ρ P Qb k)
 | .stop J::k=>Exit.then J (uC ρ P Qb k)
theorem H0{ρ:Option Nat}{P:Program}{Qb:Exit→Act→World→Prop}{id:Nat}{a:Act}{w:World}:∀{k k':List K},ui id k=some k'→uC ρ P Qb k' .normal a w→uC ρ P Qb k (.exit id) a w
 | [],_,h,_=>by simp [ui]at h
 | .aj yw::k,k',h,hp=>by
  simp only [ui]at h
  simp only [uC,Exit.inBlock]
  by_cases e:id=yw
  ·subst e
   rw [show Nat.beq id id=true from by simp]at h
   simp only [Option.some.injEq]at h
   subst h
   simpa using hp
  ·have hb:Nat.beq id yw=false:=by
    cases hb:Nat.beq id yw with
    |true=>exact absurd (yh hb) e
    |false=>rfl
   rw [hb]at h
   rw [aD e]
   exact H0 h hp
 | .bC _::k,k',h,hp=>H0 (k:=k) h hp
 | .aq _ _::k,k',h,hp=>H0 (k:=k) h hp
 | .stop _::k,k',h,hp=>H0 (k:=k) h hp
theorem H2{ρ:Option Nat}{P:Program}{Qb:Exit→Act→World→Prop}{a:Act}{w:World}(h:Qb .ret a w):∀(k:List K),uC ρ P Qb k .ret a w
 | []=>h
 | .aj _::k=>H2 h k
 | .bC _::k=>H2 h k
 | .aq _ _::k=>H2 h k
 | .stop _::k=>H2 h k
def SF(ds:List Deferred)(X:Nat→Prop)(W:World)(n:Nat)(S:St)(a:Act)(w:World):Prop:=cB X W n S {a with defers:= []} w∧a.defers=ds
def RF(ρ:Option Nat)(P:Program)(Qb:Exit→Act→World→Prop)(ds:List Deferred)(X:Nat→Prop)(W:World)(n:Nat)(k:List K)(S:St):Prop:=
 ∀a w,SF ds X W n S a w→uC ρ P Qb k .normal a w
section
variable{ρ:Option Nat}{P:Program}{Qb:Exit→Act→World→Prop}{ds:List Deferred}{X:Nat→Prop}{W:World}{n:Nat}{k:List K}{S:St}
theorem SF.eval{a:Act}{w:World}(h:SF ds X W n S a w){x:Operand}{v:Value}(hx:ev S.ai x=some v):a.eval x=v:=by
 have:=h.1.eval hx
 rw [yR]at this;exact this
theorem aib{x y:Code}(h:RF ρ P Qb ds X W n (.bC x:: .bC y::k) S):RF ρ P Qb ds X W n (.bC (.seq x y)::k) S:=fun a w hs=>wpIn_seq (h a w hs)
theorem aic(h:RF ρ P Qb ds X W n k S):RF ρ P Qb ds X W n (.bC .skip::k) S:=fun a w hs=>wpIn_skip (h a w hs)
theorem aid{id:Nat}{c:Code}(h:RF ρ P Qb ds X W n (.bC c:: .aj id::k) S):RF ρ P Qb ds X W n (.bC (.block id c)::k) S:=fun a w hs=>wpIn_block (h a w hs)
theorem aie{id:Nat}(h:RF ρ P Qb ds X W n k S):RF ρ P Qb ds X W n (.aj id::k) S:=fun a w hs=>h a w hs
theorem aif{id:Nat}{k':List K}(hp:ui id k=some k')(h:RF ρ P Qb ds X W n k' S):RF ρ P Qb ds X W n (.bC (.exit id)::k) S:=fun a w hs=>wpIn_exit (H0 hp (h a w hs))
theorem Xc(h:∀a w,SF ds X W n S a w→Qb .ret a w):RF ρ P Qb ds X W n (.bC .ret::k) S:=fun a w hs=>wpIn_ret (H2 (h a w hs) k)
theorem aih{c:Operand}{x y:Code}{t:Bool}(hc:ev S.ai c=some (.bool t))(ht:t=true)(h:RF ρ P Qb ds X W n (.bC x::k) S):RF ρ P Qb ds X W n (.bC (.cond c x y)::k) S:=by
 subst ht;exact fun a w hs=>wpIn_cond_true (hs.eval hc) (h a w hs)
theorem aii{c:Operand}{x y:Code}{t:Bool}(hc:ev S.ai c=some (.bool t))(ht:t=false)(h:RF ρ P Qb ds X W n (.bC y::k) S):RF ρ P Qb ds X W n (.bC (.cond c x y)::k) S:=by
 subst ht;exact fun a w hs=>wpIn_cond_false (hs.eval hc) (h a w hs)
theorem l8{c:Operand}{x y:Code}{t:Bool}(hc:ev S.ai c=some (.bool t))(h1:t=true→RF ρ P Qb ds X W n (.bC x::k) S)(h2:t=false→RF ρ P Qb ds X W n (.bC y::k) S):RF ρ P Qb ds X W n (.bC (.cond c x y)::k) S:=
 fun a w hs=>wpIn_cond_split (hs.eval hc) (fun e=>h1 e a w hs) (fun e=>h2 e a w hs)
theorem Fe(t:Tmp){c:Bool}(OC:dw S.ai t=some (.bool c))(h1:c=true→RF ρ P Qb ds X W n k S)(h2:c=false→RF ρ P Qb ds X W n k S):RF ρ P Qb ds X W n k S:=by
 cases c
 ·exact h2 rfl
 ·exact h1 rfl
theorem aij{id:Nat}{l:List Oper}(h:RF ρ P Qb ds X W n (.aq l.toArray l::k) S):RF ρ P Qb ds X W n (.bC (.region id l.toArray false)::k) S:=fun a w hs=>wpIn_region_lit (h a w hs)
theorem aik{all:Array Oper}(h:RF ρ P Qb ds X W n k S):RF ρ P Qb ds X W n (.aq all []::k) S:=fun a w hs=>h a w hs
theorem bG{S':St}(hs:vm X W n S S')(h:RF ρ P Qb ds X W n k S'):RF ρ P Qb ds X W n k S:=fun a w h'=>h a w ⟨hs _ w h'.1,h'.2⟩
def LK(ds:List Deferred)(X:Nat→Prop)(W:World)(n:Nat){ι:Type}(φ:ι→Prop)(fv:ι→St)(μ:ι→Nat)(m:Nat)(a:Act)(w:World):Prop:=∃i,φ i∧μ i<m∧SF ds X W n (fv i) a w
theorem k6{ι:Type}{φ:ι→Prop}{fv:ι→St}{μ:ι→Nat}{m:Nat}(i:ι)(hi:φ i)(hm:μ i<m)(hs:vm X W n S (fv i)):RF ρ P Qb ds X W n (.stop (LK ds X W n φ fv μ m)::k) S:=
 fun a w h=>⟨i,hi,hm,hs _ w h.1,h.2⟩
open Classical in
theorem Xd{ι:Type}{c:Code}(φ:ι→Prop)(fv:ι→St)(μ:ι→Nat)(i0:ι)(h0:φ i0)(fb:vm X W n S (fv i0))
  (hr:∀i,φ i→RF ρ P Qb ds X W n (.bC c:: .stop (LK ds X W n φ fv μ (μ i))::k) (fv i)):RF ρ P Qb ds X W n (.bC (.loop c)::k) S:=by
 intro a w hs
 have hl:∀a w,(∃m i,φ i∧μ i=m∧SF ds X W n (fv i) a w)→∃m,(∃i,φ i∧μ i=m∧SF ds X W n (fv i) a w)∧∀k,(∃i,φ i∧μ i=k∧SF ds X W n (fv i) a w)→m≤k:=
  fun a w ⟨m,h⟩=>OD m m (cE _) h
 refine wpIn_loop (fun a w=>∃m i,φ i∧μ i=m∧SF ds X W n (fv i) a w)
  (fun a w=>if h:∃m i,φ i∧μ i=m∧SF ds X W n (fv i) a w then Classical.choose (hl a w h)else 0) ⟨_,i0,h0,rfl,fb _ w hs.1,hs.2⟩ ?_
 intro a w hI
 rw [dif_pos hI]
 obtain⟨⟨i,hi,hm,cz⟩,_⟩:=GN (hl a w hI)
 refine wpIn_mono (hr i hi a w cz) ?_
 intro e a' w' q
 cases e with
 |normal=>
  obtain⟨i',da,bW,Hf⟩:=q
  have Cc:∃m i,φ i∧μ i=m∧SF ds X W n (fv i) a' w':=⟨_,i',da,rfl,Hf⟩
  refine⟨Cc,?_⟩
  rw [dif_pos Cc]
  have:=(GN (hl a' w' Cc)).2 (μ i') ⟨i',da,rfl,Hf⟩
  omega
 |_=>exact q
end
section
variable{ρ:Option Nat}{P:Program}{Qb:Exit→Act→World→Prop}{ds:List Deferred}{X:Nat→Prop}{W:World}{n:Nat}{k:List K}{S:St}{ai:List (Nat×Value)}{mem:List an}{all:Array Oper}{aS:List Oper}{o:Oper}
theorem P0{a:Act}{w:World}{c:Bool}(hw:dd all ai o c)(hs:SF ds X W n ⟨ai,mem⟩ a w):Region.wanted o (yielded all a.tmps)=c:=by have:=hw.eq hs.1;exact this
theorem fM{ι:Type}{φ:ι→Prop}{next:ι→St}(hw:dd all ai o true)(h:H1 P X W n ⟨ai,mem⟩ o φ next)(hk:∀i,φ i→RF ρ P Qb ds X W n (.aq all aS::k) (next i))(hf:HZ o=true:=by rfl):RF ρ P Qb ds X W n (.aq all (o::aS)::k) ⟨ai,mem⟩:=by
 intro a w hs
 refine wpListIn_step fun K hK=>?_
 rw [aG (P0 hw hs)]
 exact aia hf (h _ w hs.1 _ _ fun i a' w' hi cO=>hK _ _ (hk i hi _ _ ⟨⟨cO.size,rfl,cO.ai,cO.dx,cO.mem⟩,by show a'.defers++a.defers=ds;rw [cO.defers,hs.2];rfl⟩))
theorem cF{v:Value}{d:Nat}(hw:dd all ai o true)(hd:o.dst=some d)(hdn:Nat.blt d n=true)(h:Q1 P X W n ⟨ai,mem⟩ o v)(hk:RF ρ P Qb ds X W n (.aq all aS::k) ⟨(d,v)::ai,mem⟩)(hf:HZ o=true:=by rfl):RF ρ P Qb ds X W n (.aq all (o::aS)::k) ⟨ai,mem⟩:=
 fM hw (.dJ hd hdn h) (fun _ _=>hk) hf
theorem Xe{d:Nat}(hw:dd all ai o false)(hd:o.dst=some d)(hdn:Nat.blt d n=true)(hk:RF ρ P Qb ds X W n (.aq all aS::k) ⟨(d,undef)::ai,mem⟩):RF ρ P Qb ds X W n (.aq all (o::aS)::k) ⟨ai,mem⟩:=by
 intro a w hs
 refine wpListIn_step fun K hK=>?_
 rw [aD (by rw [P0 hw hs];simp)]
 rw [hd]
 exact⟨fun f _=>trivial,hK _ _ (hk _ _ ⟨hs.1.put hdn undef,hs.2⟩)⟩
end
theorem Cz{X:Nat→Prop}{W0 W w:World}(h0:bb nX W0 W)(hn:∀b,X b→W0.heap.size≤b)(h:bb X W w):bb nX W0 w:=
 ⟨h.os.trans h0.os,h.tape.trans h0.tape,h.output.trans h0.output,j3 h0.size h.size,fun k hk _=>(h.block k (yi hk h0.size) (fun hx=>absurd (hn k hx)  oM)).trans (h0.block k hk (fun e=>e)),j3 h0.drawn h.drawn⟩
theorem P1{X:Nat→Prop}{W0 W:World}{rs:List an}(h0:bb nX W0 W)(hn:∀b,X b→W0.heap.size≤b)(h:∀r∈rs,∀b,r.at b→W.heap.size≤b∨X b):∀b,bg rs b→W0.heap.size≤b:=by
 rintro b ⟨r,hr,hb⟩
 rcases h r hr b hb with h1|h1
 ·exact j3 h0.size h1
 ·exact hn b h1
theorem iH.nr{X:Nat→Prop}{W0 W:World}{S:St}{A:Option Addr}{size:Nat}{ls:List (List Value)}(h:Rd W0 A size ls)(h0:bb nX W0 W)(hn:∀b,X b→W0.heap.size≤b):iH X W S A size ls:=fun _ hk _=>h.aC (Cz h0 hn hk)
theorem P2{W:World}:∀b,nX b→W.heap.size≤b:=fun _ h=>h.elim
def Ff(rs cm:List an)(w w':World):Prop:=bb (bg rs) w w'∧Mem (bg rs) w cm w'
def YR{α:Type}(P:Program)(l:Nat)(encs:α→List Value)(J Jx:List α→List an→Prop)(N:Nat)(W0:World):Prop:=
 ∀bL x rs w,J bL rs→Mem (bg rs) w rs w→bL.length<N→bb nX W0 w→(∀b,bg rs b→W0.heap.size≤b)→
  YieldAt Fence.wide 0 P l (encs x).toArray w fun e w'=>∃cm,Ff rs cm w w'∧((e= .returned (.bool true)∧J (bL++ [x]) cm)∨(e= .returned (.bool false)∧Jx (bL++ [x]) cm))
def yS{α:Type}(J Jx:List α→List an→Prop)(S Sp:List α→Prop)(bP:List an)(W:World):Ending→World→Prop:=
 fun e w'=>(∃v,e= .returned v)∧∃xs rs,Ff bP rs W w'∧((S xs∧J xs rs)∨(Sp xs∧Jx xs rs))
def ail{α:Type}(P:Program)(f:Nat)(H3:List Value)(encs:α→List Value)(S Sp:List α→Prop)(N:Nat)(W0:World)(bP:List an)(w:World):Prop:=
 ∀(l:Nat) (J Jx:List α→List an→Prop),J [] bP→YR P l encs J Jx N W0→CallsIn Fence.wide 0 P f (.func (.yield l) #[] #[]::H3).toArray w (yS J Jx S Sp bP w)
section
variable{P:Program}{fn:Func}{ρ:Option Nat}{Qb:Exit→Act→World→Prop}{ds:List Deferred}{X:Nat→Prop}{W:World}{n:Nat}{k:List K}{S:St}{ai:List (Nat×Value)}{mem:List an}{all:Array Oper}{aS:List Oper}{o:Oper}
theorem Fg{f:FuncId}{vs:List Value}{R:Ending→World→Prop}{c:Code}{mem:List an}(hf:P.funcs[f]?=some fn)(hn:fn.ntmps=n)(hb:fn.body=some c)(hz:Nat.ble vs.length n=true)(hm:Mem X W mem W)
  (h:RF none P (bodyPostM Fence.wide 0 P fn R) [] X W n [.bC c] ⟨bB 0 vs,mem⟩):CallsIn Fence.wide 0 P f vs.toArray W R:=by
 refine callsIn_of_wp_marks hf hb trivial ?_
 have hs:=ah9 (W:=W) hz
 rw [hn]
 exact h _ W ⟨⟨hs.size,rfl,hs.ai,bb.refl _ _,hm⟩,rfl⟩
theorem CB{f:FuncId}{vs:List Value}{R:Ending→World→Prop}{c:Code}{mem:List an}(hf:P.funcs[f]?=some fn)(hn:fn.ntmps=n)(hb:fn.body=some c)(hz:Nat.ble vs.length n=true)(hm:Mem X W mem W)
  (h:RF none P (bodyPostM Fence.wide 0 P fn R) [] X W n [.bC c] ⟨bB 0 vs,mem⟩):Calls P f vs.toArray W R:=(callsIn_wide (n:=0)).1 (Fg hf hn hb hz hm h)
theorem mF{R:Ending→World→Prop}(h:RF none P (bodyPostM Fence.wide 0 P fn R) ds X W n [] S):RF none P (bodyPostM Fence.wide 0 P fn R) ds X W n (.bC .ret::k) S:=Xc h
theorem pM{R:Ending→World→Prop}(h:bt P fn R X W n [] S):RF none P (bodyPostM Fence.wide 0 P fn R) [] X W n [] S:=by
 intro a w hs
 obtain⟨-,h2⟩:=h _ w hs.1
 show LeavesInM _ _ _ _ _ _ a.defers _ _
 rw [hs.2]
 exact h2
theorem qw{α:Type}{J Jx:List α→List an→Prop}{Sd Sp:List α→Prop}{bP rs l:List an}(xs:List α)(hr:fn.results= #[])(hs:ae mem (.aY rs) l)(h:(Sd xs∧J xs rs)∨(Sp xs∧Jx xs rs)):
  bt P fn (yS J Jx Sd Sp bP W) (bg bP) W n [] ⟨ai,mem⟩:=by
 intro a w cz
 refine⟨cz.defers,.tuple #[],results_none hr _ _ _,⟨_,rfl⟩,xs,rs,⟨cz.dx,?_⟩,h⟩
 have h1:=(ar.sX _ _ _ (cz.mem.aK hs.aK)).1
 exact h1.sub (List.sublist_append_left _ _)
theorem H4{bP:List an}(h:Mem (bg bP) W bP W):Mem (bg bP) W [.aY bP] W:=by
 have:=(ar.close_ (rs:=bP) (l:= []) (bg bP) W W (by rw [iF];exact h)).1
 exact this
theorem Xf{α:Type}{l d N:Nat}{encs:α→List Value}{J Jx:List α→List an→Prop}{bL:List α}{rs ls:List an}(x:α){y:Operand}{xs:Array Operand}{ts:Array TypeId}{vs:List Value}(hg:o.guard=Option.none)(ho:o.op= .call {callee:= .value y,args:=xs,argTypes:=ts})(hd:o.dst=some d)(hdn:Nat.blt d n=true)
  (hy:ev ai y=some (.func (.yield l) #[] #[]))(hx:lB ai xs.toList vs)(he:vs=encs x)(cU:ae mem (.aY rs) ls){W0:World}(bI:bb nX W0 W)(ng:∀b,X b→W0.heap.size≤b)(hY:YR P l encs J Jx N W0)(hJ:J bL rs)(hN:bL.length<N)
  (h1:∀cm,J (bL++ [x]) cm→RF ρ P Qb ds X W n (.aq all aS::k) ⟨(d,.bool true)::ai,.aY cm::ls⟩)
  (h2:∀cm,Jx (bL++ [x]) cm→RF ρ P Qb ds X W n (.aq all aS::k) ⟨(d,.bool false)::ai,.aY cm::ls⟩):RF ρ P Qb ds X W n (.aq all (o::aS)::k) ⟨ai,mem⟩:=by
 intro a w hs
 refine wpListIn_plain hg fun K hK=>?_
 have hm:=(ar.sX _ _ _ (hs.1.mem.aK cU.aK)).1
 obtain⟨f,tmps,jL,body,uD,hR⟩:=hY bL x rs w hJ hm.eW hN (Cz bI ng hs.1.dx) (P1 bI ng (fun r hr=>hm.ag r (B6 _ hr)))
 unfold Oper.wpIn
 refine⟨fun f _=>trivial,?_⟩
 rw [B5 (Fr ρ) _ _ (by rw [ho];intro c h;cases h)]
 have xg:xs.map a.eval=(encs x).toArray:=G3.1 (by have:=hx.map hs.1;rw [yR]at this;rw [KB,this,←he])
 have fG:(execOp a.eval o).run P w= .ok (.round l f tmps jL body) w:=by
  simp [execOp,ho,resolve,invoke,Deferred.ofValue,hs.eval hy,xg,uD]
 rw [fG,Oper.uponIn_round]
 refine⟨(fun h=>by cases h),RoundIn.mono hR fun e w' yT=>?_⟩
 obtain⟨cm,⟨hk,ij⟩,hj⟩:=yT
 have eE:=(hs.1.change (cs:= [.aY rs]) (ls:=ls) (m:= [.aY cm]) (Y:=bg rs) cU.aK hk (fun b hb=>⟨.aY rs,by simp,hb⟩) ((ar.close_ (rs:=cm) (l:= []) _ _ _ (by rw [iF];exact ij)).1))
 rcases hj with⟨rfl,hj⟩|⟨rfl,hj⟩
 ·refine hK _ _ (h1 cm hj _ _ ⟨?_,?_⟩)
  ·rw [hd];exact eE.put hdn _
  ·rw [rq];exact hs.2
 ·refine hK _ _ (h2 cm hj _ _ ⟨?_,?_⟩)
  ·rw [hd];exact eE.put hdn _
  ·rw [rq];exact hs.2
end
abbrev qx(D:Nat):Deferred:={target:= .collected D,args:= #[]}
def du(Ds:List Nat):an:= .any (fun b=>b∈Ds) (fun w=>Ds.Nodup∧∀D∈Ds,w.heap[D]?=some (.deferred (some []))) (fun w h b hb=>uh (h.2 b hb)) (fun w w' h hk=>⟨h.1,fun D hD=>(hk D hD).trans (h.2 D hD)⟩)
def de(l:Nat)(r:Loop):an:= .any (fun b=>l=b) (fun w=>w.heap[l]?=some (.loop r)) (fun w h b hb=>by subst hb;exact uh h) (fun w w' h hk=>(hk l rfl).trans h)
theorem Xg(w:World)(l:Nat)(o:Obj):bb (fun b=>l=b) w (w.putObj l o):=⟨rfl,rfl,rfl,by simp,fun k _ hx=>World.putObj_heap_other (fun e=>hx e.symm),cE _⟩
section
variable{P:Program}{fn:Func}{ρ:Option Nat}{Qb:Exit→Act→World→Prop}{ds:List Deferred}{X:Nat→Prop}{W:World}{n:Nat}{k:List K}{S:St}{ai:List (Nat×Value)}{mem:List an}{a:Act}{w:World}
theorem cB.H5{l:Nat}{r r':Loop}(h:cB X W n ⟨ai,de l r::mem⟩ a w):cB X W n ⟨ai,de l r'::mem⟩ a (w.putObj l (.loop r')):=by
 obtain⟨h1,h2,h3,h4⟩:=h.mem.head
 have hl:w.heap[l]?=some (.loop r):=h1
 refine h.change (cs:= [de l r]) (ls:=mem) (m:= [de l r']) (Y:=fun b=>l=b) (List.Perm.refl _) (Xg w l _) (fun b hb=>⟨de l r,eA ..,hb⟩) ?_
 exact Mem.nil.cons (World.putObj_heap_same (uh hl)) (fun b hb=> .inr hb) (fun s hs=>by cases hs)
theorem Xh{R:Ending→World→Prop}(h:bt P fn R X W n [] ⟨ai,mem⟩):∀(Ds:List Nat) (w:World),cB X W n ⟨ai,du Ds::mem⟩ {a with defers:= []} w→LeavesInM Fence.wide 0 P fn a.tmps R (Ds.map qx) .returning w
 | [],w,hs=>(h _ w (az eo.refl (ar.sub (B1 _ _)) _ _ hs)).2
 |D::Ds,w,hs=>by
  obtain⟨h1,h2,h3,h4⟩:=hs.mem.head
  obtain⟨H6,hD⟩:(D::Ds).Nodup∧∀E∈D::Ds,w.heap[E]?=some (.deferred (some [])):=h1
  have hDD:=hD D (eA ..)
  refine⟨(fun e=>by cases e),.inl ⟨D,w.putObj D (.deferred none),rfl,run_takeDeferred hDD,Xh h Ds _ ?_⟩⟩
  refine hs.change (cs:= [du (D::Ds)]) (ls:=mem) (m:= [du Ds]) (Y:=fun b=>b∈D::Ds) (List.Perm.refl _) ((bb.refl _ w).step (Xg w D _) (fun k _ hx e=>hx (by subst e;exact eA ..))) (fun b hb=>⟨du (D::Ds),eA ..,hb⟩) ?_
  refine Mem.nil.cons ⟨(List.nodup_cons.1 H6).2,fun E hE=>?_⟩ (fun b hb=>?_) (fun s hs=>by cases hs)
  ·exact(World.putObj_heap_other (fun e=>(List.nodup_cons.1 H6).1 (by subst e;exact hE))).trans (hD E (gR _ hE))
  ·exact .inr (gR _ hb)
theorem xA{R:Ending→World→Prop}(Ds:List Nat)(h:bt P fn R X W n [] ⟨ai,mem⟩):RF none P (bodyPostM Fence.wide 0 P fn R) (Ds.map qx) X W n [] ⟨ai,du Ds::mem⟩:=by
 intro a w hs
 show LeavesInM _ _ _ _ _ _ a.defers _ _
 rw [hs.2]
 exact Xh h Ds w hs.1
end
def RQ{α:Type}(P:Program)(l:Nat)(r:Loop)(J:List α→List an→Prop)(Jx:Code→List α→List an→Prop)(bL:List α)(bP:List an)(W:World):Exit→Act→World→Prop:=
 roundPost P l fun e w'=>∃cm,Ff bP cm W w'∧((e= .returned (.bool true)∧∃rs,cm=de l r::rs∧J bL rs)∨(e= .returned (.bool false)∧∃rs c,cm=de l {r with state:= .done,pending:=some c}::rs∧Jx c bL rs))
def LL(P:Program)(l:Nat)(body:Code)(Q:Exit→Act→World→Prop)(a:Act)(w:World):Prop:=∃w₂,(Instr.beginRound l).run P w= .ok () w₂∧body.wpIn (Fr (some l)) 0 P Q a w₂
abbrev QF:Exit→Act→World→Prop:=fun _ _ _=>False
abbrev busy(r:Loop):Loop:={r with state:= .busy}
section
variable{P:Program}{fn:Func}{ρ:Option Nat}{Qb:Exit→Act→World→Prop}{ds:List Deferred}{X:Nat→Prop}{W:World}{n:Nat}{k:List K}{S:St}{ai:List (Nat×Value)}{mem:List an}
theorem CC{l:Nat}{r:Loop}{body:Code}{ls:List an}(hr:r.state= .ready)(hs:ae mem (de l r) ls)(h:RF (some l) P Qb ds X W n [.bC body] ⟨ai,de l (busy r)::ls⟩):
  RF (some l) P QF ds X W n [.stop (LL P l body Qb)] ⟨ai,mem⟩:=by
 intro a w lI
 have dX:cB X W n ⟨ai,de l r::ls⟩ {a with defers:= []} w:=az eo.refl (ar.aK hs.aK) _ _ lI.1
 have hl:w.heap[l]?=some (.loop r):=dX.mem.head.1
 exact⟨_,run_beginRound hl hr,h _ _ ⟨dX.H5 (r':=busy r),lI.2⟩⟩
section
variable{α:Type}{J:List α→List an→Prop}{Jx:Code→List α→List an→Prop}{bL:List α}{bP rs ls:List an}{l:Nat}{r:Loop}
theorem Xi{e:Exit}{a:Act}{w:World}(c:Option Code)(r':Loop)(he:∀R,roundPost P l R e a w=∃v w',(Instr.endRound l c).run P w= .ok v w'∧R (.returned v) w')(hr:{busy r with state:=if c.isNone then .ready else .done,pending:=c}=r')
  (hs:cB (bg bP) W n ⟨ai,de l (busy r)::rs⟩ {a with defers:= []} w){R:Ending→World→Prop}(hR:∀w',Ff bP (de l r'::rs) W w'→R (.returned (.bool c.isNone)) w'):roundPost P l R e a w:=by
 have hl:w.heap[l]?=some (.loop (busy r)):=hs.mem.head.1
 rw [he]
 refine⟨_,_,run_endRound c hl,hR _ ?_⟩
 rw [hr]
 have h:=hs.H5 (r':=r')
 exact⟨h.dx,h.mem⟩
theorem yU(hr:r.state= .ready)(hp:r.pending=none)(hs:ar mem (de l (busy r)::rs))(hJ:J bL rs):RF (some l) P (RQ P l r J Jx bL bP W) ds (bg bP) W n [] ⟨ai,mem⟩:=fun a w lI=>by
 show RQ P l r J Jx bL bP W .normal a w
 unfold RQ
 exact Xi none r (fun _=>rfl) (by cases r;simp only at hr hp;subst hr;subst hp;rfl) (az eo.refl hs _ _ lI.1) fun w' ht=>⟨_,ht,.inl ⟨rfl,_,rfl,hJ⟩⟩
theorem ain(hs:ar mem (de l (busy r)::rs))(hJ:Jx .ret bL rs):RF (some l) P (RQ P l r J Jx bL bP W) ds (bg bP) W n (.bC .ret::k) ⟨ai,mem⟩:=
 Xc fun a w lI=>by
 show RQ P l r J Jx bL bP W .ret a w
 unfold RQ
 exact Xi (some .ret) {r with state:= .done,pending:=some .ret} (fun _=>rfl) rfl (az eo.refl hs _ _ lI.1) fun w' ht=>⟨_,ht,.inr ⟨rfl,_,_,rfl,hJ⟩⟩
end
theorem LM:∀(l:List (Nat×Value)) (S:St) (a:Act) (w:World),cB X W n S a w→(∀p∈l,Nat.blt p.1 n=true)→cB X W n ⟨l.foldl (fun e p=>p::e) S.ai,S.mem⟩ {a with tmps:=l.foldl (fun t p=>t.setIfInBounds p.1 p.2) a.tmps} w
 | [],S,a,w,h,_=>h
 |(d,v)::l,S,a,w,h,hl=>LM l ⟨(d,v)::S.ai,S.mem⟩ (a.put (some d) v) w (h.put (hl _ (eA ..)) v) (fun p hp=>hl p (gR _ hp))
theorem P3{g:Operand}{ps:Array Tmp}{jL body:Code}{gf:Nat}{lb:Array Value}{Q:Exit→Act→World→Prop}{a:Act}{w:World}(hg:a.eval g= .func (.func gf) #[] lb)(oG:fw P gf)
  (h:∀ti,CallsIn Fence.wide 0 P gf (#[.func (.yield (w.heap.size+1)) #[] #[]]++lb) ((w.alloc (.deferred (some []))).alloc (.loop {state:= .ready,pending:=none,fn:=ti,tmps:=a.tmps,params:=ps,assign:=jL,body,defers:=w.heap.size}))
   (rangePost (Fr none) 0 P (w.heap.size+1) Q {a with defers:= [qx w.heap.size]++a.defers})):(Code.rangeFunc g ps jL body).wpIn (Fr none) 0 P Q a w:=by
 refine wpIn_rangeFunc fun ti _=>?_
 refine⟨w.heap.size+1, [qx w.heap.size],((w.alloc (.deferred (some []))).alloc (.loop {state:= .ready,pending:=none,fn:=ti,tmps:=a.tmps,params:=ps,assign:=jL,body,defers:=w.heap.size})),{target:= .fn (.func gf) lb,args:= #[.func (.yield (w.heap.size+1)) #[] #[]]},((w.alloc (.deferred (some []))).alloc (.loop {state:= .ready,pending:=none,fn:=ti,tmps:=a.tmps,params:=ps,assign:=jL,body,defers:=w.heap.size})),gf,#[.func (.yield (w.heap.size+1)) #[] #[]]++lb,((w.alloc (.deferred (some []))).alloc (.loop {state:= .ready,pending:=none,fn:=ti,tmps:=a.tmps,params:=ps,assign:=jL,body,defers:=w.heap.size})),run_enterLoop_outer _ _ _ _ _,?_,?_,?_,?_,?_⟩
 ·simp only [resolve,hg]
  simp [go_sem]
 ·intro f' _;trivial
 ·have:=oG (#[.func (.yield (w.heap.size+1)) #[] #[]]++lb) ((w.alloc (.deferred (some []))).alloc (.loop {state:= .ready,pending:=none,fn:=ti,tmps:=a.tmps,params:=ps,assign:=jL,body,defers:=w.heap.size}))
  simp only [invoke,go_sem]
  simpa using this
 ·intro h;cases h
 ·exact h ti
theorem P4{α:Type}{g:Operand}{ps:Array Tmp}{jL body:Code}{gf N:Nat}{lb:List Value}{encs:α→List Value}{Sd Sp:List α→Prop}(J:List α→List an→Prop)(Jx:Code→List α→List an→Prop)(bP aS:List an){W0:World}(bI:bb nX W0 W)(ng:∀b,X b→W0.heap.size≤b)
  (hg:ev ai g=some (.func (.func gf) #[] lb.toArray))(oG:fw P gf)(fz:∀x,(encs x).length=ps.size)(vG:∀p∈ps.toList,Nat.blt p n=true)(hp:ar mem (bP++aS))(h0:J [] bP)
  (H7:∀r w,bb X W w→Mem X W (r::(bP++aS)) w→bb nX W0 w→(∀b,bg (r::bP) b→W0.heap.size≤b)→ail P gf lb encs Sd Sp N W0 (r::bP) w)
  (H8:∀l r w bL x rs,r.state= .ready→r.pending=none→J bL rs→bL.length<N→Mem (bg (de l r::rs)) w (de l r::rs) w→bb nX W0 w→(∀b,bg (de l r::rs) b→W0.heap.size≤b)→
   RF (some l) P QF [] (bg (de l r::rs)) w n [.bC jL,.stop (LL P l body (RQ P l r J Jx (bL++ [x]) (de l r::rs) w))] ⟨(ps.toList.zip (encs x)).foldl (fun e p=>p::e) ai,de l r::rs⟩)
  (H9:∀D xs rs,Sd xs→J xs rs→RF none P Qb (qx D::ds) X W n k ⟨ai,du [D]::(rs++aS)⟩)
  (H_:∀D c xs rs,Sp xs→Jx c xs rs→RF none P Qb (qx D::ds) X W n (.bC c::k) ⟨ai,du [D]::(rs++aS)⟩):
  RF none P Qb ds X W n (.bC (.rangeFunc g ps jL body)::k) ⟨ai,mem⟩:=by
 intro a w lI
 have fb:cB X W n ⟨ai,bP++aS⟩ {a with defers:= []} w:=az eo.refl hp _ _ lI.1
 refine P3 (lI.eval hg) oG fun ti=>?_
 generalize cp:({state:= .ready,pending:=none,fn:=ti,tmps:=a.tmps,params:=ps,assign:=jL,body,defers:=w.heap.size}:Loop)=cW
 have cG:cW.state= .ready:=by rw [←cp]
 have jY:cW.pending=none:=by rw [←cp]
 have k1:bb nX w (w.alloc (.deferred (some []))):=bb.alloc _ _
 have k2:bb nX (w.alloc (.deferred (some []))) ((w.alloc (.deferred (some []))).alloc (.loop cW)):=bb.alloc _ _
 have e1:(w.alloc (.deferred (some []))).heap.size=w.heap.size+1:=World.size_alloc ..
 have g1:(w.alloc (.deferred (some []))).heap[w.heap.size]?=some (.deferred (some [])):=G4 _ _
 have g2:((w.alloc (.deferred (some []))).alloc (.loop cW)).heap[w.heap.size+1]?=some (.loop cW):=by rw [←e1];exact G4 _ _
 have Ia:=fb.dx.size
 have m1:Mem X W (du [w.heap.size]::(bP++aS)) (w.alloc (.deferred (some []))):=by
  refine(fb.mem.w_ k1).cons ⟨by simp,fun D hD=>?_⟩ (fun b hb=>?_) (fun s hs b hb jm=>?_)
  ·obtain rfl:=c_.1 hD;exact g1
  ·obtain rfl:=c_.1 hb;exact .inl Ia
  ·obtain rfl:=c_.1 hb;exact absurd (fb.mem.lt s hs _ jm) (Ep _)
 have m2:Mem X W (de (w.heap.size+1) cW::du [w.heap.size]::(bP++aS)) ((w.alloc (.deferred (some []))).alloc (.loop cW)):=by
  refine(m1.w_ k2).cons g2 (fun b hb=>?_) (fun s hs b hb jm=>?_)
  ·obtain rfl:w.heap.size+1=b:=hb;exact .inl  oM
  ·obtain rfl:w.heap.size+1=b:=hb
   have:=m1.lt s hs _ jm
   rw [e1]at this
   exact absurd this (Ep _)
 have eE:cB X W n ⟨ai,de (w.heap.size+1) cW::du [w.heap.size]::(bP++aS)⟩ {a with defers:= []} ((w.alloc (.deferred (some []))).alloc (.loop cW)):=fb.Ha ((fb.dx.fS k1).fS k2) m2
 generalize (w.alloc (.deferred (some []))).alloc (.loop cW)=w2 at*
 have oH:cB X W n ⟨ai,de (w.heap.size+1) cW::(bP++du [w.heap.size]::aS)⟩ {a with defers:= []} w2:=az eo.refl (ar.aK (.cons _ (List.perm_middle.symm))) _ _ eE
 have hc:=H7 (de (w.heap.size+1) cW) w2 oH.dx ((oH.mem.sub (.cons_cons _ (List.Sublist.append_left (B1 _ _) _)))) (Cz bI ng oH.dx) (P1 bI ng (fun r hr=>oH.mem.ag r (by rcases gP.1 hr with rfl|hr;(· exact eA ..);(· exact gR _ (B6 _ hr))))) (w.heap.size+1)
  (fun bL cm=>∃rs,cm=de (w.heap.size+1) cW::rs∧J bL rs) (fun bL cm=>∃rs c,cm=de (w.heap.size+1) {cW with state:= .done,pending:=some c}::rs∧Jx c bL rs) ⟨bP,rfl,h0⟩ ?yr
 case yr=>
  rintro bL x cm w3 ⟨rs,rfl,hJ⟩ hm hN AR LN
  have hl:w3.heap[w.heap.size+1]?=some (.loop cW):=hm.head.1
  have AS:cW.params=ps:=by rw [←cp]
  have xB:cW.tmps=a.tmps:=by rw [←cp]
  have kG:cW.body=body:=by rw [←cp]
  have has:cW.assign=jL:=by rw [←cp]
  have hy:=run_yield (P:=P) (args:=(encs x).toArray) hl (by rw [AS];simp [fz])
  rw [AS,xB,kG,has]at hy
  refine⟨_,_,_,_,hy,roundIn_of_wpIn trivial ?_⟩
  have gT:cB (bg (de (w.heap.size+1) cW::rs)) w3 n ⟨ai,de (w.heap.size+1) cW::rs⟩ {a with defers:= []} w3:=⟨lI.1.size,rfl,lI.1.ai,bb.refl _ _,hm⟩
  have jq:=LM (ps.toList.zip (encs x)) _ _ _ gT (fun p hp=>vG _ (List.of_mem_zip hp).1)
  have he:({tmps:=(ps.zip (encs x).toArray).foldl (fun t (p,v)=>t.setIfInBounds p v) a.tmps,defers:= []}:Act)={({a with defers:= []}:Act)with tmps:=(ps.toList.zip (encs x)).foldl (fun t p=>t.setIfInBounds p.1 p.2) a.tmps}:=by
   congr 1
   rw [←Ku,Array.toList_zip]
  rw [he]
  refine H8 (w.heap.size+1) cW w3 bL x rs cG jY hJ hN hm AR LN _ w3 ?_
  exact⟨jq,rfl⟩
 have ea:(#[.func (.yield (w.heap.size+1)) #[] #[]]++lb.toArray:Array Value)=(.func (.yield (w.heap.size+1)) #[] #[]::lb).toArray:=by simp
 rw [ea]
 refine hc.mono ?_
 rintro e w4 ⟨⟨v,rfl⟩,xs,cm,⟨CD,Ib⟩,Ic⟩
 have yV:cB X W n ⟨ai,cm++du [w.heap.size]::aS⟩ {a with defers:= []} w4:=oH.change (cs:=de (w.heap.size+1) cW::bP) (ls:=du [w.heap.size]::aS) (m:=cm) (Y:=bg (de (w.heap.size+1) cW::bP)) (List.Perm.refl _) CD (fun b hb=>hb) Ib
 have AT:∀r rs,cm=de (w.heap.size+1) r::rs→r.state≠ .busy→∃w5,(Instr.endLoop (w.heap.size+1)).run P w4= .ok r.pending w5∧SF (qx w.heap.size::ds) X W n ⟨ai,du [w.heap.size]::(rs++aS)⟩ {a with defers:= [qx w.heap.size]++a.defers} w5:=by
  rintro r rs rfl hb
  have hl:w4.heap[w.heap.size+1]?=some (.loop r):=yV.mem.head.1
  refine⟨_,run_endLoop hl hb,?_,by simp [lI.2]⟩
  have h5:=(show cB X W n ⟨ai,de (w.heap.size+1) r::(rs++du [w.heap.size]::aS)⟩ {a with defers:= []} w4 from yV).H5 (r':={r with state:= .exhausted})
  exact az eo.refl ((ar.sub (B1 _ _)).trans (ar.aK yt)) _ _ h5
 rcases Ic with⟨hS,rs,vH,hJ⟩|⟨hS,rs,c,vH,hJ⟩
 ·obtain⟨w5,nV,vI⟩:=AT _ _ vH (by rw [cG];intro h;cases h)
  refine⟨none,w5,by rw [nV,jY],?_⟩
  exact H9 _ xs rs hS hJ _ _ vI
 ·obtain⟨w5,nV,vI⟩:=AT _ _ vH (by intro h;cases h)
  refine⟨some c,w5,nV,?_⟩
  exact H_ _ c xs rs hS hJ _ _ vI
end
section
variable{ρ:Option Nat}{P:Program}{Qb:Exit→Act→World→Prop}{ds:List Deferred}{X:Nat→Prop}{W:World}{n:Nat}{k:List K}
theorem vJ{ι:Type}{c:Code}{bS:List (Nat×Value)}{bT:List an}{s0:Nat}{u0:Value}{r0:an}(φ:ι→Prop)(f0:ι→Value)(g0:ι→an)(μ:ι→Nat)(i0:ι)(h0:φ i0)(e0:u0=f0 i0)(q0:cS r0 (g0 i0))
  (hr:∀i,φ i→RF ρ P Qb ds X W n (.bC c:: .stop (LK ds X W n φ (fun i=>⟨(s0,f0 i)::bS,g0 i::bT⟩) μ (μ i))::k) ⟨(s0,f0 i)::bS,g0 i::bT⟩):RF ρ P Qb ds X W n (.bC (.loop c)::k) ⟨(s0,u0)::bS,r0::bT⟩:=by
 subst e0
 exact Xd φ (fun i=>⟨(s0,f0 i)::bS,g0 i::bT⟩) μ i0 h0 (az eo.refl (ar.cons ae.ak q0 ar.refl)) hr
theorem Xj{ι:Type}{c:Code}{bS:List (Nat×Value)}{bT:List an}{s0 s1:Nat}{u0 u1:Value}{r0:an}(φ:ι→Prop)(f0 f1:ι→Value)(g0:ι→an)(μ:ι→Nat)(i0:ι)(h0:φ i0)(e0:u0=f0 i0)(e1:u1=f1 i0)(q0:cS r0 (g0 i0))
  (hr:∀i,φ i→RF ρ P Qb ds X W n (.bC c:: .stop (LK ds X W n φ (fun i=>⟨(s0,f0 i)::(s1,f1 i)::bS,g0 i::bT⟩) μ (μ i))::k) ⟨(s0,f0 i)::(s1,f1 i)::bS,g0 i::bT⟩):RF ρ P Qb ds X W n (.bC (.loop c)::k) ⟨(s0,u0)::(s1,u1)::bS,r0::bT⟩:=by
 subst e0;subst e1
 exact Xd φ (fun i=>⟨(s0,f0 i)::(s1,f1 i)::bS,g0 i::bT⟩) μ i0 h0 (az eo.refl (ar.cons ae.ak q0 ar.refl)) hr
end
end Hr
end
end Go.Proofs.YtjpbickffffgkaaGreat
