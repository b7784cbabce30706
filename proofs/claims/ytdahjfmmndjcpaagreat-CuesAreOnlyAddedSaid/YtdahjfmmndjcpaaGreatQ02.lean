/- Part. -/
import Derived.Test.YtdahjfmmndjcpaaGreatQ01
set_option linter.unusedSimpArgs false
set_option linter.unusedVariables false
set_option maxHeartbeats 40000000
set_option maxRecDepth 100000
namespace Go.Proofs.YtdahjfmmndjcpaaGreat
open Go Go.RowKit Hr Go.Proofs.Tryz
section
namespace Hr
open Go Go.RowKit Go.ChangeShapes Go.WideShapes Go.Deep
section
variable{H:Type}{enc:TypeId×Value→H}{P:Program}
theorem aeV{f:Func}{s:ChangeSpec}{apart Oh Oi Oj:Bool}{W W':World}{args:Array Value}{v:Value}{ds gs:List (DataW H)}{rB pa pv:List MemPlace}
  (hW:DataW.Whole enc P f.params.toList s.vars apart W args.toList ds gs rB)
  (GO:∀(b:Nat) (sp:Nat→Bool) (hd:Bool),DataW.TrodAll enc P W' b sp hd f.resultTypes.toList (v.resultList f.resultTypes.size) (s.fn H (ds++gs)).results [])
  (z6:∀sp:Nat→Bool,(∀p∈rB,sp p.block=true)→DataW.TrodAll enc P W' 0 sp true f.params.toList args.toList (s.fn H (ds++gs)).args pa)
  (UE:∀sp:Nat→Bool,(∀p∈rB,sp p.block=true)→DataW.TrodVars enc P W' sp s.vars (s.fn H (ds++gs)).vars pv)
  (eH:rB=pa++pv)(hb:Below W.heap.size W W')
  (cu:∀(j:Nat) (t:TypeId) (r:Value),f.resultTypes[j]?=some t→(v.resultList f.resultTypes.size)[j]?=some r→Value.okWide P W' .any 0 t r):
  s.post enc P f apart Oh Oi Oj W args v W':=by
 have bG:∀p∈rB,p.block<W.heap.size:=fun p hp=>hW.lt p hp
 have sH:∀p∈rB,(fun b=>decide (b<W.heap.size)) p.block=true:=fun p hp=>by simpa using bG p hp
 refine⟨ds,gs,rB, [],pa,pv,hW,GO _ _ _,z6 _ sH,UE _ sH,World.keptBut_mono (fun p hp=>⟨hp,?_⟩) (hb.frame (· ∈rB)),fun _=>?_⟩
 ·rw [eH,dJ]at hp
  exact Or.inr hp
 ·obtain⟨_,_,_,_,_,hz,hn⟩:=hW
  refine⟨cu,_,_,([]++pa)++pv,⟨[]++pa,pv,trodAll_append (z6 _ (fun _ _=>rfl)) (GO _ _ _),UE _ (fun _ _=>rfl),rfl,?_,?_⟩,?_⟩
  ·intro b off hp
   have ew:MemPlace.cell b off∈rB:=by rw [eH];simpa using hp
   rw [hb.frozen (bG _ ew)]
   exact hz b off ew
  ·intro ha
   have:=hn ha
   rw [eH]at this
   simpa using this
  ·intro p hp _
   rw [eH]
   simpa using hp
theorem UF(hl:laidOutB P=true){W W':World}{UG:Nat→Bool}(hb:Below W.heap.size W W'):∀{ts:List TypeId} {vs:List Value} {ds:List (DataW H)} {ps:List MemPlace},
  (∀t∈ts,P.readableRec t=true∧t<P.types.size)→DataW.TrodAll enc P W 0 (fun _=>true) true ts vs ds ps→(∀p∈ps,p.block<W.heap.size)→(∀p∈ps,UG p.block=true)→DataW.TrodAll enc P W' 0 UG true ts vs ds ps
 | [],vs,ds,ps,_,h,_,_=>by
  obtain⟨rfl,rfl,rfl⟩:=trodAll_nil h
  exact rfl
 |t::ts,vs,ds,ps,hr,h,bG,hs=>by
  obtain⟨v,vs',d,ds',p,q,rfl,rfl,rfl,hd,aeW⟩:=trodAll_cons h
  exact⟨p,q,WideElems.Trod_stays hl (hr t sM).1 (hr t sM).2 hd (fun x hx=>hb.same (bG x (by simp [hx]))) (fun x hx=>hs x (by simp [hx])),
   UF hl hb (fun t ht=>hr t (by simp [ht])) aeW (fun x hx=>bG x (by simp [hx])) (fun x hx=>hs x (by simp [hx])),rfl⟩
theorem aeX{f:Func}{s:ChangeSpec}{apart Oh Oi Oj:Bool}{W W':World}{args:Array Value}{ds gs:List (DataW H)}{rB:List MemPlace}{tb:TypeId}
  (hl:laidOutB P=true)(hr:∀t∈f.params.toList,P.readableRec t=true∧t<P.types.size)(GO:f.resultTypes= #[tb])(rC:P.underlying tb=some .bool)(hv:s.vars= [])
  (hs:s.fn H ds={results:= [.lit (.bool true)],args:=ds})(hW:DataW.Whole enc P f.params.toList s.vars apart W args.toList ds gs rB)(hk:aU nX W W'):
  s.post enc P f apart Oh Oi Oj W args (.bool true) W':=by
 have bG:∀p∈rB,p.block<W.heap.size:=fun p hp=>hW.lt p hp
 obtain⟨p,q,hA,hV,BL,hz,hn⟩:=id hW
 rw [hv]at hV
 obtain⟨UH,hq⟩:=trodVars_none hV
 subst UH
 subst hq
 have cP:s.fn H (ds++ [])={results:= [.lit (.bool true)],args:=ds}:=by rw [gT];exact hs
 rw [gT]at BL
 subst BL
 refine aeV (pa:=rB) (pv:= []) hW ?_ ?_ ?_  sM  hk.below ?_
 ·intro b sp hd
  rw [cP,GO]
  exact trodAll_mk1 (shut_bool rC true)
 ·intro sp ng
  rw [cP]
  exact UF hl hk.below hr hA bG ng
 ·intro sp ng
  rw [cP,hv]
  rfl
 ·exact ok_one GO rfl (okWide_bool_mk rC true)
theorem pV{k:IntKind}{x lo hi:Int}(h:(Lit.int k x).wf=true)(h1:k.min=lo)(h2:k.max=hi):lo≤x∧x≤hi:=by
 subst h1;subst h2
 simpa [Lit.wf]using h
theorem GP{α:Type}{encα:α→List Value}{Q:α→Prop}{w:World}{base dg:Nat}{dW:Bool}{t e:TypeId}{s:Nat}{cs:List Value}{x:DataW H×List MemPlace}(ht:P.underlying t=some (.slice e))(gr:P.cellsOf e=s)
  (he:∀n cs x,DataW.trod enc P w base (fun _=>true) dW n e cs=some x→∃p:α,cs=encα p∧Q p)(h:DataW.trod enc P w base (fun _=>true) dW dg t cs=some x):
  ∃(A:Option Addr) (l:List α) (c:Nat),cs= [.slice A l.length c]∧l.length≤c∧c≤maxLen∧Rd w A s (l.map encα)∧∀p∈l,Q p:=by
 rcases open_slice ht h with⟨iG,_⟩|⟨a,len,cap,m,n,D,Pl,iG,hb,hl,hm,BM,hx,hi⟩
 ·exact⟨none, [],0,by simpa using iG,by simp,by simp,.inl rfl,by simp⟩
 ·rw [aG rfl]at BM
  subst BM
  rw [gr]at hi
  have key:∀i:Fin len,∃p:α,w.cells? base (a.add (i.val*s)) s=some (encα p)∧Q p:=by
   intro i
   obtain⟨x4,hc,nB⟩:=hi i.val  oM
   obtain⟨p,rfl,hq⟩:=he _ _ _ nB
   exact⟨p,hc,hq⟩
  refine⟨some a,List.ofFn fun i=>Classical.choose (key i),m,by simpa using iG,by simpa using hl,hm,.inr ⟨a,rfl,fun i c GQ j v hj=>?_⟩,?_⟩
  ·rw [jt,List.getElem?_ofFn]at GQ
   split at GQ
   ·rename_i bG
    simp only [tz,Option.some.injEq]at GQ
    subst GQ
    obtain⟨_,bT,pS⟩:=World.cells?_some (F7 (key ⟨i,bG⟩)).1
    have er:j<s:=by rw [←bT];exact(xQ.1 hj).1
    rw [←Go.Deep.add_add,pS j er,hj]
   ·cases GQ
  ·intro p hp
   obtain⟨i,rfl⟩:=List.mem_ofFn.1 hp
   exact(F7 (key i)).2
end
end Hr
end
namespace Hr
def aX(rs:List ak):Nat→Prop:=fun b=>∃r∈rs,r.at b
theorem Mem.fQ{X:Nat→Prop}{W w:World}{rs l:List ak}(h:Mem X W (rs++l) w):Mem (aX rs) w rs w:=
 ⟨fun r hr=>h.holds r (by simp [hr]),fun r hr b hb=> .inr ⟨r,hr,hb⟩,(rj.1 h.apart).1⟩
theorem GR:∀(ls:List (List Value)) (size m:Nat),(∀x∈ls,x.length=size)→(ls.take m).flatten=ls.flatten.take (m*size)
 | [],size,m,_=>by simp
 |x::ls,size,0,_=>by simp
 |x::ls,size,m+1,h=>by
  have hx:=h x sM
  have e:(m+1)*size=size+m*size:=by rw [F9,Nat.add_comm]
  rw [Gg,tA,tA,GR ls size m (fun y hy=>h y (by simp [hy])),e,List.take_append,hx,J2,gU (l:=x) (by rw [hx];omega)]
theorem cN.Ol{t:TypeId}{size:Nat}{A:Option Addr}{n n' m' c c':Nat}{ls gu:List (List Value)}(hn:n'=m')(hc:c'=c)(hm:m'≤n)(hl:gu=ls.take m'):cN (.ae t size A n c ls) (.ae t size A n' c' gu):=by
 subst hn;subst hc;subst hl
 refine⟨fun _ h=>h,fun w h=>?_⟩
 obtain⟨⟨h1,h2⟩,h3,h4⟩:=h
 have fD:(ls.take n').length=n':=by rw [fL,h3];omega
 refine⟨⟨?_,?_⟩,fD,fun x hx=>h4 x (wi hx)⟩
 ·rw [GR _ _ _ h4,fL,h1]
  exact J1 (uF _ hm)
 ·rcases h2 with⟨hv,mh⟩|⟨g,cap,fe,hv,hg,hh,je,hmx,gr,KB⟩
  ·subst mh
   have:n'=0:=oM
   subst this
   exact .inl ⟨hv,rfl⟩
  ·simp only [Value.slice.injEq]at hv
   obtain⟨rfl,-,rfl⟩:=hv
   refine .inr ⟨g,c',fe,rfl,hg,hh,oM,hmx,gr,?_⟩
   rw [GR _ _ _ h4,←KB,List.take_take,J1 (uF _ hm)]
section
variable{P:Program}{X:Nat→Prop}{W:World}{n:Nat}{ah:List (Nat×Value)}{mem:List ak}{S:St}{o:Oper}{d:Tmp}
theorem iN{f:FuncId}{xs:List Operand}{vs:List Value}(ho:o.op= .makeFunc (.func f) #[] xs.toArray)(hx:kv S.ah xs vs):Q1 P X W n S o (.func (.func f) #[] vs.toArray):=
 fun a w hs=> .inl (by simp [execOp,ho,Instr.makeFunc,hx.map hs])
theorem KC{f:FuncId}{y:Operand}{xs:List Operand}{ts:Array TypeId}{vs cap:List Value}{Y:World→Nat→Prop}{Φ:Value→List ak→Prop}(cs ls:List ak)(ho:o.op= .call {callee:= .value y,args:=xs.toArray,argTypes:=ts})(hd:o.dst=some d)(hdn:Nat.blt d n=true)
  (hy:ev ah y=some (.func (.func f) #[] cap.toArray))(hf:eG P f)(hx:kv ah xs vs)(hp:mem.Perm (cs++ls))(hY:∀w b,Y w b→∃r∈cs,r.at b)(hc:∀w,aU X W w→Mem X W mem w→Calls P f (vs++cap).toArray w (bK w (Y w) Φ)):
  H1 P X W n ⟨ah,mem⟩ o (fun i:Value×List ak=>Φ i.1 i.2) (fun i=>⟨(d,i.1)::ah,i.2++ls⟩):=by
 intro a w hs k Q hk
 unfold Oper.wp
 rw [Uh ho hy hf hx hs]
 refine(hc w hs.dm hs.mem).mono ?_
 rintro e w' ⟨v,m,hΦ,rfl,GH,hm⟩
 have h2:=(hs.change hp GH (hY w) hm).put hdn v
 show k (a.put o.dst v) w'
 rw [hd]
 exact hk (v,m) _ _ hΦ h2
end
theorem uW{P:Program}{fn:Func}{R:Ending→World→Prop}{X:Nat→Prop}{W:World}{n:Nat}{k:List K}{S:St}{t:TypeId}{size m c:Nat}{A:Option Addr}{ls:List (List Value)}{l:List ak}(hs:ag S.mem (.ae t size A m c ls) l)(h:m≤c→bj P fn R X W n k S):bj P fn R X W n k S:=by
 intro a w cF
 refine h ?_ a w cF
 obtain⟨⟨_,h2⟩,_,_⟩:=hs.holds cF.mem
 rcases h2 with⟨hv,mh⟩|⟨g,cap,fe,hv,hg,hh,je,_⟩
 ·omega
 ·simp only [Value.slice.injEq]at hv
  omega
theorem aB{α:Type} [Inhabited α]{l:List α}{q:Nat}(h:q<l.length):aa l q∈l:=by
 rw [aa,zy,j4 h];exact Bz h
theorem KD{w:World}{b s:Nat}{t:TypeId}{cs:List (Nat×Value)}{vs:List Value}(h:(ak.ai b t cs).holds w)(hv:∀i v,vs[i]?=some v→dj cs i=some v):Rd w (some ⟨b,0,none⟩) s [vs]:=by
 refine .inr ⟨_,rfl,fun i c hi j v hj=>?_⟩
 cases i with
 |zero=>
  simp only [J3,Option.some.injEq]at hi
  subst hi
  rw [Nat.zero_mul,xR]
  have e:(Addr.add ⟨b,0,none⟩ j)=⟨b,j,none⟩:=by
   unfold Addr.add
   by_cases gL:j=0
   ·simp [gL]
   ·simp [gL]
  rw [e]
  exact D6 h (hv j v hj)
 |succ i=>simp at hi
theorem U3{size d:Nat}{v:Value}(hd:d<size):∀(ls:List (List Value)) (q:Nat) (c:List Value),(∀z∈ls,z.length=size)→ls[q]?=some c→
  (ls.set q (c.set d v)).flatten=ls.flatten.take (q*size+d)++ [v]++ls.flatten.drop (q*size+d+1)
 | [],q,c,_,h=>by simp at h
 |z::ls,0,c,h,hq=>by
  have hz:=h z sM
  simp only [J3,Option.some.injEq]at hq
  subst hq
  simp only [List.set_cons_zero,tA,Nat.zero_mul,xR]
  rw [Gi  oM,List.drop_append_of_le_length  oM,List.set_eq_take_append_cons_drop,aG  oM]
  simp
 |z::ls,q+1,c,h,hq=>by
  have hz:=h z sM
  have ih:=U3 hd ls q c (fun y hy=>h y (by simp [hy])) (by simpa using hq) (v:=v)
  simp only [F8,tA,ih]
  have e1:(q+1)*size+d=z.length+(q*size+d):=by rw [hz,uD];omega
  rw [e1,List.take_length_add_append,zt z.length,NQ]
  simp
section
variable{P:Program}{X:Nat→Prop}{W:World}{n:Nat}{ah:List (Nat×Value)}{mem:List ak}{S:St}{o:Oper}{d:Tmp}{t t' e:TypeId}{x y:Operand}
theorem qI{A:Option Addr}{m c size q f:Nat}{ls:List (List Value)}{l:List ak}{cs:List Value}{v:Value}(ho:o.op= .store t x y)(hd:o.dst=none)(gr:Sz P t 1)(hx:ev ah x=some (.pointer (some (((bI A).add (q*size)).add f))))(hy:ev ah y=some v)
  (hv:zT v=false)(hl:dC v= [v])(h1:iL [v]=true)(hs:ag mem (.ae e size A m c ls) l)(hq:q<m)(hf:f<size)(hc:ls[q]?=some cs):
  H1 P X W n ⟨ah,mem⟩ o (fun _:Unit=>True) (fun _=>⟨ah,.ae e size A m c (ls.set q (cs.set f v))::l⟩):=by
 intro a w cF k Q hk
 have hh:=hs.holds cF.mem
 obtain⟨g,fe,rfl,hg,h3,h4,h5,h6⟩:=GC hh  oM
 obtain⟨_,fD,hz⟩:=hh
 have Un:q*size+size≤m*size:=by rw [←F9];exact uF _ hq
 have uR:m*size≤c*size:=uF _ h3
 have cX:=J0 P g (q*size+f) e [v] 0 fe w hg (by simp;omega) (BG h1)
 have fO:(execOp a.eval o).run P w= .ok .skip (w.setRow g (fe.toList.take (q*size+f)++ [v]++fe.toList.drop (q*size+f+1)).toArray):=by
  have GD:((bI (some ⟨g,0,none⟩)).add (q*size)).add f=⟨g,q*size+f,none⟩:=by rw [zP];simp [bI,wg]
  simp only [execOp,ho,cF.eval hx,cF.eval hy,Instr.storeAt,Instr.sureAddr,storeVar,GD,D7 hv,hl]
  simp [gr.run,cX]
 refine GB fO ?_
 rw [hd]
 refine hk () _ _ trivial ?_
 have bT:cs.length=size:=hz cs (BB hc)
 have hw:=Kk (ls:=ls) (gu:=ls.set q (cs.set f v)) (vs:= [v]) hg h3 h4 h5 h6 (by simp;omega) (by simpa using fD) (fun z oX=>by
  rcases xU oX with h|rfl
  ·exact hz z h
  ·simpa using bT) (U3 hf ls q cs hz hc)
 have hm:Mem (fun k=>k=g) w [.ae e size (some ⟨g,0,none⟩) m c (ls.set q (cs.set f v))] _:=Mem.nil.cons hw (fun k hk=> .inr (by simpa [ak.at,eq_comm]using hk)) sM
 exact cF.change (Y:=fun k=>k=g) (cs:= [.ae e size (some ⟨g,0,none⟩) m c ls]) (ls:=l) hs.aR Gz (fun k hk=>⟨.ae e size (some ⟨g,0,none⟩) m c ls,by simp,by simp [hk,ak.at]⟩) hm
theorem ae8(w:World)(d:Nat)(t e:TypeId)(a:Option Addr)(m c:Nat)(h:P.underlying t=some (.slice e)):(Op.equalIn (d+1) t (.slice a m c) (.slice none 0 0)).run P w= .ok a.isNone w:=by
 cases a<;>simp [Op.equalIn,cL h]
theorem wG{A:Option Addr}{m c:Nat}(ho:o.op= .binOp .eql t x y t')(hx:ev S.ah x=some (.slice A m c))(hy:ev S.ah y=some (.slice none 0 0))(ht:P.underlying t=some (.slice e)):Q1 P X W n S o (.bool A.isNone):=
 fun _ w hs=> .inl (by
  have h1:(binOp .eql t (.slice A m c) (.slice none 0 0)).run P w= .ok (.bool A.isNone) w:=by
   simp only [binOp]
   simp [Op.equal,Op.maxDepth,ae8 w 9999 t e A m c ht]
  simp only [execOp,ho,hs.eval hx,hs.eval hy,eqGuard_at_slice,wh,Bv,xS,h1])
end
section
variable{P:Program}{fn:Func}{R:Ending→World→Prop}{X:Nat→Prop}{W:World}{n:Nat}{k:List K}{S:St}{ah:List (Nat×Value)}{mem:List ak}{M0:List ak}{an:Array Oper}{aL:Array Bool}{m:Nat}
def Dk(X:Nat→Prop)(W:World)(M0:List ak)(_:Nat)(w1 w':World):Prop:=fP X W M0 w1→fP X W M0 w'
def gB(P:Program)(fn:Func)(R:Ending→World→Prop)(X:Nat→Prop)(W:World)(n:Nat)(k:List K)(M0:List ak)(an:Array Oper)(m:Nat)(aL:Array Bool)(S:St):Prop:=
 Region.noSelect an=true→jM an aL→∀a w,cd X W n S a w→fP X W M0 w→
  fF P an (Dk X W M0) (fun a w=>post P fn R k .normal a w) (jy fun a w=>post P fn R k .normal a w) m aL a w
theorem uZ{id:Nat}{l:List Oper}(hm:P.follows .mixedOrders=true)(cu:Region.noSelect l.toArray=true)(hM:ar S.mem M0)(h:gB P fn R X W n k M0 l.toArray l.toArray.size (Array.replicate l.toArray.size false) S):
  bj P fn R X W n (.bq (.region id l.toArray true)::k) S:=by
 intro a w hs
 have cP:cd X W n S a {w with drawn:=w.drawn+1}:=hs.world (aU.refl nX w).drew
 have bT:jM l.toArray (Array.replicate l.toArray.size false):=by
  intro j o hj hl
  rcases jo j l.toArray.size with h'|h'
  ·simp at h';simp [h']at hl
  ·simp at h';simp [h']at hl
 have hd:=h cu bT a _ cP ⟨cP.dm,(hM _ _ _ cP.mem).1⟩
 have:=wp_region_any (P:=P) (id:=id) hm (fF.any (E:=jy fun a w=>post P fn R k .normal a w) (fun a w h=>⟨rfl,h⟩) hd)
 exact Bp (fun e a w ⟨he,hq⟩=>by subst he;exact hq) this
theorem ae9(h0:Region.ready .any an aL= [])(h:bj P fn R X W n k S):gB P fn R X W n k M0 an 0 aL S:=by
 intro _ _ a w hs _ w1 ct
 exact⟨h0,h a w1 (hs.world ct)⟩
theorem U4{i:Nat}{o:Oper}{v:Value}{a:Act}{w:World}(hi:an[i]?=some o)(hr:((Region.ready .any an aL).contains i&&Region.free .any an aL i)=true)(cQ:Region.noSelect an=true)(bT:jM an aL)
  (hy:ot P an (fP X W M0) o v a)(hC:fP X W M0 w)
  (hk:jM an (aL.setIfInBounds i true)→fF P an (Dk X W M0) (fun a w=>post P fn R k .normal a w) (jy fun a w=>post P fn R k .normal a w) m (aL.setIfInBounds i true) (a.put o.dst v) w):
  fF P an (Dk X W M0) (fun a w=>post P fn R k .normal a w) (jy fun a w=>post P fn R k .normal a w) (m+1) aL a w:=by
 simp only [ft]at hr
 have j6:i∈Region.ready .any an aL:=by simpa using hr.1
 exact fF.first (C:=fP X W M0) (v:=v) hi (Gc cQ) (fun _ _=>fP.up) (fun w1 w' hk h=>h.up hk) (fun L j w1 w' _ _ _ o5 hD=>hD o5) _ _ _ _ bT (Ge hi hr.2) j6 hy hC (hk (bT.step j6))
theorem OE{i d:Nat}{o:Oper}{v:Value}(hi:an[i]?=some o)(hr:((Region.ready .any an aL).contains i&&Region.free .any an aL i)=true)(hw:cW an ah o true)(hd:o.dst=some d)(hdn:Nat.blt d n=true)(h:Q1 P X W n ⟨ah,M0⟩ o v)
  (hk:gB P fn R X W n k M0 an m (aL.setIfInBounds i true) ⟨(d,v)::ah,mem⟩):gB P fn R X W n k M0 an (m+1) aL ⟨ah,mem⟩:=by
 intro cQ bT a w hs hC
 refine U4 hi hr cQ bT (v:=v) (.inl ⟨hw.eq hs,fun w' lf=>h a w' ⟨hs.size,hs.defers,hs.ah,lf.1,lf.2⟩⟩) hC fun lJ=>?_
 have:=hk cQ lJ (a.put (some d) v) w (hs.put hdn v) hC
 rw [hd]
 exact this
def tM(P:Program)(fn:Func)(R:Ending→World→Prop)(X:Nat→Prop)(W:World)(n:Nat)(k:List K)(M0:List ak)(an:Array Oper)(m:Nat)(aL:Array Bool)(i:Nat)(S:St):Prop:=
 Region.noSelect an=true→jM an aL→jM an (aL.setIfInBounds i true)→∀a w,cd X W n S a w→fP X W M0 w→
  wpOp P an (jy fun a w=>post P fn R k .normal a w) i (fun a' w'=>Dk X W M0 i w w'∧fF P an (Dk X W M0) (fun a w=>post P fn R k .normal a w) (jy fun a w=>post P fn R k .normal a w) m (aL.setIfInBounds i true) a' w') a w
theorem Ef{i:Nat}{o:Oper}{ι:Type}{φ:ι→Prop}{next:ι→St}(hi:an[i]?=some o)(hw:cW an ah o true)(h:H1 P X W n ⟨ah,mem⟩ o φ next)(hM:∀j,φ j→ar (next j).mem M0)
  (hk:∀j,φ j→gB P fn R X W n k M0 an m (aL.setIfInBounds i true) (next j)):tM P fn R X W n k M0 an m aL i ⟨ah,mem⟩:=by
 intro cQ bT lJ a w hs hC
 unfold wpOp
 simp only [hi]
 rw [aG (hw.eq hs)]
 refine .inl (h a w hs _ _ fun i' a' w' hφ cP=>?_)
 have lI:fP X W M0 w':=⟨cP.dm,(hM i' hφ _ _ _ cP.mem).1⟩
 exact⟨fun _=>lI,hk i' hφ cQ lJ a' w' cP lI⟩
theorem U5(i:Nat)(hr:Region.ready .any an aL= [i])(h:tM P fn R X W n k M0 an m aL i S):gB P fn R X W n k M0 an (m+1) aL S:=by
 intro cQ bT a w hs hC w1 ct
 refine⟨fun h0=>(by rw [hr]at h0;cases h0),fun j hj=>?_⟩
 have cX:=bT.step hj
 rw [hr]at hj
 simp only [cS]at hj
 subst hj
 exact h cQ bT cX a w1 (hs.world ct) (hC.up ct)
theorem ae_(i j:Nat)(hr:Region.ready .any an aL= [i,j])(h:tM P fn R X W n k M0 an m aL i S)(h':tM P fn R X W n k M0 an m aL j S):gB P fn R X W n k M0 an (m+1) aL S:=by
 intro cQ bT a w hs hC w1 ct
 refine⟨fun h0=>(by rw [hr]at h0;cases h0),fun q hq=>?_⟩
 have cX:=bT.step hq
 rw [hr]at hq
 simp only [ib,zD,zF]at hq
 rcases hq with rfl|rfl
 ·exact h cQ bT cX a w1 (hs.world ct) (hC.up ct)
 ·exact h' cQ bT cX a w1 (hs.world ct) (hC.up ct)
theorem U6(i j p:Nat)(hr:Region.ready .any an aL= [i,j,p])(h:tM P fn R X W n k M0 an m aL i S)(h':tM P fn R X W n k M0 an m aL j S)(h'':tM P fn R X W n k M0 an m aL p S):gB P fn R X W n k M0 an (m+1) aL S:=by
 intro cQ bT a w hs hC w1 ct
 refine⟨fun h0=>(by rw [hr]at h0;cases h0),fun q hq=>?_⟩
 have cX:=bT.step hq
 rw [hr]at hq
 simp only [ib,zD,zF]at hq
 rcases hq with rfl|rfl|rfl
 ·exact h cQ bT cX a w1 (hs.world ct) (hC.up ct)
 ·exact h' cQ bT cX a w1 (hs.world ct) (hC.up ct)
 ·exact h'' cQ bT cX a w1 (hs.world ct) (hC.up ct)
theorem afb{i d:Nat}{o:Oper}(hi:an[i]?=some o)(hr:((Region.ready .any an aL).contains i&&Region.free .any an aL i)=true)(hw:cW an ah o false)(hd:o.dst=some d)(hdn:Nat.blt d n=true)
  (hk:gB P fn R X W n k M0 an m (aL.setIfInBounds i true) ⟨(d,undef)::ah,mem⟩):gB P fn R X W n k M0 an (m+1) aL ⟨ah,mem⟩:=by
 intro cQ bT a w hs hC
 refine U4 hi hr cQ bT (v:=undef) (.inr ⟨hw.eq hs,rfl⟩) hC fun lJ=>?_
 have:=hk cQ lJ (a.put (some d) undef) w (hs.put hdn undef) hC
 rw [hd]
 exact this
end
def rE(an:Array Oper):List (Nat×Nat)→Array Bool→Bool
 | [],aL=>(Region.ready .any an aL).isEmpty
 |(i,0)::r,aL=>(Region.ready .any an aL).contains i&&Region.free .any an aL i&&rE an r (aL.setIfInBounds i true)
 |(i,3)::r,aL=>(Region.ready .any an aL).contains i&&Region.free .any an aL i&&rE an r (aL.setIfInBounds i true)
 |(i,_)::r,aL=>(Region.ready .any an aL== [i])&&rE an r (aL.setIfInBounds i true)
def U7(an:Array Oper)(order:List (Nat×Nat)):Bool:=Region.noSelect an&&Nat.beq order.length an.size&&rE an order (Array.replicate an.size false)&&zY an order
section
variable{P:Program}{fn:Func}{R:Ending→World→Prop}{X:Nat→Prop}{W:World}{n:Nat}{k:List K}{S:St}{ah:List (Nat×Value)}{mem:List ak}{M0:List ak}{an:Array Oper}{bJ:List (Nat×Nat)}
def x_(X:Nat→Prop)(W:World)(M0:List ak)(bJ:List (Nat×Nat))(j:Nat)(w1 w':World):Prop:=
 match jN bJ j with
 |0=>aU nX w1 w'
 |3=>aU nX w1 w'
 |2=>aU X W w'
 |_=>fP X W M0 w'
def mj(P:Program)(fn:Func)(R:Ending→World→Prop)(X:Nat→Prop)(W:World)(n:Nat)(k:List K)(M0:List ak)(an:Array Oper)(bJ order:List (Nat×Nat))(S:St):Prop:=
 ∀aL,Region.noSelect an=true→zY an bJ=true→rE an order aL=true→jM an aL→∀a w,cd X W n S a w→((∃i,jN bJ i=0∧aL.getD i true=false)→fP X W M0 w)→
  fF P an (x_ X W M0 bJ) (fun a w=>post P fn R k .normal a w) (jy fun a w=>post P fn R k .normal a w) order.length aL a w
theorem run_pure{id:Nat}{l:List Oper}(order:List (Nat×Nat))(hm:P.follows .mixedOrders=true)(cu:U7 l.toArray order=true)(hM:ar S.mem M0)(h:mj P fn R X W n k M0 l.toArray order order S):
  bj P fn R X W n (.bq (.region id l.toArray true)::k) S:=by
 intro a w hs
 simp only [U7,ft]at cu
 obtain⟨⟨⟨h1,h2⟩,h3⟩,h4⟩:=cu
 have fD:order.length=l.toArray.size:=xO h2
 have cP:cd X W n S a {w with drawn:=w.drawn+1}:=hs.world (aU.refl nX w).drew
 have bT:jM l.toArray (Array.replicate l.toArray.size false):=by
  intro j o hj hl
  rcases jo j l.toArray.size with h'|h'
  ·simp at h';simp [h']at hl
  ·simp at h';simp [h']at hl
 have hd:=h _ h1 h4 h3 bT a _ cP (fun _=>⟨cP.dm,(hM _ _ _ cP.mem).1⟩)
 rw [fD]at hd
 have:=wp_region_any (P:=P) (id:=id) hm (fF.any (E:=jy fun a w=>post P fn R k .normal a w) (fun a w h=>⟨rfl,h⟩) hd)
 exact Bp (fun e a w ⟨he,hq⟩=>by subst he;exact hq) this
theorem afc(h:bj P fn R X W n k S):mj P fn R X W n k M0 an bJ [] S:=by
 intro aL _ _ cu _ a w hs _ w1 ct
 exact⟨by simpa [rE]using cu,h a w1 (hs.world ct)⟩
theorem U8{i:Nat}{o:Oper}{v:Value}{r:List (Nat×Nat)}{aL:Array Bool}{a:Act}{w:World}(hi:an[i]?=some o)(ht:jN bJ i=0)(cQ:Region.noSelect an=true)(eV:zY an bJ=true)(cu:rE an ((i,0)::r) aL=true)(bT:jM an aL)
  (hy:ot P an (fP X W M0) o v a)(hC:fP X W M0 w)
  (hk:rE an r (aL.setIfInBounds i true)=true→jM an (aL.setIfInBounds i true)→fF P an (x_ X W M0 bJ) (fun a w=>post P fn R k .normal a w) (jy fun a w=>post P fn R k .normal a w) r.length (aL.setIfInBounds i true) (a.put o.dst v) w):
  fF P an (x_ X W M0 bJ) (fun a w=>post P fn R k .normal a w) (jy fun a w=>post P fn R k .normal a w) ((i,0)::r).length aL a w:=by
 simp only [rE,ft]at cu
 obtain⟨⟨h1,h2⟩,h3⟩:=cu
 have hr:i∈Region.ready .any an aL:=by simpa using h1
 refine fF.first (C:=fP X W M0) (v:=v) hi (Gc cQ) (fun _ _=>fP.up) (fun w1 w' hk=>by unfold x_;rw [ht];exact hk) (fun L j w1 w' hL D9 hj o5 hD=>?_) _ _ _ _ bT (Ge hi h2) hr hy hC (hk h3 (bT.step hr))
 unfold x_ at hD
 split at hD
 ·exact o5.up hD
 ·exact o5.up hD
 ·rename_i hx
  exfalso
  have:=Ku eV hL ht hx hj
  rcases jo i L.size with h'|h'
  ·simp [h']at this D9;rw [D9]at this;cases this
  ·simp [h']at this
 ·exact hD
theorem U9{i d:Nat}{o:Oper}{v:Value}{r:List (Nat×Nat)}(hi:an[i]?=some o)(ht:jN bJ i=0)(hw:cW an ah o true)(hd:o.dst=some d)(hdn:Nat.blt d n=true)(h:Q1 P X W n ⟨ah,M0⟩ o v)
  (hk:mj P fn R X W n k M0 an bJ r ⟨(d,v)::ah,mem⟩):mj P fn R X W n k M0 an bJ ((i,0)::r) ⟨ah,mem⟩:=by
 intro aL cQ eV cu bT a w hs hC
 have hr:i∈Region.ready .any an aL:=by simp only [rE,ft]at cu;simpa using cu.1.1
 have lI:=hC ⟨i,ht,Kx hr⟩
 refine U8 hi ht cQ eV cu bT (v:=v) (.inl ⟨hw.eq hs,fun w' lf=>h a w' ⟨hs.size,hs.defers,hs.ah,lf.1,lf.2⟩⟩) lI fun h3 lJ=>?_
 have:=hk _ cQ eV h3 lJ (a.put (some d) v) w (hs.put hdn v) (fun _=>lI)
 rw [hd]
 exact this
theorem U_{i d:Nat}{o:Oper}{r:List (Nat×Nat)}(hi:an[i]?=some o)(ht:jN bJ i=0)(hw:cW an ah o false)(hd:o.dst=some d)(hdn:Nat.blt d n=true)
  (hk:mj P fn R X W n k M0 an bJ r ⟨(d,undef)::ah,mem⟩):mj P fn R X W n k M0 an bJ ((i,0)::r) ⟨ah,mem⟩:=by
 intro aL cQ eV cu bT a w hs hC
 have hr:i∈Region.ready .any an aL:=by simp only [rE,ft]at cu;simpa using cu.1.1
 have lI:=hC ⟨i,ht,Kx hr⟩
 refine U8 hi ht cQ eV cu bT (v:=undef) (.inr ⟨hw.eq hs,rfl⟩) lI fun h3 lJ=>?_
 have:=hk _ cQ eV h3 lJ (a.put (some d) undef) w (hs.put hdn undef) (fun _=>lI)
 rw [hd]
 exact this
theorem afd{i t:Nat}{o:Oper}{r:List (Nat×Nat)}{ι:Type}{φ:ι→Prop}{next:ι→St}(hi:an[i]?=some o)(hw:cW an ah o true)(h:H1 P X W n ⟨ah,mem⟩ o φ next)(hD:∀j w1 w',φ j→aU X W w'→Mem X W (next j).mem w'→x_ X W M0 bJ i w1 w')
  (hM:∀j,φ j→ar (next j).mem M0∨jN bJ i=2)
  (afe:∀aL,rE an ((i,t)::r) aL=((Region.ready .any an aL== [i])&&rE an r (aL.setIfInBounds i true)))
  (hk:∀j,φ j→mj P fn R X W n k M0 an bJ r (next j)):mj P fn R X W n k M0 an bJ ((i,t)::r) ⟨ah,mem⟩:=by
 intro aL cQ eV cu bT a w hs _ w1 ct
 have aeQ:=cu
 rw [afe]at cu
 simp only [ft,jr]at cu
 obtain⟨h1,h3⟩:=cu
 refine⟨fun h0=>(by rw [h1]at h0;cases h0),fun j hj=>?_⟩
 rw [h1]at hj
 simp only [cS]at hj
 subst hj
 unfold wpOp
 simp only [hi]
 have eo:=hs.world ct
 rw [aG (hw.eq eo)]
 refine .inl (h a w1 eo _ _ fun i' a' w' hφ cP=>⟨hD i' w1 w' hφ cP.dm cP.mem,?_⟩)
 refine hk i' hφ _ cQ eV h3 (bT.step (by rw [h1];simp)) a' w' cP ?_
 rintro⟨q,hq,wC⟩
 rcases hM i' hφ with hm|hm
 ·exact⟨cP.dm,(hm _ _ _ cP.mem).1⟩
 ·have h5:=Ku eV bT hq hm (by rw [h1];simp)
  have h6:=getD_set_true (i:=j) h5
  rcases jo q (aL.setIfInBounds j true).size with h'|h'
  ·simp only [NR,NS h',Gf]at h6 wC
   rw [wC]at h6;cases h6
  ·simp only [NR,DR h',Option.getD_none]at h6
   cases h6
theorem Va{i:Nat}{o:Oper}{r:List (Nat×Nat)}{ι:Type}{φ:ι→Prop}{next:ι→St}(hi:an[i]?=some o)(ht:jN bJ i=2)(hw:cW an ah o true)(h:H1 P X W n ⟨ah,mem⟩ o φ next)
  (hk:∀j,φ j→mj P fn R X W n k M0 an bJ r (next j)):mj P fn R X W n k M0 an bJ ((i,2)::r) ⟨ah,mem⟩:=
 afd (t:=2) hi hw h (fun j w1 w' _ hk _=>by unfold x_;rw [ht];exact hk) (fun _ _=> .inr ht) (fun _=>rfl) hk
theorem sK{i d:Nat}{o:Oper}{v:Value}{r:List (Nat×Nat)}(hi:an[i]?=some o)(ht:jN bJ i=3)(hw:cW an ah o true)(hd:o.dst=some d)(hdn:Nat.blt d n=true)(h:Q1 P X W n ⟨ah, []⟩ o v)
  (hk:mj P fn R X W n k M0 an bJ r ⟨(d,v)::ah,mem⟩):mj P fn R X W n k M0 an bJ ((i,3)::r) ⟨ah,mem⟩:=by
 intro aL cQ eV cu bT a w hs hC
 simp only [rE,ft]at cu
 obtain⟨⟨h1,h2⟩,h3⟩:=cu
 have hr:i∈Region.ready .any an aL:=by simpa using h1
 have hy:ot P an (fP X W []) o v a:= .inl ⟨hw.eq hs,fun w' lf=>h a w' ⟨hs.size,hs.defers,hs.ah,lf.1,lf.2⟩⟩
 refine fF.first (C:=fP X W []) (v:=v) hi (Gc cQ) (fun _ _=>fP.up) (fun w1 w' hk=>by unfold x_;rw [ht];exact hk) (fun L j w1 w' hL D9 hj o5 hD=>?_) _ _ _ _ bT (Ge hi h2) hr hy ⟨hs.dm,Mem.nil⟩ ?_
 ·unfold x_ at hD
  split at hD
  ·exact o5.up hD
  ·exact o5.up hD
  ·exact⟨hD,Mem.nil⟩
  ·exact⟨hD.1,Mem.nil⟩
 ·have:=hk _ cQ eV h3 (bT.step hr) (a.put (some d) v) w (hs.put hdn v) (fun⟨q,hq,wC⟩=>hC ⟨q,hq,?_⟩)
  ·rw [hd]
   exact this
  ·by_cases Vb:i=q
   ·subst Vb
    rw [hq]at ht
    cases ht
   ·rwa [getD_set_ne true Vb]at wC
end
section
variable{P:Program}{X:Nat→Prop}{W:World}{n:Nat}{S:St}{o:Oper}{t e:TypeId}{x y:Operand}
theorem afp{len b off size q d:Nat}{k:IntKind}{i:Int}(ho:o.op= .indexAddr t x y)(ht:P.underlying t=some (.array len e))(gr:Sz P e size)(hx:ev S.ah x=some (.pointer (some ⟨b,off,none⟩)))(hy:ev S.ah y=some (.int k i))
  (hi:i=(q:Int))(hq:q<len)(hd:off+q*size=d):Q1 P X W n S o (.pointer (some ⟨b,d,none⟩)):=
 fun _ w hs=> .inl (by
  subst hi;subst hd
  have h1:(0:Int)≤(q:Int)∧(q:Int)<(len:Int):=oM
  have e2:(Addr.add ⟨b,off,none⟩ (q*size))=⟨b,off+q*size,none⟩:=by
   unfold Addr.add
   by_cases gL:q*size=0
   ·simp [gL]
   ·simp [gL]
  simp [execOp,ho,hs.eval hx,hs.eval hy,Instr.indexAt,Instr.sureAddr,cL ht,asIntOf,gr.run,h1.2,hq,e2])
end
section
variable{P:Program}{X:Nat→Prop}{W:World}{n:Nat}{S:St}{o:Oper}{t t' e:TypeId}{x y:Operand}{k:IntKind}
def ga(a b:ByteArray):Bool:=a.toList==b.toList
theorem G2{a b:ByteArray}(ho:o.op= .binOp .eql t x y t')(hx:ev S.ah x=some (.string a))(hy:ev S.ah y=some (.string b)):Q1 P X W n S o (.bool (ga a b)):=
 fun _ w hs=> .inl (by simp [execOp,ho,hs.eval hx,hs.eval hy,binOp,Op.stringOp,ga,eqGuard_at_string])
theorem Vn{s:ByteArray}{i:Int}{q:Nat}{b:UInt8}(ho:o.op= .index t x y)(ht:P.underlying t=some .string)(hx:ev S.ah x=some (.string s))(hy:ev S.ah y=some (.int k i))(hi:i=(q:Int))(hb:s[q]?=some b):Q1 P X W n S o (.int .u8 b.toNat):=
 fun _ w hs=> .inl (by
  subst hi
  simp [execOp,ho,hs.eval hx,hs.eval hy,Instr.index,asIntOf,cL ht,hb])
theorem BS{i j:Int}{k':IntKind}(ho:o.op= .binOp .shr t x y t')(hx:ev S.ah x=some (.int k i))(hy:ev S.ah y=some (.int k' j))(hj:0≤j):Q1 P X W n S o (.int k (i.fdiv (2^(min j.toNat k.bits)))):=
 fun _ w hs=> .inl (by
  have h0:¬j<0:=oM
  simp [execOp,ho,hs.eval hx,hs.eval hy,binOp,Op.shift,h0,eqGuard_at_int])
def KO(k:IntKind)(i j:Int):Int:=k.wrap ((BitVec.ofInt k.bits i&&&BitVec.ofInt k.bits j).toNat:Int)
theorem BT{i j:Int}(ho:o.op= .binOp .and t x y t')(hx:ev S.ah x=some (.int k i))(hy:ev S.ah y=some (.int k j)):Q1 P X W n S o (.int k (KO k i j)):=
 fun _ w hs=> .inl (by simp [execOp,ho,hs.eval hx,hs.eval hy,binOp,Op.intBits,KO,eqGuard_at_int])
end
theorem Vo(z:Array Value)(n:Nat):(Builtin.zeroCells z n).toList=(List.replicate n z.toList).flatten:=by
 have hf:=tL (size:=z.size) (List.replicate n z.toList) (fun x hx=>by rw [Gj hx];simp)
 rw [List.length_replicate]at hf
 apply xT
 intro j
 rcases jo j (n*z.size)with h|h
 ·have hz:0<z.size:=by
   rcases Nat.eq_zero_or_pos z.size with h0|h0
   ·rw [h0]at h;omega
   ·exact h0
  have hq:j/z.size<n:=Nat.div_lt_of_lt_mul (by rw [By];exact h)
  have hr:j%z.size<z.toList.length:=by simpa using Nat.mod_lt _ hz
  have h2:=Gx (List.replicate n z.toList) z.size (fun x hx=>by rw [Gj hx];simp) (j/z.size) z.toList (by simp [hq]) (j%z.size) _ (j4 hr)
  have e:j/z.size*z.size+j%z.size=j:=by rw [By];exact Nat.div_add_mod _ _
  rw [e]at h2
  rw [h2]
  simp only [Builtin.zeroCells,Array.toList_map,Array.toList_range,jt,List.getElem?_range h,tz]
  have j6:j%z.size<z.size:=Nat.mod_lt _ hz
  simp [j6]
 ·rw [tB (by simpa [Builtin.zeroCells]using h),tB  oM]
theorem Vp:∀(a b:List Value),iL (a++b)=(iL a&&iL b)
 | [],b=>by simp [iL]
 |v::a,b=>by cases v<;>simp [iL,Vp a b]
theorem Vq{zs:List Value}(h:iL zs=true):∀n,iL (List.replicate n zs).flatten=true
 |0=>rfl
 |n+1=>by rw [List.replicate_succ,tA,Vp,h,Vq h n];rfl
section
variable{P:Program}{X:Nat→Prop}{W:World}{n:Nat}{ah:List (Nat×Value)}{mem:List ak}{S:St}{o:Oper}{d:Tmp}{t t' e:TypeId}{x y:Operand}
theorem afq{A:Option Addr}{m c i size bytes d':Nat}{ls:List (List Value)}{l:List ak}{zs:List Value}(ho:o.op= .call {callee:= .builtin .clear,args:= #[x],argTypes:= #[t]})(hd:o.dst=none)
  (ht:P.underlying t=some (.slice e))(hi:tK P e zs size bytes)(rp:zs.length=size)(h1:iL zs=true)(hx:ev ah x=some (.slice (uQ A i c size) d' (c-i)))(Eh:d'=m-i)(mD:i≤m)(hs:ag mem (.ae e size A m c ls) l):
  H1 P X W n ⟨ah,mem⟩ o (fun _:Unit=>True) (fun _=>⟨ah,.ae e size A m c (ls.take i++List.replicate (m-i) zs)::l⟩):=by
 intro a w cF k Q hk
 subst Eh
 have hh:=hs.holds cF.mem
 have fD:=hh.2.1
 have hz:=hh.2.2
 obtain⟨iz,z,jd,sI,wz,zW,BI⟩:=hi
 rcases Nat.eq_zero_or_pos (m-i)with h0|h0
 ·have fO:(execOp a.eval o).run P w= .ok (.value (.tuple #[])) w:=by
   rw [h0]at hx
   rcases hA:uQ A i c size with _|ad
   ·rw [hA]at hx
    simp [execOp,ho,resolve,invoke,builtin,cF.eval hx,Builtin.clear_,cL ht]
   ·rw [hA]at hx
    simp [execOp,ho,resolve,invoke,builtin,cF.eval hx,Builtin.clear_,cL ht]
  refine wv fO ?_
  rw [hd]
  refine hk () _ _ trivial ?_
  have e1:ls.take i++List.replicate (m-i) zs=ls:=by rw [h0,List.replicate_zero,gT,gU  oM]
  rw [e1]
  exact cF.D2 cF.dm (cF.mem.aR hs.aR)
 ·obtain⟨g,fe,rfl,hg,h3,h4,h5,h6⟩:=GC hh  oM
  have rF:c≠i:=oM
  have afr:uQ (some ⟨g,0,none⟩) i c size=some ⟨g,i*size,none⟩:=by
   simp [uQ,rF,wg]
  have jg:(Builtin.zeroCells z.cells (m-i)).toList=(List.replicate (m-i) zs).flatten:=by rw [Vo,wz]
  have gM:(List.replicate (m-i) zs).flatten.length=(m-i)*size:=by
   rw [tL (size:=size) _ (fun q hq=>by rw [Gj hq];exact rp),List.length_replicate]
  have afs:iL (List.replicate (m-i) zs).flatten=true:=by
   exact Vq h1 _
  have KP:i*size+(m-i)*size=m*size:=by rw [←uD];congr 1;omega
  have uR:m*size≤c*size:=uF _ h3
  have cX:=J0 P g (i*size) e (List.replicate (m-i) zs).flatten 0 fe w hg (by rw [gM];omega) (BG afs)
  have fO:(execOp a.eval o).run P w= .ok (.value (.tuple #[])) (w.setRow g (fe.toList.take (i*size)++(List.replicate (m-i) zs).flatten++fe.toList.drop (i*size+(List.replicate (m-i) zs).flatten.length)).toArray):=by
   rw [afr]at hx
   obtain⟨q,hq⟩:∃q,m-i=q+1:=⟨m-i-1,oM⟩
   rw [←jg]at cX⊢
   rw [hq]at hx cX⊢
   simp [execOp,ho,resolve,invoke,builtin,cF.eval hx,Builtin.clear_,cL ht,zeroValue,typeInfo,jd,sI,cX]
  refine wv fO ?_
  rw [hd]
  refine hk () _ _ trivial ?_
  have hw:=Kk (e:=e) (o':=i*size) (ls:=ls) (gu:=ls.take i++List.replicate (m-i) zs) (vs:=(List.replicate (m-i) zs).flatten) hg h3 h4 h5 h6 (by rw [gM];omega) (by simp;omega) (fun q hq=>by
   rcases dJ.1 hq with h|h
   ·exact hz q (wi h)
   ·rw [Gj h];exact rp) (by
    rw [List.flatten_append,GR ls size i hz,sA (by rw [gM,tL ls hz,fD];omega),gT])
  have hm:Mem (fun k=>k=g) w [.ae e size (some ⟨g,0,none⟩) m c (ls.take i++List.replicate (m-i) zs)] _:=Mem.nil.cons hw (fun k hk=> .inr (by simpa [ak.at,eq_comm]using hk)) sM
  have:=cF.change (Y:=fun k=>k=g) (cs:= [.ae e size (some ⟨g,0,none⟩) m c ls]) (ls:=l) hs.aR Gz (fun k hk=>⟨.ae e size (some ⟨g,0,none⟩) m c ls,by simp,by simp [hk,ak.at]⟩) hm
  exact this
end
section
variable{P:Program}{X:Nat→Prop}{W:World}{n:Nat}{S:St}{ah:List (Nat×Value)}{mem:List ak}{o:Oper}{t t' e:TypeId}{x y:Operand}{d:Tmp}
theorem ky{a:Addr}{f d1 d2:Nat}{fs:Array Field}{fd:Field}{s:Nat}(ho:o.op= .fieldAddr t x f)(ht:P.underlying t=some (.struct fs))(hx:ev S.ah x=some (.pointer (some (a.add d1))))(hf:fs[f]?=some fd)(gr:Sz P fd.type (s+1))(hd:d1+fd.offset=d2):
  Q1 P X W n S o (.pointer (some (a.add d2))):=
 fun _ w hs=> .inl (by simp [execOp,ho,hs.eval hx,Instr.fieldAt,cL ht,hf,Instr.sureAddr,fieldPlace,gr.run,zP,hd])
theorem jO{A:Option Addr}{ls:List (List Value)}{q d s size:Nat}{cs vs:List Value}(ho:o.op= .load t x)(ht:iE P t s)(hx:ev S.ah x=some (.pointer (some (((bI A).add (q*size)).add d))))(hr:ie X W S A size ls)(hq:ls[q]?=some cs)(hv:(cs.drop d).take s=vs)(hl:vs.length=s):Q1 P X W n S o (.agg vs.toArray):=
 N7 ho (by rw [hl];exact ht) hx fun w hk hm j v hj=>by
  rcases hr w hk hm with h|⟨ad,rfl,h⟩
  ·subst h;simp at hq
  ·rw [zP,zP]
   subst hv
   rw [DT]at hj
   split at hj
   ·rw [List.getElem?_drop]at hj
    exact h q cs hq (d+j) v hj
   ·cases hj
theorem Vr{m cap size bytes:Nat}{kl kc:IntKind}{zs:List Value}(ho:o.op= .makeSlice t x y)(hd:o.dst=some d)(hdn:Nat.blt d n=true)(ht:P.underlying t=some (.slice e))(hi:tK P e zs (size+1) bytes)(rp:zs.length=size+1)(hx:ev ah x=some (.int kl m))(hy:ev ah y=some (.int kc cap))(zV:m≤cap)
  (hb:bytes*cap≤281474976710656)(GF:cap≤9223372036854775807):
  H1 P X W n ⟨ah,mem⟩ o (fun _:Nat=>True) (fun b=>⟨(d,.slice (some ⟨b,0,none⟩) m cap)::ah,.ae e (size+1) (some ⟨b,0,none⟩) m cap (List.replicate m zs)::mem⟩):=by
 intro a w hs k Q hk
 obtain⟨i,z',jd,sI,wz,zW,BI⟩:=hi
 have pT:z'.cells.size=size+1:=by rw [←rp,←wz,DU]
 have nf:(i.bytes:Int)*(cap:Int)≤281474976710656:=by
  rw [BI]
  have h:((bytes*cap:Nat):Int)≤281474976710656:=oM
  rwa [Gb]at h
 have hr:=run_make (P:=P) w t e i z' ht jd sI kl kc m cap  oM oM nf  oM
 simp only [Int.toNat_natCast,zW]at hr
 have fO:(execOp a.eval o).run P w= .ok (.value (.slice (some ⟨w.heap.size,0,none⟩) m cap)) (w.alloc (.cells (madeCells z'.cells (cap*(size+1))) e)):=by
  simp [execOp,ho,hs.eval hx,hs.eval hy,hr]
 refine wv fO ?_
 rw [hd]
 have aft:(madeCells z'.cells (cap*(size+1))).toList=(List.replicate cap zs).flatten:=by
  have:=Vo z'.cells cap
  rw [wz]at this
  rw [←this,←pT];rfl
 have fD:∀z∈List.replicate m zs,z.length=size+1:=fun z hz=>by rw [Gj hz];exact rp
 refine hk w.heap.size _ _ trivial (cd.put (hs.new _ (.ae e (size+1) (some ⟨w.heap.size,0,none⟩) m cap (List.replicate m zs)) ⟨⟨?_,.inr ⟨w.heap.size,cap,_,rfl,gA _,heap_alloc_new w _,zV,by simpa [maxLen]using GF,by simp [size_madeCells],?_⟩⟩,by simp,fD⟩ (fun _ h=>(Option.some.inj h).symm)) hdn _)
 ·rw [tL (size:=size+1) _ fD];simp
 ·rw [aft,←GR _ _ _ (fun z hz=>by rw [Gj hz];exact rp),List.take_replicate,J1 zV]
theorem iv{w:World}{b:Nat}{t:TypeId}{v:Value}(h:(ak.ai b t [(0,v)]).holds w):Rd w (some ⟨b,0,none⟩) 1 [[v]]:=
 KD h fun i u hu=>by
  cases i with
  |zero=>simpa [dj]using hu
  |succ i=>simp at hu
end
section
variable{P:Program}{fn:Func}{R:Ending→World→Prop}{X:Nat→Prop}{W:World}{n:Nat}{k:List K}
theorem wH{ι:Type}{c:Code}{bM:List (Nat×Value)}{bN:List ak}{s0:Nat}{u0:Value}{r0 r1 r2 r3:ak}(φ:ι→Prop)(f0:ι→Value)(g0 g1 g2 g3:ι→ak)(μ:ι→Nat)(i0:ι)(h0:φ i0)(e0:u0=f0 i0)(q0:cN r0 (g0 i0))(q1:cN r1 (g1 i0))(q2:cN r2 (g2 i0))(q3:cN r3 (g3 i0))
  (hr:∀i,φ i→bj P fn R X W n (.bq c:: .stop (oW X W n φ (fun i=>⟨(s0,f0 i)::bM,g0 i::g1 i::g2 i::g3 i::bN⟩) μ (μ i))::k) ⟨(s0,f0 i)::bM,g0 i::g1 i::g2 i::g3 i::bN⟩):bj P fn R X W n (.bq (.loop c)::k) ⟨(s0,u0)::bM,r0::r1::r2::r3::bN⟩:=by
 subst e0
 exact rn φ (fun i=>⟨(s0,f0 i)::bM,g0 i::g1 i::g2 i::g3 i::bN⟩) μ i0 h0 (au dR.refl (ar.cons ag.ao q0 (ar.cons ag.ao q1 (ar.cons ag.ao q2 (ar.cons ag.ao q3 ar.refl))))) hr
theorem OL{ι:Type}{c:Code}{bM:List (Nat×Value)}{bN:List ak}{s0 s1:Nat}{u0 u1:Value}{r0 r1 r2 r3:ak}(φ:ι→Prop)(f0 f1:ι→Value)(g0 g1 g2 g3:ι→ak)(μ:ι→Nat)(i0:ι)(h0:φ i0)(e0:u0=f0 i0)(e1:u1=f1 i0)(q0:cN r0 (g0 i0))(q1:cN r1 (g1 i0))(q2:cN r2 (g2 i0))(q3:cN r3 (g3 i0))
  (hr:∀i,φ i→bj P fn R X W n (.bq c:: .stop (oW X W n φ (fun i=>⟨(s0,f0 i)::(s1,f1 i)::bM,g0 i::g1 i::g2 i::g3 i::bN⟩) μ (μ i))::k) ⟨(s0,f0 i)::(s1,f1 i)::bM,g0 i::g1 i::g2 i::g3 i::bN⟩):bj P fn R X W n (.bq (.loop c)::k) ⟨(s0,u0)::(s1,u1)::bM,r0::r1::r2::r3::bN⟩:=by
 subst e0;subst e1
 exact rn φ (fun i=>⟨(s0,f0 i)::(s1,f1 i)::bM,g0 i::g1 i::g2 i::g3 i::bN⟩) μ i0 h0 (au dR.refl (ar.cons ag.ao q0 (ar.cons ag.ao q1 (ar.cons ag.ao q2 (ar.cons ag.ao q3 ar.refl))))) hr
theorem Vs{ι:Type}{c:Code}{bM:List (Nat×Value)}{bN:List ak}{s0 s1:Nat}{u0 u1:Value}{r0 r1 r2 r3 r4:ak}(φ:ι→Prop)(f0 f1:ι→Value)(g0 g1 g2 g3 g4:ι→ak)(μ:ι→Nat)(i0:ι)(h0:φ i0)(e0:u0=f0 i0)(e1:u1=f1 i0)(q0:cN r0 (g0 i0))(q1:cN r1 (g1 i0))(q2:cN r2 (g2 i0))(q3:cN r3 (g3 i0))(q4:cN r4 (g4 i0))
  (hr:∀i,φ i→bj P fn R X W n (.bq c:: .stop (oW X W n φ (fun i=>⟨(s0,f0 i)::(s1,f1 i)::bM,g0 i::g1 i::g2 i::g3 i::g4 i::bN⟩) μ (μ i))::k) ⟨(s0,f0 i)::(s1,f1 i)::bM,g0 i::g1 i::g2 i::g3 i::g4 i::bN⟩):bj P fn R X W n (.bq (.loop c)::k) ⟨(s0,u0)::(s1,u1)::bM,r0::r1::r2::r3::r4::bN⟩:=by
 subst e0;subst e1
 exact rn φ (fun i=>⟨(s0,f0 i)::(s1,f1 i)::bM,g0 i::g1 i::g2 i::g3 i::g4 i::bN⟩) μ i0 h0 (au dR.refl (ar.cons ag.ao q0 (ar.cons ag.ao q1 (ar.cons ag.ao q2 (ar.cons ag.ao q3 (ar.cons ag.ao q4 ar.refl)))))) hr
end
def mo(P:Program)(o:Oper):Prop:=(∀c,o.op≠ .defer c)∧∀(ρ:Operand→Value) (w:World),match(execOp ρ o).run P w with
 | .ok (.value _) _=>True
 | .ok .skip _=>True
 | .halt _ _=>True
 |_=>False
theorem mo.Lb{P:Program}{o:Oper}(hd:∀c,o.op≠ .defer c)(h:∀ρ,∃s:Sem Value,execOp ρ o=(do pure (.value (←s)))):mo P o:=⟨hd,fun ρ w=>by
 obtain⟨s,hs⟩:=h ρ
 rw [hs]
 cases hr:s.run P w with
 |ok v w'=>simp [hr]
 |halt x w'=>simp [hr]⟩
theorem mo.Wi{P:Program}{o:Oper}(hd:∀c,o.op≠ .defer c)(h:∀ρ,∃s:Sem Unit,execOp ρ o=(do s;pure .skip)):mo P o:=⟨hd,fun ρ w=>by
 obtain⟨s,hs⟩:=h ρ
 rw [hs]
 cases hr:s.run P w with
 |ok v w'=>simp [hr]
 |halt x w'=>simp [hr]⟩
theorem mo.nr{P:Program}{F:Fence}{n:Nat}{o:Oper}{a:Act}{w:World}{k:Act→World→Prop}{Q:Exit→Act→World→Prop}(hc:mo P o)(hF:∀f,F.fn f)(h:o.wp P a w k Q):o.wpIn F n P a w k Q:=by
 unfold Oper.wpIn
 refine⟨fun f _=>hF f,?_⟩
 rw [zJ F _ _ hc.1]
 unfold Oper.wp at h
 have h2:=hc.2 a.eval w
 cases hr:(execOp a.eval o).run P w with
 |ok nx w'=>
  rw [hr]at h h2
  cases nx with
  |value v=>exact h
  |skip=>exact h
  |_=>exact h2.elim
 |halt x w'=>
  rw [hr]at h
  cases x with
  |panic v=>exact h
  |_=>exact h.elim
theorem Pg{P:Program}{o:Oper}{x:Operand}(ho:o.op= .move x):mo P o:=⟨(by rw [ho];intro c h;cases h),fun ρ w=>by simp [execOp,ho]⟩
theorem sN{P:Program}{o:Oper}{t:TypeId}{x:Operand}(ho:o.op= .load t x):mo P o:= .Lb (by rw [ho];intro c h;cases h) fun ρ=>⟨_,by simp only [execOp,ho];rfl⟩
theorem Wj{P:Program}{o:Oper}{t:TypeId}{x y:Operand}(ho:o.op= .store t x y):mo P o:= .Wi (by rw [ho];intro c h;cases h) fun ρ=>⟨_,by simp only [execOp,ho];rfl⟩
theorem Wk{P:Program}{o:Oper}{t:TypeId}{m:Nat}{xs:Array (Nat×Operand)}(ho:o.op= .buildSlice t m xs):mo P o:= .Lb (by rw [ho];intro c h;cases h) fun ρ=>⟨_,by simp only [execOp,ho];rfl⟩
theorem agR{P:Program}{o:Oper}{b:BinOp}{t t':TypeId}{x y:Operand}(ho:o.op= .binOp b t x y t'):mo P o:= .Lb (by rw [ho];intro c h;cases h) fun ρ=>⟨_,by simp only [execOp,ho];rfl⟩
theorem Wl{P:Program}{o:Oper}{x y:Operand}{ts:Array TypeId}(ho:o.op= .call {callee:= .builtin .append,args:= #[x,y],argTypes:=ts}):mo P o:=⟨(by rw [ho];intro c h;cases h),fun ρ w=>by
 simp only [execOp,ho,resolve,invoke,builtin]
 cases hr:Sem.run P (Builtin.append_ ts o.type #[ρ x,ρ y]) w<;>simp [hr]⟩
def LI(F:Fence)(n:Nat)(P:Program)(an:Array Oper)(Q:Exit→Act→World→Prop)(X:Nat→Prop)(W:World)(m:Nat)(l:List Oper)(S:St):Prop:=∀a w,cd X W m S a w→wpListIn F n P an Q l a w
section
variable{F:Fence}{n:Nat}{P:Program}{an:Array Oper}{Q:Exit→Act→World→Prop}{X:Nat→Prop}{W:World}{m:Nat}{S:St}{ah:List (Nat×Value)}{mem:List ak}{aQ:List Oper}{o:Oper}
theorem LI.nil(h:∀a w,cd X W m S a w→Q .normal a w):LI F n P an Q X W m [] S:=fun a w hs=>h a w hs
theorem LI.h{ι:Type}{φ:ι→Prop}{next:ι→St}(hg:o.guard=Option.none)(hF:∀f,F.fn f)(hc:mo P o)(h:H1 P X W m ⟨ah,mem⟩ o φ next)(hk:∀i,φ i→LI F n P an Q X W m aQ (next i)):LI F n P an Q X W m (o::aQ) ⟨ah,mem⟩:=
 fun a w hs=>wpListIn_plain hg fun K hK=>hc.nr hF (h a w hs K Q fun i a' w' hi cP=>hK _ _ (hk i hi _ _ cP))
theorem LI.q{v:Value}{d:Nat}(hg:o.guard=Option.none)(hF:∀f,F.fn f)(hc:mo P o)(hd:o.dst=Option.some d)(hdn:Nat.blt d m=true)(h:Q1 P X W m ⟨ah,mem⟩ o v)(hk:LI F n P an Q X W m aQ ⟨(d,v)::ah,mem⟩):LI F n P an Q X W m (o::aQ) ⟨ah,mem⟩:=
 LI.h hg hF hc (.fC hd hdn h) fun _ _=>hk
theorem LI.yield{l:Nat}{x y:Operand}{ts:Array TypeId}{v:Value}(hg:o.guard=Option.none)(hF:∀f,F.fn f)(hdp:F.depth=Option.none)(ho:o.op= .call {callee:= .value y,args:= #[x],argTypes:=ts})(hy:ev ah y=some (.func (.yield l) #[] #[]))(hx:ev ah x=some v)
  (hY:∀a w,cd X W m ⟨ah,mem⟩ a w→∃R,YieldAt F (n-1) P l #[v] w R∧∀e w',R e w'→∃u,e= .returned u∧wpListIn F n P an Q aQ (a.put o.dst u) w'):LI F n P an Q X W m (o::aQ) ⟨ah,mem⟩:=by
 intro a w hs
 refine wpListIn_plain hg fun K hK=>?_
 obtain⟨R,⟨fn,tmps,fG,body,tW,hR⟩,hK2⟩:=hY a w hs
 unfold Oper.wpIn
 refine⟨fun f _=>hF f,?_⟩
 rw [zJ F _ _ (by rw [ho];intro c h;cases h)]
 have fO:(execOp a.eval o).run P w= .ok (.round l fn tmps fG body) w:=by
  simp [execOp,ho,resolve,invoke,Deferred.ofValue,hs.eval hy,hs.eval hx,tW]
 rw [fO,Oper.uponIn_round]
 refine⟨(fun h=>by rw [hdp]at h;cases h),hR.mono fun e w' he=>?_⟩
 obtain⟨u,rfl,hw⟩:=hK2 e w' he
 exact hK _ _ hw
theorem cd.Ph{a:Act}{w:World}(h:cd X W m S a w)(w':World):cd nX w' m ⟨S.ah, []⟩ a w':=⟨h.size,h.defers,h.ah,aU.refl _ _,Mem.nil⟩
def LD(ds:List Deferred)(F:Fence)(n:Nat)(P:Program)(an:Array Oper)(Q:Exit→Act→World→Prop)(X:Nat→Prop)(W:World)(m:Nat)(l:List Oper)(S:St):Prop:=∀a w,cd X W m S {a with defers:= []} w→a.defers=ds→wpListIn F n P an Q l a w
theorem LD.nil{ds:List Deferred}(h:∀a w,cd X W m S {a with defers:= []} w→a.defers=ds→Q .normal a w):LD ds F n P an Q X W m [] S:=fun a w hs hd=>h a w hs hd
theorem LD.q{ds:List Deferred}{v:Value}{d:Nat}(hg:o.guard=Option.none)(hF:∀f,F.fn f)(hc:mo P o)(hd:o.dst=Option.some d)(hdn:Nat.blt d m=true)(h:Q1 P X W m ⟨ah,mem⟩ o v)(hk:LD ds F n P an Q X W m aQ ⟨(d,v)::ah,mem⟩):LD ds F n P an Q X W m (o::aQ) ⟨ah,mem⟩:=
 fun a w hs nR=>wpListIn_plain hg fun K hK=>by
  have he:({a with defers:= []}:Act).eval=a.eval:=by funext x;cases x<;>rfl
  have h2:=h _ w hs
  rw [he]at h2
  refine hc.nr hF ?_
  unfold Oper.wp
  have h3:=hc.2 a.eval w
  have hp:∀u,cd X W m ⟨(d,u)::ah,mem⟩ {(a.put o.dst u)with defers:= []} w:=fun u=>by
   have:=hs.put hdn u
   rw [hd];exact this
  have Wn:∀u,(a.put o.dst u).defers=ds:=fun u=>by rw [hd];exact nR
  rcases h2 with h2|⟨h2,rfl⟩|⟨f,args,h2,_⟩
  ·rw [h2];exact hK _ _ (hk _ _ (hp v) (Wn v))
  ·rw [h2];exact hK _ _ (hk _ _ (hp undef) (Wn undef))
  ·rw [h2]at h3;exact h3.elim
end
theorem agU{vs:List Value}{m:Nat}{W:World}(hz:Nat.ble vs.length m=true):cd nX W m ⟨bm 0 vs, []⟩ {tmps:=vs.toArray++Array.replicate (m-vs.toArray.size) undef,defers:= []} W:=by
 have oX:vs.length≤m:=by simpa using hz
 refine⟨by simp;omega,rfl,fun k v hk=>?_,aU.refl _ _,Mem.nil⟩
 obtain⟨_,h2⟩:=Gw vs 0 k v hk
 have h3:vs.toArray[k]?=some v:=by simpa using h2
 have bG:=(NO.1 h3).1
 show(vs.toArray++_)[k]?=_
 rw [JW bG,h3]
end Hr
section
namespace Hr
abbrev Fr(ρ:Option Nat):Fence:={Fence.wide with round:=ρ}
def Hi(o:Oper):Bool:=match o.op with
 | .defer _=>false
 |_=>true
theorem agV{o:Oper}(h:Hi o=true):∀c,o.op≠ .defer c:=fun c hc=>by
 unfold Hi at h
 rw [hc]at h
 cases h
theorem sO(a:Act)(d:Option Tmp)(v:Value):(a.put d v).defers=a.defers:=by cases d<;>rfl
theorem Ak(a:Act):({a with defers:= []}:Act).eval=a.eval:=by funext x;cases x<;>rfl
theorem agW{ρ:Option Nat}{P:Program}{o:Oper}{a:Act}{w:World}{k:Act→World→Prop}{Q:Exit→Act→World→Prop}(hd:Hi o=true)
  (h:o.wp P {a with defers:= []} w (fun a' w'=>k {a' with defers:=a'.defers++a.defers} w') (fun _ _ _=>False)):o.wpIn (Fr ρ) 0 P a w k Q:=by
 have ke:∀(ds:List Deferred) (v:Value),({({a with defers:=ds}:Act).put o.dst v with defers:=(({a with defers:=ds}:Act).put o.dst v).defers++a.defers}:Act)=({a with defers:=ds++a.defers}:Act).put o.dst v:=fun ds v=>by cases hd:o.dst<;>rfl
 have kp:∀{v:Value} {w':World},k {({a with defers:= []}:Act).put o.dst v with defers:=(({a with defers:= []}:Act).put o.dst v).defers++a.defers} w'→k (a.put o.dst v) w':=fun{v w'} h'=>by
  rw [ke]at h';exact h'
 unfold Oper.wpIn
 refine⟨fun f _=>trivial,?_⟩
 rw [zJ (Fr ρ) _ _ (agV hd)]
 unfold Oper.wp at h
 rw [Ak]at h
 generalize (execOp a.eval o).run P w=r at*
 cases r with
 |ok nx w'=>
  cases nx with
  |value v=>exact kp h
  |skip=>exact kp h
  |defer d=>
   have h':k {({a with defers:= [d]}:Act).put o.dst undef with defers:=(({a with defers:= [d]}:Act).put o.dst undef).defers++a.defers} w':=h
   rw [ke]at h';exact h'
  |enter f args=>
   refine⟨(fun h'=>by cases h'),?_⟩
   have h2:=callsIn_wide (n:=0).2 h
   refine CallsIn.mono h2 fun e GK he=>?_
   cases e with
   |returned v=>exact kp he
   |panicked c=>exact he.elim
   |outgrown=>obtain⟨_,_,he⟩:=he;exact he.elim
  |row r args=>exact⟨(fun h'=>by cases h'),fun c cs _=>let ⟨v,w',r,s⟩:=h c cs;⟨v,w',kp r,stepsIn_wide.2 s⟩⟩
  |_=>exact h.elim
 |halt x w'=>
  cases x with
  |panic v=>exact h.elim
  |_=>exact h.elim
def tX(ρ:Option Nat)(P:Program)(Qb:Exit→Act→World→Prop):List K→Exit→Act→World→Prop
 | []=>Qb
 | .bq c::k=>Exit.then (c.wpIn (Fr ρ) 0 P (tX ρ P Qb k)) (tX ρ P Qb k)
 | .an all l::k=>Exit.then (wpListIn (Fr ρ) 0 P all (tX ρ P Qb k) l) (tX ρ P Qb k)
 | .ai id::k=>Exit.inBlock id (tX ρ P Qb k)
 | .stop J::k=>Exit.then J (tX ρ P Qb k)
theorem Hj{ρ:Option Nat}{P:Program}{Qb:Exit→Act→World→Prop}{id:Nat}{a:Act}{w:World}:∀{k k':List K},tH id k=some k'→tX ρ P Qb k' .normal a w→tX ρ P Qb k (.exit id) a w
 | [],_,h,_=>by simp [tH]at h
 | .ai xY::k,k',h,hp=>by
  simp only [tH]at h
  simp only [tX,Exit.inBlock]
  by_cases e:id=xY
  ·subst e
   rw [show Nat.beq id id=true from by simp]at h
   simp only [Option.some.injEq]at h
   subst h
   simpa using hp
  ·have hb:Nat.beq id xY=false:=by
    cases hb:Nat.beq id xY with
    |true=>exact absurd (xO hb) e
    |false=>rfl
   rw [hb]at h
   rw [ay e]
   exact Hj h hp
 | .bq _::k,k',h,hp=>Hj (k:=k) h hp
 | .an _ _::k,k',h,hp=>Hj (k:=k) h hp
 | .stop _::k,k',h,hp=>Hj (k:=k) h hp
theorem Hk{ρ:Option Nat}{P:Program}{Qb:Exit→Act→World→Prop}{a:Act}{w:World}(h:Qb .ret a w):∀(k:List K),tX ρ P Qb k .ret a w
 | []=>h
 | .ai _::k=>Hk h k
 | .bq _::k=>Hk h k
 | .an _ _::k=>Hk h k
 | .stop _::k=>Hk h k
def SF(ds:List Deferred)(X:Nat→Prop)(W:World)(n:Nat)(S:St)(a:Act)(w:World):Prop:=cd X W n S {a with defers:= []} w∧a.defers=ds
def RF(ρ:Option Nat)(P:Program)(Qb:Exit→Act→World→Prop)(ds:List Deferred)(X:Nat→Prop)(W:World)(n:Nat)(k:List K)(S:St):Prop:=
 ∀a w,SF ds X W n S a w→tX ρ P Qb k .normal a w
section
variable{ρ:Option Nat}{P:Program}{Qb:Exit→Act→World→Prop}{ds:List Deferred}{X:Nat→Prop}{W:World}{n:Nat}{k:List K}{S:St}
theorem SF.eval{a:Act}{w:World}(h:SF ds X W n S a w){x:Operand}{v:Value}(hx:ev S.ah x=some v):a.eval x=v:=by
 have:=h.1.eval hx
 rw [Ak]at this;exact this
theorem agX{x y:Code}(h:RF ρ P Qb ds X W n (.bq x:: .bq y::k) S):RF ρ P Qb ds X W n (.bq (.seq x y)::k) S:=fun a w hs=>wpIn_seq (h a w hs)
theorem agY(h:RF ρ P Qb ds X W n k S):RF ρ P Qb ds X W n (.bq .skip::k) S:=fun a w hs=>wpIn_skip (h a w hs)
theorem agZ{id:Nat}{c:Code}(h:RF ρ P Qb ds X W n (.bq c:: .ai id::k) S):RF ρ P Qb ds X W n (.bq (.block id c)::k) S:=fun a w hs=>wpIn_block (h a w hs)
theorem ag0{id:Nat}(h:RF ρ P Qb ds X W n k S):RF ρ P Qb ds X W n (.ai id::k) S:=fun a w hs=>h a w hs
theorem ag1{id:Nat}{k':List K}(hp:tH id k=some k')(h:RF ρ P Qb ds X W n k' S):RF ρ P Qb ds X W n (.bq (.exit id)::k) S:=fun a w hs=>wpIn_exit (Hj hp (h a w hs))
theorem Wo(h:∀a w,SF ds X W n S a w→Qb .ret a w):RF ρ P Qb ds X W n (.bq .ret::k) S:=fun a w hs=>wpIn_ret (Hk (h a w hs) k)
theorem ag2{c:Operand}{x y:Code}{t:Bool}(hc:ev S.ah c=some (.bool t))(ht:t=true)(h:RF ρ P Qb ds X W n (.bq x::k) S):RF ρ P Qb ds X W n (.bq (.cond c x y)::k) S:=by
 subst ht;exact fun a w hs=>wpIn_cond_true (hs.eval hc) (h a w hs)
theorem ag3{c:Operand}{x y:Code}{t:Bool}(hc:ev S.ah c=some (.bool t))(ht:t=false)(h:RF ρ P Qb ds X W n (.bq y::k) S):RF ρ P Qb ds X W n (.bq (.cond c x y)::k) S:=by
 subst ht;exact fun a w hs=>wpIn_cond_false (hs.eval hc) (h a w hs)
theorem nS{c:Operand}{x y:Code}{t:Bool}(hc:ev S.ah c=some (.bool t))(h1:t=true→RF ρ P Qb ds X W n (.bq x::k) S)(h2:t=false→RF ρ P Qb ds X W n (.bq y::k) S):RF ρ P Qb ds X W n (.bq (.cond c x y)::k) S:=
 fun a w hs=>wpIn_cond_split (hs.eval hc) (fun e=>h1 e a w hs) (fun e=>h2 e a w hs)
theorem Wp(t:Tmp){c:Bool}(NV:dj S.ah t=some (.bool c))(h1:c=true→RF ρ P Qb ds X W n k S)(h2:c=false→RF ρ P Qb ds X W n k S):RF ρ P Qb ds X W n k S:=by
 cases c
 ·exact h2 rfl
 ·exact h1 rfl
theorem ag4{id:Nat}{l:List Oper}(h:RF ρ P Qb ds X W n (.an l.toArray l::k) S):RF ρ P Qb ds X W n (.bq (.region id l.toArray false)::k) S:=fun a w hs=>wpIn_region_lit (h a w hs)
theorem ag5{all:Array Oper}(h:RF ρ P Qb ds X W n k S):RF ρ P Qb ds X W n (.an all []::k) S:=fun a w hs=>h a w hs
theorem bS{S':St}(hs:uM X W n S S')(h:RF ρ P Qb ds X W n k S'):RF ρ P Qb ds X W n k S:=fun a w h'=>h a w ⟨hs _ w h'.1,h'.2⟩
def Lc(ds:List Deferred)(X:Nat→Prop)(W:World)(n:Nat){ι:Type}(φ:ι→Prop)(fm:ι→St)(μ:ι→Nat)(m:Nat)(a:Act)(w:World):Prop:=∃i,φ i∧μ i<m∧SF ds X W n (fm i) a w
theorem qc{ι:Type}{φ:ι→Prop}{fm:ι→St}{μ:ι→Nat}{m:Nat}(i:ι)(hi:φ i)(hm:μ i<m)(hs:uM X W n S (fm i)):RF ρ P Qb ds X W n (.stop (Lc ds X W n φ fm μ m)::k) S:=
 fun a w h=>⟨i,hi,hm,hs _ w h.1,h.2⟩
open Classical in
theorem Wq{ι:Type}{c:Code}(φ:ι→Prop)(fm:ι→St)(μ:ι→Nat)(i0:ι)(h0:φ i0)(ei:uM X W n S (fm i0))
  (hr:∀i,φ i→RF ρ P Qb ds X W n (.bq c:: .stop (Lc ds X W n φ fm μ (μ i))::k) (fm i)):RF ρ P Qb ds X W n (.bq (.loop c)::k) S:=by
 intro a w hs
 have hl:∀a w,(∃m i,φ i∧μ i=m∧SF ds X W n (fm i) a w)→∃m,(∃i,φ i∧μ i=m∧SF ds X W n (fm i) a w)∧∀k,(∃i,φ i∧μ i=k∧SF ds X W n (fm i) a w)→m≤k:=
  fun a w ⟨m,h⟩=>NW m m (cm _) h
 refine wpIn_loop (fun a w=>∃m i,φ i∧μ i=m∧SF ds X W n (fm i) a w)
  (fun a w=>if h:∃m i,φ i∧μ i=m∧SF ds X W n (fm i) a w then Classical.choose (hl a w h)else 0) ⟨_,i0,h0,rfl,ei _ w hs.1,hs.2⟩ ?_
 intro a w hI
 rw [dif_pos hI]
 obtain⟨⟨i,hi,hm,cF⟩,_⟩:=F7 (hl a w hI)
 refine wpIn_mono (hr i hi a w cF) ?_
 intro e a' w' q
 cases e with
 |normal=>
  obtain⟨i',eA,bG,Gu⟩:=q
  have BE:∃m i,φ i∧μ i=m∧SF ds X W n (fm i) a' w':=⟨_,i',eA,rfl,Gu⟩
  refine⟨BE,?_⟩
  rw [dif_pos BE]
  have:=(F7 (hl a' w' BE)).2 (μ i') ⟨i',eA,rfl,Gu⟩
  omega
 |_=>exact q
end
section
variable{ρ:Option Nat}{P:Program}{Qb:Exit→Act→World→Prop}{ds:List Deferred}{X:Nat→Prop}{W:World}{n:Nat}{k:List K}{S:St}{ah:List (Nat×Value)}{mem:List ak}{all:Array Oper}{aQ:List Oper}{o:Oper}
theorem Pj{a:Act}{w:World}{c:Bool}(hw:cW all ah o c)(hs:SF ds X W n ⟨ah,mem⟩ a w):Region.wanted o (yielded all a.tmps)=c:=by have:=hw.eq hs.1;exact this
theorem fw{ι:Type}{φ:ι→Prop}{next:ι→St}(hw:cW all ah o true)(h:H1 P X W n ⟨ah,mem⟩ o φ next)(hk:∀i,φ i→RF ρ P Qb ds X W n (.an all aQ::k) (next i))(hf:Hi o=true:=by rfl):RF ρ P Qb ds X W n (.an all (o::aQ)::k) ⟨ah,mem⟩:=by
 intro a w hs
 refine wpListIn_step fun K hK=>?_
 rw [aG (Pj hw hs)]
 exact agW hf (h _ w hs.1 _ _ fun i a' w' hi cP=>hK _ _ (hk i hi _ _ ⟨⟨cP.size,rfl,cP.ah,cP.dm,cP.mem⟩,by show a'.defers++a.defers=ds;rw [cP.defers,hs.2];rfl⟩))
theorem cE{v:Value}{d:Nat}(hw:cW all ah o true)(hd:o.dst=some d)(hdn:Nat.blt d n=true)(h:Q1 P X W n ⟨ah,mem⟩ o v)(hk:RF ρ P Qb ds X W n (.an all aQ::k) ⟨(d,v)::ah,mem⟩)(hf:Hi o=true:=by rfl):RF ρ P Qb ds X W n (.an all (o::aQ)::k) ⟨ah,mem⟩:=
 fw hw (.fC hd hdn h) (fun _ _=>hk) hf
theorem Wr{d:Nat}(hw:cW all ah o false)(hd:o.dst=some d)(hdn:Nat.blt d n=true)(hk:RF ρ P Qb ds X W n (.an all aQ::k) ⟨(d,undef)::ah,mem⟩):RF ρ P Qb ds X W n (.an all (o::aQ)::k) ⟨ah,mem⟩:=by
 intro a w hs
 refine wpListIn_step fun K hK=>?_
 rw [ay (by rw [Pj hw hs];simp)]
 rw [hd]
 exact⟨fun f _=>trivial,hK _ _ (hk _ _ ⟨hs.1.put hdn undef,hs.2⟩)⟩
end
theorem sP{X:Nat→Prop}{W0 W w:World}(h0:aU nX W0 W)(hn:∀b,X b→W0.heap.size≤b)(h:aU X W w):aU nX W0 w:=
 ⟨h.os.trans h0.os,h.tape.trans h0.tape,h.output.trans h0.output,la h0.size h.size,fun k hk _=>(h.block k (xP hk h0.size) (fun hx=>absurd (hn k hx)  oM)).trans (h0.block k hk (fun e=>e)),la h0.drawn h.drawn⟩
theorem Ld{X:Nat→Prop}{W0 W:World}{rs:List ak}(h0:aU nX W0 W)(hn:∀b,X b→W0.heap.size≤b)(h:∀r∈rs,∀b,r.at b→W.heap.size≤b∨X b):∀b,aX rs b→W0.heap.size≤b:=by
 rintro b ⟨r,hr,hb⟩
 rcases h r hr b hb with h1|h1
 ·exact la h0.size h1
 ·exact hn b h1
theorem ie.qd{X:Nat→Prop}{W0 W:World}{S:St}{A:Option Addr}{size:Nat}{ls:List (List Value)}(h:Rd W0 A size ls)(h0:aU nX W0 W)(hn:∀b,X b→W0.heap.size≤b):ie X W S A size ls:=fun _ hk _=>h.az (sP h0 hn hk)
theorem Hl{W:World}:∀b,nX b→W.heap.size≤b:=fun _ h=>h.elim
def EG(rs bZ:List ak)(w w':World):Prop:=aU (aX rs) w w'∧Mem (aX rs) w bZ w'
def YR{α:Type}(P:Program)(l:Nat)(encs:α→List Value)(J Jx:List α→List ak→Prop)(N:Nat)(W0:World):Prop:=
 ∀bo x rs w,J bo rs→Mem (aX rs) w rs w→bo.length<N→aU nX W0 w→(∀b,aX rs b→W0.heap.size≤b)→
  YieldAt Fence.wide 0 P l (encs x).toArray w fun e w'=>∃bZ,EG rs bZ w w'∧((e= .returned (.bool true)∧J (bo++ [x]) bZ)∨(e= .returned (.bool false)∧Jx (bo++ [x]) bZ))
def yt{α:Type}(J Jx:List α→List ak→Prop)(S Sp:List α→Prop)(bt:List ak)(W:World):Ending→World→Prop:=
 fun e w'=>(∃v,e= .returned v)∧∃xs rs,EG bt rs W w'∧((S xs∧J xs rs)∨(Sp xs∧Jx xs rs))
def ag6{α:Type}(P:Program)(f:Nat)(Hm:List Value)(encs:α→List Value)(S Sp:List α→Prop)(N:Nat)(W0:World)(bt:List ak)(w:World):Prop:=
 ∀(l:Nat) (J Jx:List α→List ak→Prop),J [] bt→YR P l encs J Jx N W0→CallsIn Fence.wide 0 P f (.func (.yield l) #[] #[]::Hm).toArray w (yt J Jx S Sp bt w)
section
variable{P:Program}{fn:Func}{ρ:Option Nat}{Qb:Exit→Act→World→Prop}{ds:List Deferred}{X:Nat→Prop}{W:World}{n:Nat}{k:List K}{S:St}{ah:List (Nat×Value)}{mem:List ak}{all:Array Oper}{aQ:List Oper}{o:Oper}
theorem EH{f:FuncId}{vs:List Value}{R:Ending→World→Prop}{c:Code}{mem:List ak}(hf:P.funcs[f]?=some fn)(hn:fn.ntmps=n)(hb:fn.body=some c)(hz:Nat.ble vs.length n=true)(hm:Mem X W mem W)
  (h:RF none P (bodyPostM Fence.wide 0 P fn R) [] X W n [.bq c] ⟨bm 0 vs,mem⟩):CallsIn Fence.wide 0 P f vs.toArray W R:=by
 refine callsIn_of_wp_marks hf hb trivial ?_
 have hs:=agU (W:=W) hz
 rw [hn]
 exact h _ W ⟨⟨hs.size,rfl,hs.ah,aU.refl _ _,hm⟩,rfl⟩
theorem EI{f:FuncId}{vs:List Value}{R:Ending→World→Prop}{c:Code}{mem:List ak}(hf:P.funcs[f]?=some fn)(hn:fn.ntmps=n)(hb:fn.body=some c)(hz:Nat.ble vs.length n=true)(hm:Mem X W mem W)
  (h:RF none P (bodyPostM Fence.wide 0 P fn R) [] X W n [.bq c] ⟨bm 0 vs,mem⟩):Calls P f vs.toArray W R:=(callsIn_wide (n:=0)).1 (EH hf hn hb hz hm h)
theorem pg{R:Ending→World→Prop}(h:RF none P (bodyPostM Fence.wide 0 P fn R) ds X W n [] S):RF none P (bodyPostM Fence.wide 0 P fn R) ds X W n (.bq .ret::k) S:=Wo h
theorem qN{R:Ending→World→Prop}(h:bj P fn R X W n [] S):RF none P (bodyPostM Fence.wide 0 P fn R) [] X W n [] S:=by
 intro a w hs
 obtain⟨-,h2⟩:=h _ w hs.1
 show LeavesInM _ _ _ _ _ _ a.defers _ _
 rw [hs.2]
 exact h2
theorem rJ{α:Type}{J Jx:List α→List ak→Prop}{Sd Sp:List α→Prop}{bt rs l:List ak}(xs:List α)(hr:fn.results= #[])(hs:ag mem (.aT rs) l)(h:(Sd xs∧J xs rs)∨(Sp xs∧Jx xs rs)):
  bj P fn (yt J Jx Sd Sp bt W) (aX bt) W n [] ⟨ah,mem⟩:=by
 intro a w cF
 refine⟨cF.defers,.tuple #[],results_none hr _ _ _,⟨_,rfl⟩,xs,rs,⟨cF.dm,?_⟩,h⟩
 have h1:=(ar.tJ _ _ _ (cF.mem.aR hs.aR)).1
 exact h1.sub (List.sublist_append_left _ _)
theorem Hn{bt:List ak}(h:Mem (aX bt) W bt W):Mem (aX bt) W [.aT bt] W:=by
 have:=(ar.close_ (rs:=bt) (l:= []) (aX bt) W W (by rw [gT];exact h)).1
 exact this
theorem Ws{α:Type}{l d N:Nat}{encs:α→List Value}{J Jx:List α→List ak→Prop}{bo:List α}{rs ls:List ak}(x:α){y:Operand}{xs:Array Operand}{ts:Array TypeId}{vs:List Value}(hg:o.guard=Option.none)(ho:o.op= .call {callee:= .value y,args:=xs,argTypes:=ts})(hd:o.dst=some d)(hdn:Nat.blt d n=true)
  (hy:ev ah y=some (.func (.yield l) #[] #[]))(hx:kv ah xs.toList vs)(he:vs=encs x)(cQ:ag mem (.aT rs) ls){W0:World}(bx:aU nX W0 W)(mh:∀b,X b→W0.heap.size≤b)(hY:YR P l encs J Jx N W0)(hJ:J bo rs)(hN:bo.length<N)
  (h1:∀bZ,J (bo++ [x]) bZ→RF ρ P Qb ds X W n (.an all aQ::k) ⟨(d,.bool true)::ah,.aT bZ::ls⟩)
  (h2:∀bZ,Jx (bo++ [x]) bZ→RF ρ P Qb ds X W n (.an all aQ::k) ⟨(d,.bool false)::ah,.aT bZ::ls⟩):RF ρ P Qb ds X W n (.an all (o::aQ)::k) ⟨ah,mem⟩:=by
 intro a w hs
 refine wpListIn_plain hg fun K hK=>?_
 have hm:=(ar.tJ _ _ _ (hs.1.mem.aR cQ.aR)).1
 obtain⟨f,tmps,fG,body,tW,hR⟩:=hY bo x rs w hJ hm.fQ hN (sP bx mh hs.1.dm) (Ld bx mh (fun r hr=>hm.ae r (BC _ hr)))
 unfold Oper.wpIn
 refine⟨fun f _=>trivial,?_⟩
 rw [zJ (Fr ρ) _ _ (by rw [ho];intro c h;cases h)]
 have z6:xs.map a.eval=(encs x).toArray:=J6.1 (by have:=hx.map hs.1;rw [Ak]at this;rw [Array.toList_map,this,←he])
 have fO:(execOp a.eval o).run P w= .ok (.round l f tmps fG body) w:=by
  simp [execOp,ho,resolve,invoke,Deferred.ofValue,hs.eval hy,z6,tW]
 rw [fO,Oper.uponIn_round]
 refine⟨(fun h=>by cases h),RoundIn.mono hR fun e w' B3=>?_⟩
 obtain⟨bZ,⟨hk,wQ⟩,hj⟩:=B3
 have eR:=(hs.1.change (cs:= [.aT rs]) (ls:=ls) (m:= [.aT bZ]) (Y:=aX rs) cQ.aR hk (fun b hb=>⟨.aT rs,by simp,hb⟩) ((ar.close_ (rs:=bZ) (l:= []) _ _ _ (by rw [gT];exact wQ)).1))
 rcases hj with⟨rfl,hj⟩|⟨rfl,hj⟩
 ·refine hK _ _ (h1 bZ hj _ _ ⟨?_,?_⟩)
  ·rw [hd];exact eR.put hdn _
  ·rw [sO];exact hs.2
 ·refine hK _ _ (h2 bZ hj _ _ ⟨?_,?_⟩)
  ·rw [hd];exact eR.put hdn _
  ·rw [sO];exact hs.2
end
abbrev qe(D:Nat):Deferred:={target:= .collected D,args:= #[]}
def dq(Ds:List Nat):ak:= .any (fun b=>b∈Ds) (fun w=>Ds.Nodup∧∀D∈Ds,w.heap[D]?=some (.deferred (some []))) (fun w h b hb=>tG (h.2 b hb)) (fun w w' h hk=>⟨h.1,fun D hD=>(hk D hD).trans (h.2 D hD)⟩)
def cw(l:Nat)(r:Loop):ak:= .any (fun b=>l=b) (fun w=>w.heap[l]?=some (.loop r)) (fun w h b hb=>by subst hb;exact tG h) (fun w w' h hk=>(hk l rfl).trans h)
theorem Wt(w:World)(l:Nat)(o:Obj):aU (fun b=>l=b) w (w.putObj l o):=⟨rfl,rfl,rfl,by simp,fun k _ hx=>World.putObj_heap_other (fun e=>hx e.symm),cm _⟩
section
variable{P:Program}{fn:Func}{ρ:Option Nat}{Qb:Exit→Act→World→Prop}{ds:List Deferred}{X:Nat→Prop}{W:World}{n:Nat}{k:List K}{S:St}{ah:List (Nat×Value)}{mem:List ak}{a:Act}{w:World}
theorem cd.EJ{l:Nat}{r r':Loop}(h:cd X W n ⟨ah,cw l r::mem⟩ a w):cd X W n ⟨ah,cw l r'::mem⟩ a (w.putObj l (.loop r')):=by
 obtain⟨h1,h2,h3,h4⟩:=h.mem.head
 have hl:w.heap[l]?=some (.loop r):=h1
 refine h.change (cs:= [cw l r]) (ls:=mem) (m:= [cw l r']) (Y:=fun b=>l=b) (List.Perm.refl _) (Wt w l _) (fun b hb=>⟨cw l r,dH ..,hb⟩) ?_
 exact Mem.nil.cons (World.putObj_heap_same (tG hl)) (fun b hb=> .inr hb) (fun s hs=>by cases hs)
theorem Wu{R:Ending→World→Prop}(h:bj P fn R X W n [] ⟨ah,mem⟩):∀(Ds:List Nat) (w:World),cd X W n ⟨ah,dq Ds::mem⟩ {a with defers:= []} w→LeavesInM Fence.wide 0 P fn a.tmps R (Ds.map qe) .returning w
 | [],w,hs=>(h _ w (au dR.refl (ar.sub (zx _ _)) _ _ hs)).2
 |D::Ds,w,hs=>by
  obtain⟨h1,h2,h3,h4⟩:=hs.mem.head
  obtain⟨Hp,hD⟩:(D::Ds).Nodup∧∀E∈D::Ds,w.heap[E]?=some (.deferred (some [])):=h1
  have hDD:=hD D (dH ..)
  refine⟨(fun e=>by cases e),.inl ⟨D,w.putObj D (.deferred none),rfl,run_takeDeferred hDD,Wu h Ds _ ?_⟩⟩
  refine hs.change (cs:= [dq (D::Ds)]) (ls:=mem) (m:= [dq Ds]) (Y:=fun b=>b∈D::Ds) (List.Perm.refl _) ((aU.refl _ w).step (Wt w D _) (fun k _ hx e=>hx (by subst e;exact dH ..))) (fun b hb=>⟨dq (D::Ds),dH ..,hb⟩) ?_
  refine Mem.nil.cons ⟨(List.nodup_cons.1 Hp).2,fun E hE=>?_⟩ (fun b hb=>?_) (fun s hs=>by cases hs)
  ·exact(World.putObj_heap_other (fun e=>(List.nodup_cons.1 Hp).1 (by subst e;exact hE))).trans (hD E (eT _ hE))
  ·exact .inr (eT _ hb)
theorem B4{R:Ending→World→Prop}(Ds:List Nat)(h:bj P fn R X W n [] ⟨ah,mem⟩):RF none P (bodyPostM Fence.wide 0 P fn R) (Ds.map qe) X W n [] ⟨ah,dq Ds::mem⟩:=by
 intro a w hs
 show LeavesInM _ _ _ _ _ _ a.defers _ _
 rw [hs.2]
 exact Wu h Ds w hs.1
end
def RQ{α:Type}(P:Program)(l:Nat)(r:Loop)(J:List α→List ak→Prop)(Jx:Code→List α→List ak→Prop)(bo:List α)(bt:List ak)(W:World):Exit→Act→World→Prop:=
 roundPost P l fun e w'=>∃bZ,EG bt bZ W w'∧((e= .returned (.bool true)∧∃rs,bZ=cw l r::rs∧J bo rs)∨(e= .returned (.bool false)∧∃rs c,bZ=cw l {r with state:= .done,pending:=some c}::rs∧Jx c bo rs))
def Hq(P:Program)(l:Nat)(body:Code)(Q:Exit→Act→World→Prop)(a:Act)(w:World):Prop:=∃w₂,(Instr.beginRound l).run P w= .ok () w₂∧body.wpIn (Fr (some l)) 0 P Q a w₂
abbrev QF:Exit→Act→World→Prop:=fun _ _ _=>False
abbrev busy(r:Loop):Loop:={r with state:= .busy}
section
variable{P:Program}{fn:Func}{ρ:Option Nat}{Qb:Exit→Act→World→Prop}{ds:List Deferred}{X:Nat→Prop}{W:World}{n:Nat}{k:List K}{S:St}{ah:List (Nat×Value)}{mem:List ak}
theorem B5{l:Nat}{r:Loop}{body:Code}{ls:List ak}(hr:r.state= .ready)(hs:ag mem (cw l r) ls)(h:RF (some l) P Qb ds X W n [.bq body] ⟨ah,cw l (busy r)::ls⟩):
  RF (some l) P QF ds X W n [.stop (Hq P l body Qb)] ⟨ah,mem⟩:=by
 intro a w jk
 have eo:cd X W n ⟨ah,cw l r::ls⟩ {a with defers:= []} w:=au dR.refl (ar.aR hs.aR) _ _ jk.1
 have hl:w.heap[l]?=some (.loop r):=eo.mem.head.1
 exact⟨_,run_beginRound hl hr,h _ _ ⟨eo.EJ (r':=busy r),jk.2⟩⟩
section
variable{α:Type}{J:List α→List ak→Prop}{Jx:Code→List α→List ak→Prop}{bo:List α}{bt rs ls:List ak}{l:Nat}{r:Loop}
theorem Wv{e:Exit}{a:Act}{w:World}(c:Option Code)(r':Loop)(he:∀R,roundPost P l R e a w=∃v w',(Instr.endRound l c).run P w= .ok v w'∧R (.returned v) w')(hr:{busy r with state:=if c.isNone then .ready else .done,pending:=c}=r')
  (hs:cd (aX bt) W n ⟨ah,cw l (busy r)::rs⟩ {a with defers:= []} w){R:Ending→World→Prop}(hR:∀w',EG bt (cw l r'::rs) W w'→R (.returned (.bool c.isNone)) w'):roundPost P l R e a w:=by
 have hl:w.heap[l]?=some (.loop (busy r)):=hs.mem.head.1
 rw [he]
 refine⟨_,_,run_endRound c hl,hR _ ?_⟩
 rw [hr]
 have h:=hs.EJ (r':=r')
 exact⟨h.dm,h.mem⟩
theorem wS(hr:r.state= .ready)(hp:r.pending=none)(hs:ar mem (cw l (busy r)::rs))(hJ:J bo rs):RF (some l) P (RQ P l r J Jx bo bt W) ds (aX bt) W n [] ⟨ah,mem⟩:=fun a w jk=>by
 show RQ P l r J Jx bo bt W .normal a w
 unfold RQ
 exact Wv none r (fun _=>rfl) (by cases r;simp only at hr hp;subst hr;subst hp;rfl) (au dR.refl hs _ _ jk.1) fun w' ht=>⟨_,ht,.inl ⟨rfl,_,rfl,hJ⟩⟩
theorem ag8(hs:ar mem (cw l (busy r)::rs))(hJ:Jx .ret bo rs):RF (some l) P (RQ P l r J Jx bo bt W) ds (aX bt) W n (.bq .ret::k) ⟨ah,mem⟩:=
 Wo fun a w jk=>by
 show RQ P l r J Jx bo bt W .ret a w
 unfold RQ
 exact Wv (some .ret) {r with state:= .done,pending:=some .ret} (fun _=>rfl) rfl (au dR.refl hs _ _ jk.1) fun w' ht=>⟨_,ht,.inr ⟨rfl,_,_,rfl,hJ⟩⟩
end
theorem Hs:∀(l:List (Nat×Value)) (S:St) (a:Act) (w:World),cd X W n S a w→(∀p∈l,Nat.blt p.1 n=true)→cd X W n ⟨l.foldl (fun e p=>p::e) S.ah,S.mem⟩ {a with tmps:=l.foldl (fun t p=>t.setIfInBounds p.1 p.2) a.tmps} w
 | [],S,a,w,h,_=>h
 |(d,v)::l,S,a,w,h,hl=>Hs l ⟨(d,v)::S.ah,S.mem⟩ (a.put (some d) v) w (h.put (hl _ (dH ..)) v) (fun p hp=>hl p (eT _ hp))
theorem Pk{g:Operand}{ps:Array Tmp}{fG body:Code}{gf:Nat}{lb:Array Value}{Q:Exit→Act→World→Prop}{a:Act}{w:World}(hg:a.eval g= .func (.func gf) #[] lb)(qO:eG P gf)
  (h:∀lQ,CallsIn Fence.wide 0 P gf (#[.func (.yield (w.heap.size+1)) #[] #[]]++lb) ((w.alloc (.deferred (some []))).alloc (.loop {state:= .ready,pending:=none,fn:=lQ,tmps:=a.tmps,params:=ps,assign:=fG,body,defers:=w.heap.size}))
   (rangePost (Fr none) 0 P (w.heap.size+1) Q {a with defers:= [qe w.heap.size]++a.defers})):(Code.rangeFunc g ps fG body).wpIn (Fr none) 0 P Q a w:=by
 refine wpIn_rangeFunc fun lQ _=>?_
 refine⟨w.heap.size+1, [qe w.heap.size],((w.alloc (.deferred (some []))).alloc (.loop {state:= .ready,pending:=none,fn:=lQ,tmps:=a.tmps,params:=ps,assign:=fG,body,defers:=w.heap.size})),{target:= .fn (.func gf) lb,args:= #[.func (.yield (w.heap.size+1)) #[] #[]]},((w.alloc (.deferred (some []))).alloc (.loop {state:= .ready,pending:=none,fn:=lQ,tmps:=a.tmps,params:=ps,assign:=fG,body,defers:=w.heap.size})),gf,#[.func (.yield (w.heap.size+1)) #[] #[]]++lb,((w.alloc (.deferred (some []))).alloc (.loop {state:= .ready,pending:=none,fn:=lQ,tmps:=a.tmps,params:=ps,assign:=fG,body,defers:=w.heap.size})),run_enterLoop_outer _ _ _ _ _,?_,?_,?_,?_,?_⟩
 ·simp only [resolve,hg]
  simp [go_sem]
 ·intro f' _;trivial
 ·have:=qO (#[.func (.yield (w.heap.size+1)) #[] #[]]++lb) ((w.alloc (.deferred (some []))).alloc (.loop {state:= .ready,pending:=none,fn:=lQ,tmps:=a.tmps,params:=ps,assign:=fG,body,defers:=w.heap.size}))
  simp only [invoke,go_sem]
  simpa using this
 ·intro h;cases h
 ·exact h lQ
theorem Ww{α:Type}{g:Operand}{ps:Array Tmp}{fG body:Code}{gf N:Nat}{lb:List Value}{encs:α→List Value}{Sd Sp:List α→Prop}(J:List α→List ak→Prop)(Jx:Code→List α→List ak→Prop)(bt aQ:List ak){W0:World}(bx:aU nX W0 W)(mh:∀b,X b→W0.heap.size≤b)
  (hg:ev ah g=some (.func (.func gf) #[] lb.toArray))(qO:eG P gf)(eH:∀x,(encs x).length=ps.size)(yu:∀p∈ps.toList,Nat.blt p n=true)(hp:ar mem (bt++aQ))(h0:J [] bt)
  (B6:∀r w,aU X W w→Mem X W (r::(bt++aQ)) w→aU nX W0 w→(∀b,aX (r::bt) b→W0.heap.size≤b)→ag6 P gf lb encs Sd Sp N W0 (r::bt) w)
  (B7:∀l r w bo x rs,r.state= .ready→r.pending=none→J bo rs→bo.length<N→Mem (aX (cw l r::rs)) w (cw l r::rs) w→aU nX W0 w→(∀b,aX (cw l r::rs) b→W0.heap.size≤b)→
   RF (some l) P QF [] (aX (cw l r::rs)) w n [.bq fG,.stop (Hq P l body (RQ P l r J Jx (bo++ [x]) (cw l r::rs) w))] ⟨(ps.toList.zip (encs x)).foldl (fun e p=>p::e) ah,cw l r::rs⟩)
  (B8:∀D xs rs,Sd xs→J xs rs→RF none P Qb (qe D::ds) X W n k ⟨ah,dq [D]::(rs++aQ)⟩)
  (B9:∀D c xs rs,Sp xs→Jx c xs rs→RF none P Qb (qe D::ds) X W n (.bq c::k) ⟨ah,dq [D]::(rs++aQ)⟩):
  RF none P Qb ds X W n (.bq (.rangeFunc g ps fG body)::k) ⟨ah,mem⟩:=by
 intro a w jk
 have ei:cd X W n ⟨ah,bt++aQ⟩ {a with defers:= []} w:=au dR.refl hp _ _ jk.1
 refine Pk (jk.eval hg) qO fun lQ=>?_
 generalize cj:({state:= .ready,pending:=none,fn:=lQ,tmps:=a.tmps,params:=ps,assign:=fG,body,defers:=w.heap.size}:Loop)=ch
 have cX:ch.state= .ready:=by rw [←cj]
 have gy:ch.pending=none:=by rw [←cj]
 have k1:aU nX w (w.alloc (.deferred (some []))):=aU.alloc _ _
 have k2:aU nX (w.alloc (.deferred (some []))) ((w.alloc (.deferred (some []))).alloc (.loop ch)):=aU.alloc _ _
 have e1:(w.alloc (.deferred (some []))).heap.size=w.heap.size+1:=World.size_alloc ..
 have g1:(w.alloc (.deferred (some []))).heap[w.heap.size]?=some (.deferred (some [])):=DX _ _
 have g2:((w.alloc (.deferred (some []))).alloc (.loop ch)).heap[w.heap.size+1]?=some (.loop ch):=by rw [←e1];exact DX _ _
 have B_:=ei.dm.size
 have m1:Mem X W (dq [w.heap.size]::(bt++aQ)) (w.alloc (.deferred (some []))):=by
  refine(ei.mem.uL k1).cons ⟨by simp,fun D hD=>?_⟩ (fun b hb=>?_) (fun s hs b hb jw=>?_)
  ·obtain rfl:=cS.1 hD;exact g1
  ·obtain rfl:=cS.1 hb;exact .inl B_
  ·obtain rfl:=cS.1 hb;exact absurd (ei.mem.lt s hs _ jw) (Bw _)
 have m2:Mem X W (cw (w.heap.size+1) ch::dq [w.heap.size]::(bt++aQ)) ((w.alloc (.deferred (some []))).alloc (.loop ch)):=by
  refine(m1.uL k2).cons g2 (fun b hb=>?_) (fun s hs b hb jw=>?_)
  ·obtain rfl:w.heap.size+1=b:=hb;exact .inl  oM
  ·obtain rfl:w.heap.size+1=b:=hb
   have:=m1.lt s hs _ jw
   rw [e1]at this
   exact absurd this (Bw _)
 have eR:cd X W n ⟨ah,cw (w.heap.size+1) ch::dq [w.heap.size]::(bt++aQ)⟩ {a with defers:= []} ((w.alloc (.deferred (some []))).alloc (.loop ch)):=ei.D2 ((ei.dm.fu k1).fu k2) m2
 generalize (w.alloc (.deferred (some []))).alloc (.loop ch)=w2 at*
 have mL:cd X W n ⟨ah,cw (w.heap.size+1) ch::(bt++dq [w.heap.size]::aQ)⟩ {a with defers:= []} w2:=au dR.refl (ar.aR (.cons _ (List.perm_middle.symm))) _ _ eR
 have hc:=B6 (cw (w.heap.size+1) ch) w2 mL.dm ((mL.mem.sub (.cons_cons _ (List.Sublist.append_left (zx _ _) _)))) (sP bx mh mL.dm) (Ld bx mh (fun r hr=>mL.mem.ae r (by rcases ib.1 hr with rfl|hr;(· exact dH ..);(· exact eT _ (BC _ hr))))) (w.heap.size+1)
  (fun bo bZ=>∃rs,bZ=cw (w.heap.size+1) ch::rs∧J bo rs) (fun bo bZ=>∃rs c,bZ=cw (w.heap.size+1) {ch with state:= .done,pending:=some c}::rs∧Jx c bo rs) ⟨bt,rfl,h0⟩ ?yr
 case yr=>
  rintro bo x bZ w3 ⟨rs,rfl,hJ⟩ hm hN yv Pm
  have hl:w3.heap[w.heap.size+1]?=some (.loop ch):=hm.head.1
  have vd:ch.params=ps:=by rw [←cj]
  have tY:ch.tmps=a.tmps:=by rw [←cj]
  have kC:ch.body=body:=by rw [←cj]
  have has:ch.assign=fG:=by rw [←cj]
  have hy:=run_yield (P:=P) (args:=(encs x).toArray) hl (by rw [vd];simp [eH])
  rw [vd,tY,kC,has]at hy
  refine⟨_,_,_,_,hy,roundIn_of_wpIn trivial ?_⟩
  have gh:cd (aX (cw (w.heap.size+1) ch::rs)) w3 n ⟨ah,cw (w.heap.size+1) ch::rs⟩ {a with defers:= []} w3:=⟨jk.1.size,rfl,jk.1.ah,aU.refl _ _,hm⟩
  have ng:=Hs (ps.toList.zip (encs x)) _ _ _ gh (fun p hp=>yu _ (List.of_mem_zip hp).1)
  have he:({tmps:=(ps.zip (encs x).toArray).foldl (fun t (p,v)=>t.setIfInBounds p v) a.tmps,defers:= []}:Act)={({a with defers:= []}:Act)with tmps:=(ps.toList.zip (encs x)).foldl (fun t p=>t.setIfInBounds p.1 p.2) a.tmps}:=by
   congr 1
   rw [←Ga,Array.toList_zip]
  rw [he]
  refine B7 (w.heap.size+1) ch w3 bo x rs cX gy hJ hN hm yv Pm _ w3 ?_
  exact⟨ng,rfl⟩
 have ea:(#[.func (.yield (w.heap.size+1)) #[] #[]]++lb.toArray:Array Value)=(.func (.yield (w.heap.size+1)) #[] #[]::lb).toArray:=by simp
 rw [ea]
 refine hc.mono ?_
 rintro e w4 ⟨⟨v,rfl⟩,xs,bZ,⟨yw,Ca⟩,Cb⟩
 have ve:cd X W n ⟨ah,bZ++dq [w.heap.size]::aQ⟩ {a with defers:= []} w4:=mL.change (cs:=cw (w.heap.size+1) ch::bt) (ls:=dq [w.heap.size]::aQ) (m:=bZ) (Y:=aX (cw (w.heap.size+1) ch::bt)) (List.Perm.refl _) yw (fun b hb=>hb) Ca
 have sQ:∀r rs,bZ=cw (w.heap.size+1) r::rs→r.state≠ .busy→∃w5,(Instr.endLoop (w.heap.size+1)).run P w4= .ok r.pending w5∧SF (qe w.heap.size::ds) X W n ⟨ah,dq [w.heap.size]::(rs++aQ)⟩ {a with defers:= [qe w.heap.size]++a.defers} w5:=by
  rintro r rs rfl hb
  have hl:w4.heap[w.heap.size+1]?=some (.loop r):=ve.mem.head.1
  refine⟨_,run_endLoop hl hb,?_,by simp [jk.2]⟩
  have h5:=(show cd X W n ⟨ah,cw (w.heap.size+1) r::(rs++dq [w.heap.size]::aQ)⟩ {a with defers:= []} w4 from ve).EJ (r':={r with state:= .exhausted})
  exact au dR.refl ((ar.sub (zx _ _)).trans (ar.aR wk)) _ _ h5
 rcases Cb with⟨hS,rs,ij,hJ⟩|⟨hS,rs,c,ij,hJ⟩
 ·obtain⟨w5,lr,qP⟩:=sQ _ _ ij (by rw [cX];intro h;cases h)
  refine⟨none,w5,by rw [lr,gy],?_⟩
  exact B8 _ xs rs hS hJ _ _ qP
 ·obtain⟨w5,lr,qP⟩:=sQ _ _ ij (by intro h;cases h)
  refine⟨some c,w5,lr,?_⟩
  exact B9 _ c xs rs hS hJ _ _ qP
end
section
variable{ρ:Option Nat}{P:Program}{Qb:Exit→Act→World→Prop}{ds:List Deferred}{X:Nat→Prop}{W:World}{n:Nat}{k:List K}
theorem wT{ι:Type}{c:Code}{bM:List (Nat×Value)}{bN:List ak}{s0:Nat}{u0:Value}{r0:ak}(φ:ι→Prop)(f0:ι→Value)(g0:ι→ak)(μ:ι→Nat)(i0:ι)(h0:φ i0)(e0:u0=f0 i0)(q0:cN r0 (g0 i0))
  (hr:∀i,φ i→RF ρ P Qb ds X W n (.bq c:: .stop (Lc ds X W n φ (fun i=>⟨(s0,f0 i)::bM,g0 i::bN⟩) μ (μ i))::k) ⟨(s0,f0 i)::bM,g0 i::bN⟩):RF ρ P Qb ds X W n (.bq (.loop c)::k) ⟨(s0,u0)::bM,r0::bN⟩:=by
 subst e0
 exact Wq φ (fun i=>⟨(s0,f0 i)::bM,g0 i::bN⟩) μ i0 h0 (au dR.refl (ar.cons ag.ao q0 ar.refl)) hr
theorem Pn{ι:Type}{c:Code}{bM:List (Nat×Value)}{bN:List ak}{s0 s1:Nat}{u0 u1:Value}{r0:ak}(φ:ι→Prop)(f0 f1:ι→Value)(g0:ι→ak)(μ:ι→Nat)(i0:ι)(h0:φ i0)(e0:u0=f0 i0)(e1:u1=f1 i0)(q0:cN r0 (g0 i0))
  (hr:∀i,φ i→RF ρ P Qb ds X W n (.bq c:: .stop (Lc ds X W n φ (fun i=>⟨(s0,f0 i)::(s1,f1 i)::bM,g0 i::bN⟩) μ (μ i))::k) ⟨(s0,f0 i)::(s1,f1 i)::bM,g0 i::bN⟩):RF ρ P Qb ds X W n (.bq (.loop c)::k) ⟨(s0,u0)::(s1,u1)::bM,r0::bN⟩:=by
 subst e0;subst e1
 exact Wq φ (fun i=>⟨(s0,f0 i)::(s1,f1 i)::bM,g0 i::bN⟩) μ i0 h0 (au dR.refl (ar.cons ag.ao q0 ar.refl)) hr
end
end Hr
end
end Go.Proofs.YtdahjfmmndjcpaaGreat
