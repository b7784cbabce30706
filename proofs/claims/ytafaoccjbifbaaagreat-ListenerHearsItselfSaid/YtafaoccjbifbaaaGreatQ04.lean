/- Part 5 of listenerHearsItself_holds. -/
import Derived.Laws.IdiomRangeMap
import Derived.OrdersIn
import Derived.Test.YtafaoccjbifbaaaGreatQ03
set_option linter.unusedSimpArgs false
set_option linter.unusedVariables false
set_option maxHeartbeats 40000000
set_option maxRecDepth 100000
namespace Go.Proofs.YtafaoccjbifbaaaGreat
open Go Go.RowKit Hr Go.Proofs.Tryz
section
namespace Hr
theorem zJ{P:Program}{t:TypeId}{z:Value}(h:(P.info? t).bind (·.zero)=some z):∀w,(zeroValue t).run P w= .ok z w:=by
 intro w
 cases hi:P.info? t with
 |none=>rw [hi]at h;cases h
 |some i=>
  rw [hi]at h
  have hz:i.zero=some z:=h
  simp [zeroValue,typeInfo,hi,hz]
open Classical in
noncomputable def kD(f:Value→Option Value)(k v:Value):Value→Option Value:=fun q=>if q=k then some v else f q
theorem uU{f:Value→Option Value}{k v:Value}:kD f k v k=some v:=aH rfl
theorem tJ{f:Value→Option Value}{k v q:Value}(h:q≠k):kD f k v q=f q:=aB h
structure rN(K:Value→Prop)(f:Value→Option Value)(es:List MapEntry)(ck:Nat):Prop where
 key:∀x∈es,K x.key
 fY:∀x∈es,x.born<ck
 nd:(es.map (·.born)).Nodup
 uk:(es.map (·.key)).Nodup
 BI:∀x∈es,f x.key=some x.val
 rO:∀k,(∀x∈es,x.key≠k)→f k=none
theorem rN.nil{K:Value→Prop}{ck:Nat}:rN K (fun _=>none) [] ck:=⟨by simp,by simp,by simp,by simp,by simp,fun _ _=>rfl⟩
theorem OE{k:Value}:∀{es:List MapEntry} {i j:Nat} {v:Value},lU k es i=some (j,v)→∃q e,j=i+q∧es[q]?=some e∧e.key=k∧e.val=v
 | [],i,j,v,h=>by simp [lU]at h
 |x::es,i,j,v,h=>by
  by_cases e:x.key=k
  ·rw [lU,aH e]at h
   simp only [Option.some.injEq,Prod.mk.injEq]at h
   exact⟨0,x,oM,by simp,e,h.2⟩
  ·rw [lU,aB e]at h
   obtain⟨q,y,h1,h2,h3,h4⟩:=OE h
   exact⟨q+1,y,oM,by simpa using h2,h3,h4⟩
theorem OF{k:Value}:∀{es:List MapEntry} {i:Nat},lU k es i=none→∀x∈es,x.key≠k
 | [],_,_=>by simp
 |y::es,i,h=>by
  by_cases e:y.key=k
  ·rw [lU,aH e]at h;cases h
  ·rw [lU,aB e]at h
   intro x hx
   rcases gu.1 hx with rfl|hx
   ·exact e
   ·exact OF h x hx
theorem rN.B6{K:Value→Prop}{f:Value→Option Value}{es:List MapEntry}{ck:Nat}(h:rN K f es ck)(k:Value):(lU k es 0).map (·.2)=f k:=by
 cases e:lU k es 0 with
 |none=>exact(h.rO k (OF e)).symm
 |some p=>
  obtain⟨q,x,_,h2,h3,h4⟩:=OE e
  have:=h.BI x (Fp h2)
  rw [h3]at this
  rw [this,h4];rfl
theorem rN.n3{K:Value→Prop}{f:Value→Option Value}{es:List MapEntry}{ck:Nat}{k v:Value}(h:rN K f es ck)(hk:K k)(hn:∀x∈es,x.key≠k):rN K (kD f k v) (es++ [MapEntry.mk k v ck]) (ck+1):=by
 refine⟨fun x hx=>?_,fun x hx=>?_,?_,?_,fun x hx=>?_,fun q hq=>?_⟩
 ·rcases dK.1 hx with hx|hx
  ·exact h.key x hx
  ·rw [c_.1 hx];exact hk
 ·rcases dK.1 hx with hx|hx
  ·have:=h.fY x hx;omega
  ·rw [c_.1 hx];exact Nat.lt_succ_self _
 ·rw [bT,List.nodup_append]
  refine⟨h.nd,by simp,fun a ha b hb e=>?_⟩
  simp only [qq,List.map_nil,c_]at hb
  obtain⟨x,hx,rfl⟩:=eS.1 ha
  have:=h.fY x hx
  omega
 ·rw [bT,List.nodup_append]
  refine⟨h.uk,by simp,fun a ha b hb e=>?_⟩
  simp only [qq,List.map_nil,c_]at hb
  obtain⟨x,hx,rfl⟩:=eS.1 ha
  exact hn x hx (e.trans hb)
 ·rcases dK.1 hx with hx|hx
  ·rw [tJ (hn x hx)];exact h.BI x hx
  ·rw [c_.1 hx];exact uU
 ·have OG:q≠k:=fun e=>hq ⟨k,v,ck⟩  sM  e.symm
  rw [tJ OG]
  exact h.rO q fun x hx=>hq x (by simp [hx])
theorem rN.set{K:Value→Prop}{f:Value→Option Value}{es:List MapEntry}{ck q:Nat}{k v:Value}{e:MapEntry}(h:rN K f es ck)(hq:es[q]?=some e)(hk:e.key=k):rN K (kD f k v) (es.set q {e with val:=v}) ck:=by
 have Kb:=(xg.1 hq).1
 have lV:es[q]=e:=(xg.1 hq).2
 have e1:(es.set q {e with val:=v}).map (·.key)=es.map (·.key):=by
  rw [iu]
  apply ud
  intro i
  rw [yT]
  split
  ·rename_i hi;subst hi;rw [oy,hq,bG,aH Kb];rfl
  ·rfl
 have e2:(es.set q {e with val:=v}).map (·.born)=es.map (·.born):=by
  rw [iu]
  apply ud
  intro i
  rw [yT]
  split
  ·rename_i hi;subst hi;rw [oy,hq,bG,aH Kb];rfl
  ·rfl
 have sK:∀x∈es.set q {e with val:=v},x={e with val:=v}∨(x∈es∧x.key≠k):=fun x hx=>by
  obtain⟨i,hi,rfl⟩:=oz hx
  rw [fU]at hi
  rw [List.getElem_set]
  split
  ·exact .inl rfl
  ·rename_i nW
   refine .inr ⟨IM _,fun xQ=>nW ?_⟩
   have BE:=h.uk
   have h1:(es.map (·.key))[q]'(by simpa using Kb)=k:=by simp [lV,hk]
   have h2:(es.map (·.key))[i]'(by simpa using hi)=k:=by simpa using xQ
   exact(List.getElem_inj BE).1 (h1.trans h2.symm)
 refine⟨fun x hx=>?_,fun x hx=>?_,by rw [e2];exact h.nd,by rw [e1];exact h.uk,fun x hx=>?_,fun r hr=>?_⟩
 ·rcases sK x hx with rfl|⟨hx,_⟩
  ·exact h.key e (Fp hq)
  ·exact h.key x hx
 ·rcases sK x hx with rfl|⟨hx,_⟩
  ·exact h.fY e (Fp hq)
  ·exact h.fY x hx
 ·rcases sK x hx with rfl|⟨hx,nW⟩
  ·show kD f k v e.key=some v
   rw [hk,uU]
  ·rw [tJ nW];exact h.BI x hx
 ·have fH:∀y∈es.map (·.key),y≠r:=by
   rw [←e1]
   intro y hy
   obtain⟨x,hx,rfl⟩:=eS.1 hy
   exact hr x hx
  have Mp:r≠k:=fun e'=>fH k (eS.2 ⟨e,Fp hq,hk⟩) e'.symm
  rw [tJ Mp]
  exact h.rO r fun x hx=>fH x.key (eS.2 ⟨x,hx,rfl⟩)
def an.dg(b:Nat)(K:Value→Prop)(f:Value→Option Value):an:=
 .any (fun k=>b=k) (fun w=>∃es ck,w.heap[b]?=some (.map es.toArray ck)∧rN K f es ck) (fun w h k hk=>by obtain⟨_,_,h,_⟩:=h;subst hk;exact q_ h) (fun w w' h hk=>by obtain⟨es,ck,h,g⟩:=h;exact⟨es,ck,(hk b rfl).trans h,g⟩)
theorem cm.dg{b:Nat}{K:Value→Prop}{f f':Value→Option Value}(h:f=f'):cm (.dg b K f) (.dg b K f'):=by subst h;exact .refl
def zK(X:Nat→Prop)(W:World)(S:St)(b:Nat)(K:Value→Prop)(f:Value→Option Value):Prop:=∀w,aS X W w→Mem X W S.mem w→(an.dg b K f).holds w
theorem OH{w w':World}{b:Nat}{K:Value→Prop}{f:Value→Option Value}(h:(an.dg b K f).holds w)(hk:aS nX w w'):(an.dg b K f).holds w':=by
 obtain⟨es,ck,h1,g⟩:=h
 exact⟨es,ck,V3 (ck:=ck) h1 hk,g⟩
theorem ahY(P:Program)(k:Value)(w:World):∃m,(Instr.keyThatStays k k).run P w= .ok k {w with drawn:=w.drawn+m}:=by
 unfold Instr.keyThatStays
 split
 ·exact⟨0,rfl⟩
 ·exact⟨1,by simp [choose,Sem.run,Question.forced,Question.cut]⟩
theorem V4{P:Program}{w:World}{r m:Nat}{es:Array MapEntry}{Kc:Nat}(o:Obj)(hb:w.heap[r]?=some (.map es Kc)):(setObj r o).run P {w with drawn:=w.drawn+m}= .ok () {w with heap:=w.heap.setIfInBounds r o,drawn:=w.drawn+m}:=by
 simp [setObj,Sem.run,hb]
section
variable{P:Program}{X:Nat→Prop}{W:World}{n:Nat}{S:St}{ah:List (Nat×Value)}{mem:List an}{o:Oper}{a:Act}{w:World}{d:Tmp}{x y z:Operand}{t kt et:TypeId}{K:Value→Prop}{f:Value→Option Value}
theorem zK.ae{b:Nat}{l:List an}(h:ag S.mem (an.dg b K f) l):zK X W S b K f:=fun _ _ hm=>h.holds hm
theorem zK.ao{b:Nat}(h:(an.dg b K f).holds W):zK nX W S b K f:=fun _ hk _=>OH h hk
theorem zK.txt{b:Nat}(h:∀w,aS X W w→(an.dg b K f).holds w):zK X W S b K f:=fun w hk _=>h w hk
theorem pY(ho:o.op= .makeMap t none)(hd:o.dst=some d)(hdn:Nat.blt d n=true):H1 P X W n ⟨ah,mem⟩ o (fun _:Nat=>True) (fun b=>⟨(d,.map (some b))::ah,an.dg b K (fun _=>none)::mem⟩):=by
 intro a w hs k Q hk
 have gD:(execOp a.eval o).run P w= .ok (.value (.map (some w.heap.size))) (w.alloc (.map #[] 0)):=by
  simp [execOp,ho,Instr.makeMap]
 refine vP gD ?_
 rw [hd]
 exact hk w.heap.size _ _ trivial ((hs.new (Obj.map #[] 0) (an.dg w.heap.size K (fun _=>none)) ⟨[],0,(MapKept.heap_alloc w _).1,rN.nil⟩ (fun _ h=>Eq.symm h)).put hdn _)
theorem qI{b:Nat}{k zv v:Value}(ho:o.op= .lookup t x y false)(ht:P.underlying t=some (.map kt et))(hK:wC P kt K)(hx:ev S.ah x=some (.map (some b)))(hy:ev S.ah y=some k)
  (hs:zK X W S b K f)(hk:K k)(hz:∀w,(zeroValue et).run P w= .ok zv w)(hv:(f k).getD zv=v):Q1 P X W n S o v:=
 fun a w cu=> .inl (by
  obtain⟨es,ck,hh,hg⟩:=hs w cu.dv cu.mem
  have hf:=hK.Ka hk hg.key w
  have hl:=hg.B6 k
  subst hv
  cases e:lU k es 0 with
  |none=>
   rw [e]at hf hl
   rw [←hl]
   simp [execOp,ho,cu.eval hx,cu.eval hy,Instr.lookup,fk ht,Fu hh,hK.sB hk,hf,hz,Result.andThen]
  |some p=>
   rw [e]at hf hl
   rw [←hl]
   simp [execOp,ho,cu.eval hx,cu.eval hy,Instr.lookup,fk ht,Fu hh,hK.sB hk,hf,Result.andThen])
theorem ah0{b:Nat}{k zv v:Value}{c:Bool}(ho:o.op= .lookup t x y true)(ht:P.underlying t=some (.map kt et))(hK:wC P kt K)(hx:ev S.ah x=some (.map (some b)))(hy:ev S.ah y=some k)
  (hs:zK X W S b K f)(hk:K k)(hz:∀w,(zeroValue et).run P w= .ok zv w)(hv:(f k).getD zv=v)(hc:(f k).isSome=c):Q1 P X W n S o (.tuple #[v,.bool c]):=
 fun a w cu=> .inl (by
  obtain⟨es,ck,hh,hg⟩:=hs w cu.dv cu.mem
  have hf:=hK.Ka hk hg.key w
  have hl:=hg.B6 k
  subst hv hc
  cases e:lU k es 0 with
  |none=>
   rw [e]at hf hl
   rw [←hl]
   simp [execOp,ho,cu.eval hx,cu.eval hy,Instr.lookup,fk ht,Fu hh,hK.sB hk,hf,hz,Result.andThen]
  |some p=>
   rw [e]at hf hl
   rw [←hl]
   simp [execOp,ho,cu.eval hx,cu.eval hy,Instr.lookup,fk ht,Fu hh,hK.sB hk,hf,Result.andThen])
theorem zL{b:Nat}{l:List an}{k v:Value}(ho:o.op= .mapUpdate t x y z)(hd:o.dst=none)(ht:P.underlying t=some (.map kt et))(hK:wC P kt K)(hx:ev ah x=some (.map (some b)))(hy:ev ah y=some k)(hz:ev ah z=some v)
  (hs:ag mem (an.dg b K f) l)(hk:K k):H1 P X W n ⟨ah,mem⟩ o (fun _:Unit=>True) (fun _=>⟨ah,an.dg b K (kD f k v)::l⟩):=by
 intro a w cu kk Q xQ
 obtain⟨es,ck,hh,hg⟩:=hs.holds cu.mem
 have bN:=q_ hh
 have hf:=hK.Ka hk hg.key w
 have Jd:∀(oT:List MapEntry) (xV m:Nat),rN K (kD f k v) oT xV→(execOp a.eval o).run P w= .ok .skip {w with heap:=w.heap.setIfInBounds b (.map oT.toArray xV),drawn:=w.drawn+m}→o.wp P a w kk Q:=by
  intro oT xV m hg' gD
  refine I7 gD ?_
  rw [hd]
  refine xQ () _ _ trivial ?_
  have zM:aS (fun k=>k=b) w {w with heap:=w.heap.setIfInBounds b (.map oT.toArray xV),drawn:=w.drawn+m}:=
   ⟨rfl,rfl,rfl,by simp,fun k _ hx=>by simp [Mb,show¬b=k from fun e=>hx e.symm],Nat.le_add_right _ _⟩
  have hw:(an.dg b K (kD f k v)).holds {w with heap:=w.heap.setIfInBounds b (.map oT.toArray xV),drawn:=w.drawn+m}:=
   ⟨oT,xV,by show(w.heap.setIfInBounds b (.map oT.toArray xV))[b]?=some (.map oT.toArray xV);simp [Mb,bN],hg'⟩
  have hm:Mem (fun k=>k=b) w [an.dg b K (kD f k v)] {w with heap:=w.heap.setIfInBounds b (.map oT.toArray xV),drawn:=w.drawn+m}:=Mem.nil.cons hw (fun k hk=> .inr (Eq.symm hk)) sM
  exact cu.change (Y:=fun k=>k=b) (cs:= [an.dg b K f]) (ls:=l) hs.aI zM (fun k hk=>⟨an.dg b K f,by simp,hk.symm⟩) hm
 cases e:lU k es 0 with
 |none=>
  rw [e]at hf
  refine Jd (es++ [MapEntry.mk k v ck]) (ck+1) 0 (hg.n3 hk (OF e)) ?_
  simp [execOp,ho,cu.eval hx,cu.eval hy,cu.eval hz,Instr.mapUpdate,fk ht,Fu hh,hK.sB hk,hf,MapKept.run_setObj_map _ hh,Result.andThen]
 |some p=>
  obtain⟨j,u⟩:=p
  rw [e]at hf
  obtain⟨q,y,h1,h2,h3,h4⟩:=OE e
  rw [ub]at h1
  subst h1
  obtain⟨m,eJ⟩:=ahY P k w
  refine Jd (es.set j {y with val:=v}) ck m (hg.set h2 h3) ?_
  have V5:(es.toArray[j]?.map (·.key)).getD k=k:=by rw [List.getElem?_toArray,h2];exact h3
  have ah2:es.toArray.modify j (fun e=>{e with key:=k,val:=v})=(es.set j {y with val:=v}).toArray:=by
   apply Array.toList_inj.1
   rw [Array.toList_modify]
   apply ud
   intro i
   rw [List.getElem?_modify,yT]
   split
   ·rename_i hi
    subst hi
    rw [h2,aH (xg.1 h2).1]
    subst h3
    rfl
   ·simp
  simp [execOp,ho,cu.eval hx,cu.eval hy,cu.eval hz,Instr.mapUpdate,fk ht,Fu hh,hK.sB hk,hf,Result.andThen,V4 _ hh]
  rw [show(Option.map (·.key) es[j]?).getD k=k from by rw [h2];exact h3]
  simp only [eJ,Result.andThen]
  rw [V4 _ hh]
  have OI:(es.modify j fun e=>{e with key:=k,val:=v})=es.set j {y with val:=v}:=by
   have:=aY Array.toList ah2
   simpa using this
  rw [OI]
end
def an.sQ(r bm ck:Nat)(seen:Array Nat):an:=
 .any (fun k=>r=k) (fun w=>w.heap[r]?=some (.mapIter (some bm) ck seen ck)) (fun w h k hk=>by subst hk;exact q_ h) (fun w w' h hk=>(hk r rfl).trans h)
section
variable{P:Program}{X:Nat→Prop}{W:World}{n:Nat}{S:St}{ah:List (Nat×Value)}{mem:List an}{o:Oper}{a:Act}{w:World}{d:Tmp}{x y z:Operand}{t kt et:TypeId}{K:Value→Prop}{f:Value→Option Value}
theorem ah3{bm ck:Nat}{es:List MapEntry}(ho:o.op= .range t x)(hd:o.dst=some d)(hdn:Nat.blt d n=true)(ht:P.underlying t=some (.map kt et))(hx:ev ah x=some (.map (some bm)))(hs:GV X W ⟨ah,mem⟩ bm es ck):
  H1 P X W n ⟨ah,mem⟩ o (fun _:Nat=>True) (fun r=>⟨(d,.pointer (some ⟨r,0,none⟩))::ah,an.sQ r bm ck #[]::mem⟩):=by
 intro a w cu k Q hk
 have hh:w.heap[bm]?=some (.map es.toArray ck):=hs w cu.dv cu.mem
 have gD:(execOp a.eval o).run P w= .ok (.value (.pointer (some ⟨w.heap.size,0,none⟩))) (w.alloc (.mapIter (some bm) ck #[] ck)):=by
  simp [execOp,ho,cu.eval hx,run_range_map w t kt et bm es.toArray ck ht hh]
 refine vP gD ?_
 rw [hd]
 exact hk w.heap.size _ _ trivial ((cu.new (Obj.mapIter (some bm) ck #[] ck) (an.sQ w.heap.size bm ck #[]) (heap_alloc_new w _) (fun _ h=>Eq.symm h)).put hdn _)
theorem ah4(w:World)(ty:TypeId)(r bm zN c0:Nat)(seen:Array Nat)(es:Array MapEntry)(Kc:Nat)(hr:w.heap[r]?=some (.mapIter (some bm) zN seen c0))(hb:w.heap[bm]?=some (.map es Kc))(nQ:∀x∈es.toList,x.born<zN)(BB:zN≤c0):
  ((leftOf es seen).size=0∧(Instr.next (.pointer (some ⟨r,0,none⟩)) false ty).run P w= .ok (.tuple #[.bool false]) w)∨
  ∃e∈(leftOf es seen).toList,∃m,(Instr.next (.pointer (some ⟨r,0,none⟩)) false ty).run P w= .ok (.tuple #[.bool true,e.key,e.val]) {w with heap:=w.heap.setIfInBounds r (.mapIter (some bm) zN (seen.push e.born) Kc),drawn:=w.drawn+m}:=by
 simp only [Instr.next,getObj,pw,Sem.run,hr,hb,Result.andThen,next_test_false seen es zN c0 nQ BB,yU,vF]
 unfold leftOf
 have sK:∀x∈(Array.filter (fun e=> !seen.contains e.born) es).toList,x.born<zN:=fun x hx=>nQ x (by simp at hx⊢;exact hx.1)
 generalize Array.filter (fun e=> !seen.contains e.born) es=L at sK⊢
 have e1:L.filter (fun x=>decide (x.born<zN))=L:=Array.filter_eq_self.2 (fun x hx=>by simpa using sK x (by simpa using hx))
 have e2:L.filter (fun x=>decide (x.born≥zN))= #[]:=by
  rw [Array.filter_eq_empty_iff]
  intro x hx
  have:=sK x (by simpa using hx)
  simp
  omega
 simp only [e1,e2,Array.append_empty]
 by_cases h0:L.size=0
 ·left
  have:L= #[]:=Array.eq_empty_of_size_eq_zero h0
  subst this
  refine⟨rfl,?_⟩
  simp [choose,Sem.run,Question.forced]
 ·right
  have nW:L.isEmpty=false:=by simp [Array.isEmpty,h0]
  simp only [nW,yU,vF,Array.empty_append,Array.size_map]
  have A9:∃(j m:Nat),j<L.size∧(choose (Question.mapNext L.size)).run P w= .ok j {w with drawn:=w.drawn+m}:=by
   by_cases hf:L.size≤1
   ·exact⟨0,0,oM,by simp [choose,Sem.run,Question.forced,hf]⟩
   ·exact⟨_,1,Nat.mod_lt _  oM,by
     simp only [choose,Sem.run,Question.forced,ir,hf,vF,Question.cut]
     rfl⟩
  obtain⟨j,m,hj,gD⟩:=A9
  refine⟨L[j],by simp,m,?_⟩
  simp only [gD,Array.getElem?_map,IQ hj,ua,pw,setObj,Sem.run,hr,Result.andThen]
  rfl
theorem ah5{r bm ck:Nat}{seen:Array Nat}{es:List MapEntry}{l:List an}(ho:o.op= .next x false)(hd:o.dst=some d)(hdn:Nat.blt d n=true)(hx:ev ah x=some (.pointer (some ⟨r,0,none⟩)))(hs:GV X W ⟨ah,mem⟩ bm es ck)(hi:ag mem (an.sQ r bm ck seen) l)(nQ:∀x∈es,x.born<ck):
  H1 P X W n ⟨ah,mem⟩ o (fun q:Option MapEntry=>match q with
   |none=>(leftOf es.toArray seen).size=0
   |some e=>e∈(leftOf es.toArray seen).toList) (fun q=>match q with
   |none=>⟨(d,.tuple #[.bool false])::ah,an.sQ r bm ck seen::l⟩
   |some e=>⟨(d,.tuple #[.bool true,e.key,e.val])::ah,an.sQ r bm ck (seen.push e.born)::l⟩):=by
 intro a w cu k Q hk
 have hh:w.heap[bm]?=some (.map es.toArray ck):=hs w cu.dv cu.mem
 have hr:w.heap[r]?=some (.mapIter (some bm) ck seen ck):=hi.holds cu.mem
 have bN:=q_ hr
 have wD:(execOp a.eval o).run P w=((Instr.next (.pointer (some ⟨r,0,none⟩)) false o.type).run P w).andThen fun v w'=> .ok (.value v) w':=by simp [execOp,ho,cu.eval hx]
 rcases ah4 (P:=P) w o.type r bm ck ck seen es.toArray ck hr hh (by simpa using nQ) (ct _)with⟨h0,gD⟩|⟨e,he,m,gD⟩
 ·refine vP (v:= .tuple #[.bool false]) (w':=w) (by rw [wD,gD];rfl) ?_
  rw [hd]
  have h2:cK X W n ⟨ah,an.sQ r bm ck seen::l⟩ a w:=ar dF.refl (ax.aI hi.aI) _ _ cu
  exact hk none _ _ h0 (h2.put hdn _)
 ·refine vP (v:= .tuple #[.bool true,e.key,e.val]) (by rw [wD,gD];rfl) ?_
  rw [hd]
  refine hk (some e) _ _ he ?_
  have zM:aS (fun k=>k=r) w {w with heap:=w.heap.setIfInBounds r (.mapIter (some bm) ck (seen.push e.born) ck),drawn:=w.drawn+m}:=
   ⟨rfl,rfl,rfl,by simp,fun k _ hx=>by simp [Mb,show¬r=k from fun e=>hx e.symm],Nat.le_add_right _ _⟩
  have hw:(an.sQ r bm ck (seen.push e.born)).holds {w with heap:=w.heap.setIfInBounds r (.mapIter (some bm) ck (seen.push e.born) ck),drawn:=w.drawn+m}:=by
   show(w.heap.setIfInBounds r (.mapIter (some bm) ck (seen.push e.born) ck))[r]?=some (.mapIter (some bm) ck (seen.push e.born) ck)
   simp [Mb,bN]
  have hm:Mem (fun k=>k=r) w [an.sQ r bm ck (seen.push e.born)] {w with heap:=w.heap.setIfInBounds r (.mapIter (some bm) ck (seen.push e.born) ck),drawn:=w.drawn+m}:=Mem.nil.cons hw (fun k hk=> .inr (Eq.symm hk)) sM
  exact(cu.change (Y:=fun k=>k=r) (cs:= [an.sQ r bm ck seen]) (ls:=l) hi.aI zM (fun k hk=>⟨an.sQ r bm ck seen,by simp,hk.symm⟩) hm).put hdn _
theorem ah6{r bm ck:Nat}{seen:Array Nat}{es:List MapEntry}{l:List an}{e:MapEntry}(ho:o.op= .entry x)(hx:ev S.ah x=some (.pointer (some ⟨r,0,none⟩)))(hs:GV X W S bm es ck)(hi:ag S.mem (an.sQ r bm ck (seen.push e.born)) l)(he:e∈es)(hn:(es.map (·.born)).Nodup):
  Q1 P X W n S o (.tuple #[e.key,e.val]):=
 fun a w cu=> .inl (by
  have hh:w.heap[bm]?=some (.map es.toArray ck):=hs w cu.dv cu.mem
  have hr:w.heap[r]?=some (.mapIter (some bm) ck (seen.push e.born) ck):=hi.holds cu.mem
  have hf:es.toArray.find? (·.born==e.born)=some e:=by rw [←Array.find?_toList];exact find_born e es hn he
  simp [execOp,ho,cu.eval hx,Instr.entry,getObj,Sem.run,hr,hh,Result.andThen,hf])
end
end Hr
end
structure fR where
 fst:Nat
 cy:Nat
 hZ:Nat
instance:Inhabited fR:=⟨⟨0,0,0⟩⟩
def fR.enc(g:fR):List Value:= [.int .i64 (g.fst:Int),.int .i64 (g.cy:Int),.slice none 0 0,.int .i64 (g.hZ:Int)]
def oa:Nat→List fR→Nat→Prop
 |a, [],b=>a=b
 |a,g::gs,b=>g.fst=a∧a<g.cy∧(1≤g.hZ∧g.hZ≤3)∧oa g.cy gs b
theorem oa.le:∀{gs:List fR} {a b:Nat},oa a gs b→a+gs.length≤b
 | [],a,b,h=>by have:a=b:=h;simp;omega
 |g::gs,a,b,h=>by have:=h.2.2.2.le;have:=h.2.1;have:=h.1;simp;omega
theorem oa.eN:∀{gs:List fR} {a b:Nat} {g:fR},oa a gs b→g.fst=b→b<g.cy→(1≤g.hZ∧g.hZ≤3)→oa a (gs++ [g]) g.cy
 | [],a,b,g,h,h1,h2,h3=>by have:a=b:=h;exact⟨oM,oM,h3,rfl⟩
 |g0::gs,a,b,g,h,h1,h2,h3=>⟨h.1,h.2.1,h.2.2.1,h.2.2.2.eN h1 h2 h3⟩
theorem oa.at:∀{gs:List fR} {a b:Nat} {k:Nat},oa a gs b→k<gs.length→a≤(aa gs k).fst∧(aa gs k).fst<(aa gs k).cy∧(aa gs k).cy≤b∧1≤(aa gs k).hZ∧(aa gs k).hZ≤3
 |g::gs,a,b,0,h,_=>by
  have h1:=h.2.2.2.le
  have h2:=h.2.1
  have h3:=h.1
  have h4:=h.2.2.1
  show a≤g.fst∧g.fst<g.cy∧g.cy≤b∧1≤g.hZ∧g.hZ≤3
  omega
 |g::gs,a,b,k+1,h,hk=>by
  have h1:=h.2.2.2.at (k:=k) (by simpa using hk)
  have h2:=h.2.1
  have e:aa (g::gs) (k+1)=aa gs k:=by simp [aa]
  rw [e];omega
abbrev xW:=Nat×Bool
instance:Inhabited xW:=⟨⟨0,false⟩⟩
def ah7(x:xW):List Value:= [.int .i64 (x.1:Int),.bool x.2]
def V6(x:Nat):List Value:= [.int .i64 (x:Int)]
def uW(g:fR)(p j:Nat):List xW:=(List.range j).map fun x=>(g.fst+x,(p:Int)==(g.hZ:Int)-1)
def uX(g:fR)(p:Nat):List xW:=(List.range p).flatMap fun q=>uW g q (g.cy-g.fst)
def Kd(g:fR):List xW:=uX g g.hZ
def sR(g:fR):List Nat:=(Kd g).map (·.1)
def eG(gs:List fR):List Nat:=gs.flatMap sR
theorem ah8{g:fR}{p j:Nat}:uW g p (j+1)=uW g p j++ [(g.fst+j,(p:Int)==(g.hZ:Int)-1)]:=by simp [uW,nM]
theorem OJ{g:fR}{p:Nat}:uX g (p+1)=uX g p++uW g p (g.cy-g.fst):=by simp [uX,nM,kY]
theorem V7{g:fR}{p j:Nat}:(uW g p j).length=j:=by simp [uW]
theorem OK{g:fR}:∀{p:Nat},(uX g p).length=p*(g.cy-g.fst)
 |0=>by simp [uX]
 |p+1=>by rw [OJ,ay,V7,OK,C2]
theorem OL{g:fR}:(sR g).length=g.hZ*(g.cy-g.fst):=by rw [sR,bG];exact OK
theorem ah9{g:fR}{x:xW}(h:x∈Kd g):x.1<g.cy:=by
 obtain⟨q,_,h2⟩:=q9.1 h
 obtain⟨j,h3,rfl⟩:=eS.1 h2
 have:=jU.1 h3
 show g.fst+j<g.cy
 omega
abbrev wE(e:Nat):={x:xW//x.1<e}
def V8{e:Nat}(x:wE e):List Value:=ah7 x.1
theorem ah_{e:Nat}{l:List (wE e)}{l':List xW}(h:l.map (·.1)=l'):l.length=l'.length:=by rw [←h,bG]
theorem aia{e:Nat}{l:List (wE e)}{l':List xW}{x:wE e}(h:l.map (·.1)=l'):(l++ [x]).map (·.1)=l'++ [x.1]:=by rw [bT,h];rfl
theorem OM:∀{gs:List fR} {a b:Nat},oa a gs b→(eG gs).length≤3*(b-a)
 | [],a,b,h=>by simp [eG]
 |g::gs,a,b,h=>by
  have h1:=OM h.2.2.2
  have h2:=h.2.2.2.le
  have h3:=h.2.1
  have h4:=h.1
  have h5:=h.2.2.1
  have h6:g.hZ*(g.cy-g.fst)≤3*(g.cy-g.fst):=te _ h5.2
  have e:eG (g::gs)=sR g++eG gs:=by simp [eG]
  rw [e,ay,OL]
  omega
theorem aib{gs:List fR}{b:Nat}(h:oa 0 gs b)(hb:0<b):0<(eG gs).length:=by
 cases gs with
 |nil=>have:0=b:=h;omega
 |cons g gs=>
  have e:eG (g::gs)=sR g++eG gs:=by simp [eG]
  rw [e,ay,OL]
  have h5:=h.2.2.1
  have h6:1*(g.cy-g.fst)≤g.hZ*(g.cy-g.fst):=te _ h5.1
  have:=h.1
  have:=h.2.1
  omega
theorem V9:∀{gs:List fR} {a b:Nat},oa a gs b→∀x∈eG gs,x<b
 | [],a,b,h,x,hx=>by simp [eG]at hx
 |g::gs,a,b,h,x,hx=>by
  have e:eG (g::gs)=sR g++eG gs:=by simp [eG]
  rw [e]at hx
  have h2:=h.2.2.2.le
  rcases dK.1 hx with hx|hx
  ·obtain⟨y,hy,rfl⟩:=eS.1 hx
   have:=ah9 hy
   omega
  ·exact V9 h.2.2.2 x hx
theorem V_{gs:List fR}{k:Nat}(h:k<gs.length):eG (gs.take (k+1))=eG (gs.take k)++sR (aa gs k):=by
 rw [nB h];simp [eG]
theorem aic{gs:List fR}{k:Nat}:(eG (gs.take k)).length≤(eG gs).length:=by
 have:gs=gs.take k++gs.drop k:=(nm k gs).symm
 have e:eG gs=eG (gs.take k)++eG (gs.drop k):=by rw [eG,eG,eG,←kY,nm]
 rw [e,ay];omega
structure Br where
 m:Nat
 p:Nat
instance:Inhabited Br:=⟨⟨0,0⟩⟩
def Br.enc(b:Br):List Value:= [.int .i64 (b.m:Int),.int .i64 (b.p:Int)]
def mY(l:List Nat):List Br:=(List.range l.length).map fun j=>⟨aa l j,((l.take j).count (aa l j))⟩
theorem aid{l:List Nat}{x:Nat}:mY (l++ [x])=mY l++ [⟨x,l.count x⟩]:=by
 rw [mY,ay,sg,nM,bT]
 congr 1
 ·refine uh fun j hj=>?_
  have gU:=jU.1 hj
  rw [rE gU,List.take_append_of_le_length  oM]
 ·simp [aa]
theorem zP{l:List Nat}:(mY l).length=l.length:=by simp [mY]
theorem Wa{l:List Nat}{j:Nat}(h:j<l.length):aa (mY l) j=⟨aa l j,(l.take j).count (aa l j)⟩:=by
 simp [aa,mY,h]
abbrev vi(x:Int):Value:= .int .i64 x
abbrev eM:Value→Prop:=MapKept.IsKey (.int .i64)
theorem eM.key(i:Int):eM (.int .i64 i):=by simp [MapKept.IsKey]
def GW(f:Value→Option Value)(l:List Nat):Prop:=∀x:Nat,(f (vi x)).getD (vi 0)=vi (l.count x:Nat)
theorem Wb:GW (fun _=>none) []:=fun x=>by simp
theorem Wc{f:Value→Option Value}{l:List Nat}{x:Nat}(h:GW f l):GW (kD f (vi x) (vi ((l.count x:Nat)+1))) (l++ [x]):=fun y=>by
 by_cases e:y=x
 ·subst e
  rw [uU]
  simp [List.count_append]
 ·rw [tJ (by intro h;injection h with _ h;omega),h y]
  rw [List.count_append]
  have:List.count y [x]=0:=List.count_eq_zero.2 (by simpa using e)
  rw [this];rfl
def gz(l:List Int):Int:=l.foldr (· + ·) 0
theorem B7{a b:List Int}:gz (a++b)=gz a+gz b:=by
 induction a with
 |nil=>simp [gz]
 |cons x a ih=>simp only [gz,AL,List.foldr_cons]at ih⊢;rw [ih];omega
def lD(ls:List Int):List Int:=(List.range (ls.length+1)).map fun k=>gz (ls.take k)
theorem wF{ls:List Int}:(lD ls).length=ls.length+1:=by simp [lD]
theorem Ke{ls:List Int}{k:Nat}(h:k≤ls.length):aa (lD ls) k=gz (ls.take k):=by
 have:k<ls.length+1:=oM
 simp [aa,lD,this]
theorem ON{ls:List Int}{k:Nat}(h:k<ls.length):gz (ls.take (k+1))=gz (ls.take k)+aa ls k:=by
 rw [nB h,B7];simp [gz]
theorem Ed{ls:List Int}{x:Int}:lD (ls++ [x])=lD ls++ [gz ls+x]:=by
 rw [lD,ay,sg,nM,bT]
 congr 1
 ·refine uh fun k hk=>?_
  have:=jU.1 hk
  rw [List.take_append_of_le_length  oM]
 ·have e:gz [x]=x:=by simp [gz]
  rw [IV,mL (show(ls++ [x]).length≤ls.length+1 by simp),B7,e]
theorem Kf{ls:List Int}{B:Int}(h:∀x∈ls,0≤x∧x≤B):0≤gz ls∧gz ls≤B*ls.length:=by
 induction ls with
 |nil=>simp [gz]
 |cons x l ih=>
  have h1:=ih fun y hy=>h y (by simp [hy])
  have h2:=h x sM
  have e:gz (x::l)=x+gz l:=rfl
  rw [e,eF]
  have:B*((l.length+1:Nat):Int)=B*l.length+B:=by rw [xk,Int.mul_add];simp
  rw [this];omega
theorem Wd{ls:List Int}{a b:Nat}(h:∀x∈ls,0≤x)(hab:a≤b):gz (ls.take a)≤gz (ls.take b):=by
 induction b with
 |zero=>
  obtain rfl:a=0:=oM
  exact jT _
 |succ b ih=>
  rcases ie b ls.length with hb|hb
  ·rcases ie a (b+1)with h1|h1
   ·have h2:=ih  oM
    rw [ON hb]
    have:=h _ (aN hb)
    omega
   ·obtain rfl:a=b+1:=oM
    exact jT _
  ·rcases ie a (b+1)with h1|h1
   ·have h2:=ih  oM
    rw [mL (show ls.length≤b+1 by omega)]
    rwa [mL hb]at h2
   ·obtain rfl:a=b+1:=oM
    exact jT _
def Kg(m:aQ):Int:=m.n.met.ln
def kE(s:aP):List Int:=s.ms.map Kg
def bL(s:aP):List Int:=lD (kE s)
def kF(s:aP)(l:List Nat):List Int:=l.map fun j=>Kg (aa s.ms j)
def cQ(s:aP)(l:List Nat):List Int:=lD (kF s l)
theorem We{s:aP}{i:Nat}(h:i<s.ms.length):aa (kE s) i=(aa s.ms i).n.met.ln:=by
 simp [aa,kE,h,Kg]
theorem Wf{s:aP}{l:List Nat}{i:Nat}(h:i<l.length):aa (kF s l) i=(aa s.ms (aa (α:=Nat) l i)).n.met.ln:=by
 simp [aa,kF,h,Kg]
theorem bO.ln{s:aP}(hB:bO s){i:Nat}(hi:i<s.ms.length):Wm (aa s.ms i).n.met∧(aa s.ms i).n.len=0∧1≤(aa s.ms i).n.met.ln∧(aa s.ms i).n.met.ln≤1935360:=by
 obtain⟨a,hm⟩:=hB.me hi
 refine⟨hm.met,hm.xL,?_⟩
 have:=hm.met.ln.1
 omega
theorem bO.OO{s:aP}(hB:bO s):∀x∈kE s,1≤x∧x≤1935360:=fun x hx=>by
 obtain⟨m,hm,rfl⟩:=eS.1 hx
 obtain⟨j,hj,rfl⟩:=oz hm
 have:=(hB.ln hj).2.2
 rwa [n5 hj]at this
theorem bO.OP{s:aP}(hB:bO s){l:List Nat}(hl:∀x∈l,x<s.ms.length):∀x∈kF s l,1≤x∧x≤1935360:=fun x hx=>by
 obtain⟨j,hj,rfl⟩:=eS.1 hx
 exact(hB.ln (hl j hj)).2.2
theorem GX{l:List Nat}{k:Nat}(h:k<l.length):((mY l).map Br.enc)[k]?=some [.int .i64 ((aa l k:Nat):Int),.int .i64 (((l.take k).count (aa l k):Nat):Int)]:=by
 rw [bt (by rw [zP];exact h),Wa h];rfl
namespace Hr
def aif(K:Value→Prop)(f:Value→Option Value)(w:World):Option Nat→Prop
 |none=>∀k,f k=none
 |some b=>(an.dg b K f).holds w
def an.oY(q:Option Nat)(K:Value→Prop)(f:Value→Option Value):an:=
 .any (fun k=>q=some k) (fun w=>aif K f w q) (fun w h k hk=>by subst hk;exact(show(an.dg k K f).holds w from h).lt k rfl)
  (fun w w' h hk=>by
   cases q with
   |none=>exact h
   |some b=>exact(show(an.dg b K f).holds w from h).nP fun k Mg=>hk k (by rw [show b=k from Mg]))
theorem cm.toO{b:Nat}{K:Value→Prop}{f:Value→Option Value}:cm (.dg b K f) (.oY (some b) K f):=
 ⟨fun k hk=>by
  have e:some b=some k:=hk
  injection e,fun w h=>h⟩
theorem ax.Wg{K:Value→Prop}{m:List an}:ax m (.oY none K (fun _=>none)::m):=fun X W w h=>by
 refine⟨h.cons (fun _=>rfl) (fun b hb=>?_) (fun s hs b hb=>?_),fun r' iU b hb=>?_⟩
 ·cases(show none=some b from hb)
 ·cases(show none=some b from hb)
 ·rcases gu.1 iU with rfl|iU
  ·cases(show none=some b from hb)
  ·exact⟨r',iU,hb⟩
section
variable{P:Program}{X:Nat→Prop}{W:World}{n:Nat}{S:St}{ah:List (Nat×Value)}{mem:List an}{o:Oper}{a:Act}{w:World}{d:Tmp}{x y z:Operand}{t kt et:TypeId}{K:Value→Prop}{f:Value→Option Value}
theorem Wh{q:Option Nat}{l:List an}{k zv v:Value}{c:Bool}(ho:o.op= .lookup t x y true)(ht:P.underlying t=some (.map kt et))(hK:wC P kt K)(hx:ev S.ah x=some (.map q))(hy:ev S.ah y=some k)
  (hs:ag S.mem (an.oY q K f) l)(hk:K k)(hz:∀w,(zeroValue et).run P w= .ok zv w)(hv:(f k).getD zv=v)(hc:(f k).isSome=c):Q1 P X W n S o (.tuple #[v,.bool c]):=by
 cases q with
 |some b=>exact ah0 ho ht hK hx hy (fun w _ hm=>hs.holds hm) hk hz hv hc
 |none=>
  exact fun a w cu=> .inl (by
   have h0:∀k,f k=none:=hs.holds cu.mem
   rw [h0]at hv hc
   subst hv hc
   have hf:=hK.Ka (es:= []) hk  sM  w
   simp [lU]at hf
   simp [execOp,ho,cu.eval hx,cu.eval hy,Instr.lookup,fk ht,hK.sB hk,hf,hz,Result.andThen])
end
end Hr
structure eR where
 st:Nat
 vo:Nat
 ev:Nat
 on:Int
 off:Int
instance:Inhabited eR:=⟨⟨0,0,0,0,0⟩⟩
def eR.enc(s:eR):List Value:= [.int .i64 (s.st:Int),.int .i64 (s.vo:Int),.int .i64 (s.ev:Int),.int .i64 s.on,.int .i64 s.off]
def dB(m:aQ)(i k:Nat):List Int:=j1 (VL (aa (aa m.cs i).vs k) m.n.met.ln)
def od(i k:Nat)(ln:Int)(on:List Int)(j:Nat):eR:=⟨i,k,j,aa on j,if j+1<on.length then aa on (j+1)else ln⟩
def lW(i k:Nat)(ln:Int)(on:List Int)(n:Nat):List eR:=(List.range n).map (od i k ln on)
def iP(m:aQ)(i k:Nat):List eR:=(List.range k).flatMap fun q=>lW i q m.n.met.ln (dB m i q) (dB m i q).length
def da(m:aQ)(i:Nat):List eR:=(List.range i).flatMap fun q=>iP m q (aa m.cs q).vs.length
theorem B8{i k n:Nat}{ln:Int}{on:List Int}:lW i k ln on (n+1)=lW i k ln on n++ [od i k ln on n]:=by simp [lW,nM]
theorem Ee{m:aQ}{i k:Nat}:iP m i (k+1)=iP m i k++lW i k m.n.met.ln (dB m i k) (dB m i k).length:=by simp [iP,nM,kY]
theorem Ef{m:aQ}{i:Nat}:da m (i+1)=da m i++iP m i (aa m.cs i).vs.length:=by simp [da,nM,kY]
theorem Eg{i k n:Nat}{ln:Int}{on:List Int}:(lW i k ln on n).length=n:=by simp [lW]
theorem Wi{m:aQ}{i:Nat}:∀{k:Nat},(∀q,q<k→(dB m i q).length≤56)→(iP m i k).length≤56*k
 |0,_=>by simp [iP]
 |k+1,h=>by
  have h1:=Wi (k:=k) fun q hq=>h q  oM
  have h2:=h k  oM
  rw [Ee,ay,Eg];omega
theorem Wj{m:aQ}:∀{i:Nat},(∀q,q<i→(iP m q (aa m.cs q).vs.length).length≤112)→(da m i).length≤112*i
 |0,_=>by simp [da]
 |i+1,h=>by
  have h1:=Wj (i:=i) fun q hq=>h q  oM
  have h2:=h i  oM
  rw [Ef,ay];omega
theorem iY.vo{m:aQ}{K:Nat}{a:Int}(h:iY m K a){i k:Nat}(hi:i<m.cs.length)(hk:k<(aa m.cs i).vs.length):∃n,hU (aa (aa m.cs i).vs k) m.n.met.ln n:=(h.ce _ (aN hi)).vs _ (aN hk)
theorem GY{m:aQ}{K:Nat}{a:Int}(h:iY m K a){i k:Nat}(hi:i<m.cs.length)(hk:k<(aa m.cs i).vs.length):(dB m i k).length=(aa (aa m.cs i).vs k).es.length∧0<(dB m i k).length∧(dB m i k).length≤56:=by
 obtain⟨n,hv⟩:=h.vo hi hk
 have e:(dB m i k).length=(aa (aa m.cs i).vs k).es.length:=by rw [dB,JN,NL hv.e]
 have:=hv.len
 omega
theorem Wk{m:aQ}{K:Nat}{a:Int}(h:iY m K a){i k:Nat}(hi:i<m.cs.length)(hk:k≤(aa m.cs i).vs.length):(iP m i k).length≤112:=by
 have h2:(aa m.cs i).vs.length≤2:=by
  have:=(h.ce _ (aN hi)).len
  omega
 have:=Wi (m:=m) (i:=i) (k:=k) fun q hq=>(GY h hi  oM).2.2
 omega
theorem Wl{m:aQ}{K:Nat}{a:Int}(h:iY m K a){i:Nat}(hi:i≤m.cs.length):(da m i).length≤112*i:=Wj fun q hq=>Wk h  oM (ct _)
theorem OQ{m:aQ}{K:Nat}{a:Int}(h:iY m K a){i k:Nat}(hi:i<m.cs.length)(hk:k<(aa m.cs i).vs.length){j:Nat}(hj:j<(dB m i k).length):
  0≤(od i k m.n.met.ln (dB m i k) j).on∧(od i k m.n.met.ln (dB m i k) j).on≤(od i k m.n.met.ln (dB m i k) j).off∧(od i k m.n.met.ln (dB m i k) j).off≤m.n.met.ln∧(j+1<(dB m i k).length→(od i k m.n.met.ln (dB m i k) j).off=(od i k m.n.met.ln (dB m i k) (j+1)).on):=by
 obtain⟨n,hv⟩:=h.vo hi hk
 have qJ:=h.met.ln.1
 obtain⟨_,hs,hb⟩:=JO hv.e (show 1≤m.n.met.ln∧m.n.met.ln≤15482880 by omega)
 have gT:(dB m i k).length=(VL (aa (aa m.cs i).vs k) m.n.met.ln).length:=by rw [dB,JN]
 have key:∀q,q<(VL (aa (aa m.cs i).vs k) m.n.met.ln).length→aa (dB m i k) q=Tu.gE ((VL (aa (aa m.cs i).vs k) m.n.met.ln).take q):=fun q hq=>Gj hq
 have mono:∀q,q<(VL (aa (aa m.cs i).vs k) m.n.met.ln).length→0≤Tu.gE ((VL (aa (aa m.cs i).vs k) m.n.met.ln).take q)∧Tu.gE ((VL (aa (aa m.cs i).vs k) m.n.met.ln).take q)≤Tu.gE ((VL (aa (aa m.cs i).vs k) m.n.met.ln).take (q+1))∧Tu.gE ((VL (aa (aa m.cs i).vs k) m.n.met.ln).take (q+1))≤m.n.met.ln:=fun q hq=>by
  refine⟨?_,?_,?_⟩
  ·have:=Tu.Bl hb q  oM ;omega
  ·rw [Tu.Jq hq];have:=hb _ (aN hq);omega
  ·have e:Tu.gE (VL (aa (aa m.cs i).vs k) m.n.met.ln)=Tu.gE ((VL (aa (aa m.cs i).vs k) m.n.met.ln).take (q+1))+Tu.gE ((VL (aa (aa m.cs i).vs k) m.n.met.ln).drop (q+1)):=by rw [←Tu.Bk,nm]
   have h2:=Tu.Bl (l:=(VL (aa (aa m.cs i).vs k) m.n.met.ln).drop (q+1)) (fun x hx=>hb x (List.mem_of_mem_drop hx)) ((VL (aa (aa m.cs i).vs k) m.n.met.ln).drop (q+1)).length (ct _)
   rw [px]at h2
   omega
 have gU:j<(VL (aa (aa m.cs i).vs k) m.n.met.ln).length:=oM
 have m1:=mono j gU
 have k1:=key j gU
 simp only [od]
 by_cases hn:j+1<(dB m i k).length
 ·rw [aH hn,k1,key (j+1)  oM]
  exact⟨m1.1,m1.2.1,m1.2.2,fun _=>rfl⟩
 ·rw [aB hn,k1]
  exact⟨m1.1,oM,oM,fun h=>absurd h hn⟩
def eR.is(a b:Nat)(x:eR):Bool:=x.st==a&&x.vo==b
abbrev GZ(x y:eR):Prop:=x.st=y.st→x.vo=y.vo→x.off≤y.on
theorem Kh{i k n:Nat}{ln:Int}{on:List Int}{x:eR}(h:x∈lW i k ln on n):∃j,j<n∧x=od i k ln on j:=by
 obtain⟨j,hj,rfl⟩:=eS.1 h
 exact⟨j,jU.1 hj,rfl⟩
theorem OR{m:aQ}{i k:Nat}{x:eR}(h:x∈iP m i k):∃q j,q<k∧j<(dB m i q).length∧x=od i q m.n.met.ln (dB m i q) j:=by
 obtain⟨q,hq,h2⟩:=q9.1 h
 obtain⟨j,hj,e⟩:=Kh h2
 exact⟨q,j,jU.1 hq,hj,e⟩
theorem Wn{m:aQ}{i:Nat}{x:eR}(h:x∈da m i):∃c q j,c<i∧q<(aa m.cs c).vs.length∧j<(dB m c q).length∧x=od c q m.n.met.ln (dB m c q) j:=by
 obtain⟨c,hc,h2⟩:=q9.1 h
 obtain⟨q,j,hq,hj,e⟩:=OR h2
 exact⟨c,q,j,jU.1 hc,hq,hj,e⟩
theorem Wo{m:aQ}{K:Nat}{a:Int}(h:iY m K a){i k:Nat}(hi:i<m.cs.length)(hk:k<(aa m.cs i).vs.length){j:Nat}:∀{n:Nat},j<n→n<(dB m i k).length→(od i k m.n.met.ln (dB m i k) j).off≤(od i k m.n.met.ln (dB m i k) n).on
 |0,h1,_=>oM
 |n+1,h1,h2=>by
  have b:=OQ h hi hk (j:=n)  oM
  have e:=b.2.2.2  oM
  by_cases hn:j=n
  ·subst hn;omega
  ·have:=Wo h hi hk (j:=j) (n:=n)  oM oM
   omega
theorem Wp{m:aQ}{K:Nat}{a:Int}(h:iY m K a){i k:Nat}(hi:i<m.cs.length)(hk:k<(aa m.cs i).vs.length):∀{n:Nat},n≤(dB m i k).length→(lW i k m.n.met.ln (dB m i k) n).Pairwise GZ
 |0,_=>by simp [lW]
 |n+1,hn=>by
  rw [B8]
  refine pq.2 ⟨Wp h hi hk  oM,by simp,fun x hx y hy=>?_⟩
  rw [c_.1 hy]
  obtain⟨j,hj,rfl⟩:=Kh hx
  exact fun _ _=>Wo h hi hk hj  oM
theorem Wq{m:aQ}{K:Nat}{a:Int}(h:iY m K a){i:Nat}(hi:i<m.cs.length):∀{k:Nat},k≤(aa m.cs i).vs.length→(iP m i k).Pairwise GZ
 |0,_=>by simp [iP]
 |k+1,hk=>by
  rw [Ee]
  refine pq.2 ⟨Wq h hi  oM,Wp h hi  oM (ct _),fun x hx y hy=>?_⟩
  obtain⟨q,j,hq,hj,rfl⟩:=OR hx
  obtain⟨j2,rP,rfl⟩:=Kh hy
  intro _ e
  exact absurd (show q=k from e)  oM
theorem Wr{m:aQ}{K:Nat}{a:Int}(h:iY m K a):∀{i:Nat},i≤m.cs.length→(da m i).Pairwise GZ
 |0,_=>by simp [da]
 |i+1,hi=>by
  rw [Ef]
  refine pq.2 ⟨Wr h  oM,Wq h  oM (ct _),fun x hx y hy=>?_⟩
  obtain⟨c,q,j,hc,hq,hj,rfl⟩:=Wn hx
  obtain⟨q2,j2,hq2,rP,rfl⟩:=OR hy
  intro e _
  exact absurd (show c=i from e)  oM
theorem aij{a b i k n:Nat}{ln:Int}{on:List Int}:(lW i k ln on n).countP (eR.is a b)≤if i=a∧k=b then n else 0:=by
 split
 ·exact jg List.countP_le_length (by rw [Eg];exact ct _)
 ·rename_i nW
  refine Nat.le_of_eq (List.countP_eq_zero.2 fun x hx=>?_)
  obtain⟨j,_,rfl⟩:=Kh hx
  intro Ki
  simp only [eR.is,od,fu,kh]at Ki
  exact nW Ki
theorem Ws{m:aQ}{a b i:Nat}:∀{k:Nat},(∀q,q<k→(dB m i q).length≤56)→(iP m i k).countP (eR.is a b)≤if i=a∧b<k then 56 else 0
 |0,_=>by simp [iP]
 |k+1,h=>by
  have h1:=Ws (a:=a) (b:=b) (k:=k) fun q hq=>h q  oM
  have h2:=h k  oM
  have h3:=aij (a:=a) (b:=b) (i:=i) (k:=k) (n:=(dB m i k).length) (ln:=m.n.met.ln) (on:=dB m i k)
  rw [Ee,List.countP_append]
  by_cases e1:i=a
  ·by_cases e2:k=b
   ·rw [aH ⟨e1,e2⟩]at h3
    rw [aB (show¬(i=a∧b<k) by omega)]at h1
    rw [aH (show i=a∧b<k+1 by omega)]
    omega
   ·rw [aB (show¬(i=a∧k=b) by omega)]at h3
    by_cases e3:b<k
    ·rw [aH ⟨e1,e3⟩]at h1
     rw [aH (show i=a∧b<k+1 by omega)]
     omega
    ·rw [aB (show¬(i=a∧b<k) by omega)]at h1
     omega
  ·rw [aB (show¬(i=a∧k=b) by omega)]at h3
   rw [aB (show¬(i=a∧b<k) by omega)]at h1
   omega
theorem Wt{m:aQ}{K:Nat}{z:Int}(hM:iY m K z){a b:Nat}:∀{i:Nat},i≤m.cs.length→(da m i).countP (eR.is a b)≤if a<i then 56 else 0
 |0,_=>by simp [da]
 |i+1,hi=>by
  have h1:=Wt hM (a:=a) (b:=b) (i:=i)  oM
  have h2:=Ws (m:=m) (a:=a) (b:=b) (i:=i) (k:=(aa m.cs i).vs.length) fun q hq=>(GY hM  oM hq).2.2
  rw [Ef,List.countP_append]
  by_cases e1:a<i
  ·rw [aH e1]at h1
   rw [aH (show a<i+1 by omega)]
   rw [aB (show¬(i=a∧b<(aa m.cs i).vs.length) by omega)]at h2
   omega
  ·rw [aB e1]at h1
   by_cases e2:i=a
   ·rw [aH (show a<i+1 by omega)]
    split at h2<;>omega
   ·rw [aB (show¬(i=a∧b<(aa m.cs i).vs.length) by omega)]at h2
    rw [aB (show¬a<i+1 by omega)]
    omega
theorem G0{p:eR→Bool}{l:List eR}{n:Nat}:(l.take n).countP p≤l.countP p:=(List.take_sublist n l).countP_le
theorem OS{p:eR→Bool}{l:List eR}{n:Nat}(h:n<l.length):(l.take (n+1)).countP p=(l.take n).countP p+if p (aa l n)then 1 else 0:=by
 rw [nB h,List.countP_append]
 simp [List.countP_cons]
theorem aik{l:List eR}(h:l.Pairwise GZ){q r:Nat}(tK:q<r)(hr:r<l.length):GZ (aa l q) (aa l r):=by
 have:=C6.1 h q r  oM hr tK
 rw [n5 hr,n5 (show q<l.length by omega)]
 exact this
namespace au
section
variable{α:Type} [Inhabited α]
theorem OT{L R:List α}{x:α}{i:Nat}(h:i=L.length):aa (L++x::R) i=x:=by
 subst h;simp [aa,xi]
theorem Kj{α:Type}{L R:List α}{x y:α}{i:Nat}(h:i=L.length):(L++x::R).set i y=L++y::R:=by
 subst h;rw [C9 _ _ (ct _),Fq];rfl
theorem nA{L R:List α}{i j:Nat}(h:i=L.length+j):aa (L++R) i=aa R j:=by
 subst h;simp [aa,xi]
theorem Wu{L R:List α}{i:Nat}(h:i<L.length):aa (L++R) i=aa L i:=by
 simp [aa,C0 h]
theorem MP{L:List α}{i k:Nat}(h:i<k):aa (L.take k) i=aa L i:=by simp [aa,C1,h]
theorem Gi{L:List α}{i k:Nat}:aa (L.drop k) i=aa L (k+i):=by simp [aa]
def o0(p a m b s:List α)(k:Nat):List α:=p++(b.take k++(a.drop k++(m++(a.take k++(b.drop k++s)))))
theorem Wv{α:Type}{p a m b s:List α}:o0 p a m b s 0=p++(a++(m++(b++s))):=by simp [o0]
theorem Ww{α:Type}{p a m b s:List α}{k:Nat}(ha:a.length=k)(hb:b.length=k):o0 p a m b s k=p++(b++(m++(a++s))):=by
 rw [o0,mL  oM,mL  oM,ox  oM,ox  oM];simp
theorem tL{α:Type}{p a m b s:List α}{k:Nat}(ha:k≤a.length)(hb:k≤b.length):(o0 p a m b s k).length=p.length+(a.length+(m.length+(b.length+s.length))):=by
 simp only [o0,ay,fN,nL];omega
theorem Wx{p a m b s:List α}{k i:Nat}(ha:k<a.length)(hb:k<b.length)(hi:i=p.length+k):aa (o0 p a m b s k) i=aa a k:=by
 rw [o0,ku ha,←bj]
 exact OT (by simp only [ay,fN];omega)
theorem Wy{p a m b s:List α}{k i:Nat}(ha:k<a.length)(hb:k<b.length)(hi:i=p.length+a.length+m.length+k):aa (o0 p a m b s k) i=aa b k:=by
 rw [o0,ku hb]
 have e:p++(b.take k++(a.drop k++(m++(a.take k++(aa b k::b.drop (k+1)++s)))))=(p++(b.take k++(a.drop k++(m++a.take k))))++aa b k::(b.drop (k+1)++s):=by simp
 rw [e]
 exact OT (by simp only [ay,fN,nL];omega)
theorem Wz{p a m b s:List α}{k i j:Nat}(ha:k<a.length)(hb:k<b.length)(hi:i=p.length+k)(hj:j=p.length+a.length+m.length+k):
  ((o0 p a m b s k).set i (aa b k)).set j (aa a k)=o0 p a m b s (k+1):=by
 have e1:o0 p a m b s k=(p++b.take k)++aa a k::(a.drop (k+1)++(m++(a.take k++(b.drop k++s)))):=by rw [o0,ku ha];simp
 rw [e1,Kj (by simp only [ay,fN];omega),ku hb]
 have e2:(p++b.take k)++aa b k::(a.drop (k+1)++(m++(a.take k++(aa b k::b.drop (k+1)++s))))=(p++(b.take k++([aa b k]++(a.drop (k+1)++(m++a.take k)))))++aa b k::(b.drop (k+1)++s):=by simp
 rw [e2,Kj (by simp only [ay,fN,nL,eF,dL];omega),o0,nR ha,nR hb]
 simp
variable{lt:α→α→Bool}
theorem su.refl{α:Type}{lt:α→α→Bool}(hw:su lt)(a:α):lt a a=false:=by
 cases h:lt a a with
 |false=>rfl
 |true=>have:=hw.F5 h;rw [h]at this;cases this
theorem cP.le(hw:su lt){l:List α}(h:cP lt l){i j:Nat}(pF:i≤j)(hj:j<l.length):lt (Hr.aa l j) (Hr.aa l i)=false:=by
 by_cases e:i=j
 ·subst e;exact hw.refl _
 ·exact h.aa  oM hj
theorem WA(hw:su lt){s:List α}{x:α}{t:Nat}(hs:cP lt s)(ht:t≤s.length)(h1:t=0∨lt x (Hr.aa s (t-1))=false)(h2:t=s.length∨lt (Hr.aa s t) x=false):cP lt (s.take t++x::s.drop t):=by
 refine pq.2 ⟨hs.take _,List.pairwise_cons.2 ⟨fun y hy=>?_,hs.sublist (List.drop_sublist _ _)⟩,fun a ha b hb=>?_⟩
 ·obtain⟨j,h3,h4,rfl⟩:=zf hy
  rcases h2 with h2|h2
  ·omega
  ·exact hw.trans h2 (hs.le hw h3 h4)
 ·obtain⟨i,h3,h4,rfl⟩:=DA ha
  rcases gu.1 hb with rfl|hb
  ·rcases h1 with h1|h1
   ·omega
   ·exact hw.trans (hs.le hw (show i≤t-1 by omega)  oM) h1
  ·obtain⟨j,h5,h6,rfl⟩:=zf hb
   exact hs.le hw  oM h6
theorem WB{α:Type}{s:List α}{x:α}{t:Nat}:(s.take t++x::s.drop t).Perm (x::s):=by
 refine(Fs).trans (.cons _ ?_)
 rw [nm]
theorem ail(hw:su lt){x y z1 z2:List α}{u v:Nat}(hx:cP lt x)(hy:cP lt y)(h1:z1.Perm (x.take u++y.take v))(h2:z2.Perm (x.drop u++y.drop v))(s1:cP lt z1)(s2:cP lt z2)
  (hu:u≤x.length)(hv:v≤y.length)(hA:u=0∨v=y.length∨lt (Hr.aa y v) (Hr.aa x (u-1))=false)(hB:v=0∨u=x.length∨lt (Hr.aa y (v-1)) (Hr.aa x u)=true):cP lt (z1++z2):=by
 refine pq.2 ⟨s1,s2,fun a ha b hb=>?_⟩
 have B9:=h1.mem_iff.1 ha
 have l9:=h2.mem_iff.1 hb
 rcases dK.1 B9 with B9|B9<;>rcases dK.1 l9 with l9|l9
 ·obtain⟨i,h3,h4,rfl⟩:=DA B9
  obtain⟨j,h5,h6,rfl⟩:=zf l9
  exact hx.le hw  oM h6
 ·obtain⟨i,h3,h4,rfl⟩:=DA B9
  obtain⟨j,h5,h6,rfl⟩:=zf l9
  rcases hA with h|h|h
  ·omega
  ·omega
  ·exact hw.trans (hw.trans (hx.le hw (show i≤u-1 by omega)  oM) h) (hy.le hw h5 h6)
 ·obtain⟨i,h3,h4,rfl⟩:=DA B9
  obtain⟨j,h5,h6,rfl⟩:=zf l9
  rcases hB with h|h|h
  ·omega
  ·omega
  ·exact hw.trans (hw.trans (hy.le hw (show i≤v-1 by omega)  oM) (hw.F5 h)) (hx.le hw h5 h6)
 ·obtain⟨i,h3,h4,rfl⟩:=DA B9
  obtain⟨j,h5,h6,rfl⟩:=zf l9
  exact hy.le hw  oM h6
theorem aim{α:Type}{x y z1 z2:List α}{u v:Nat}(h1:z1.Perm (x.take u++y.take v))(h2:z2.Perm (x.drop u++y.drop v)):(z1++z2).Perm (x++y):=by
 refine(h1.append h2).trans ?_
 have e:(x++y).Perm ((x.take u++x.drop u)++(y.take v++y.drop v)):=by rw [nm,nm]
 refine List.Perm.trans ?_ e.symm
 rw [bj,bj]
 refine List.Perm.append_left _ ?_
 rw [←bj,←bj]
 exact List.Perm.append_right _ Ma
def sS(lt:α→α→Bool)(p x y s d:List α):Prop:=∃z,z.Perm (x++y)∧cP lt z∧d=p++(z++s)
theorem ain{s:List α}{t:α}{r:List α}{j:Nat}(h:j<s.length):((fw s t r j).set j (aa s j)).set (j+1) t=fw s t r (j+1):=by
 have h1:(s.take j).length=j:=by rw [fN];omega
 unfold fw
 rw [Kj  oM,ku h]
 have e:s.take j++aa s j::(aa s j::s.drop (j+1)++r)=(s.take j++ [aa s j])++aa s j::(s.drop (j+1)++r):=by simp
 rw [e,Kj (by simp;omega),nR h]
theorem aio{s:List α}{t:α}{r:List α}{j:Nat}(h:j<s.length):aa (fw s t r j) (j+1)=aa s j:=by
 have h1:(s.take j).length=j:=by rw [fN];omega
 unfold fw
 rw [ku h]
 have e:s.take j++t::(aa s j::s.drop (j+1)++r)=(s.take j++ [t])++aa s j::(s.drop (j+1)++r):=by simp
 rw [e]
 exact OT (by simp;omega)
theorem G1{α:Type}{p l:List α}{i j:Nat}{v:α}(h:i=p.length+j):(p++l).set i v=p++l.set j v:=by
 subst h;rw [C9 _ _  oM,Nat.add_sub_cancel_left]
theorem rQ{p x r:List α}{i k:Nat}(hi:i=p.length+k)(hk:k<x.length):aa (p++(x++r)) i=aa x k:=by
 rw [nA hi,Wu hk]
theorem Eh{p x y r:List α}{i k:Nat}(hi:i=p.length+x.length+k)(hk:k<y.length):aa (p++(x++(y++r))) i=aa y k:=by
 rw [nA (j:=x.length+k)  oM,nA rfl,Wu hk]
theorem WC{α:Type}{p x r:List α}{i k:Nat}{v:α}(hi:i=p.length+k)(hk:k<x.length):(p++(x++r)).set i v=p++(x.set k v++r):=by
 rw [G1 hi,List.set_append_left _ _ hk]
theorem WD{p s:List α}{t:α}{r:List α}{i i' j:Nat}(h:j<s.length)(hi:i=p.length+j)(iJ:i'=p.length+(j+1)):((p++fw s t r j).set i (aa s j)).set i' t=p++fw s t r (j+1):=by
 rw [G1 hi,G1 iJ,ain h]
theorem WE{p s:List α}{t:α}{r:List α}{i i' j:Nat}(h:j+1≤s.length)(hi:i=p.length+(j+1))(iJ:i'=p.length+j):((p++fw s t r (j+1)).set i (aa s j)).set i' t=p++fw s t r j:=by
 rw [G1 hi,G1 iJ,M6 h]
theorem Kk{p s:List α}{t:α}{r:List α}{i j:Nat}(h:j≤s.length)(hi:i=p.length+j):aa (p++fw s t r j) i=t:=by
 rw [nA hi,Bm h]
theorem WG{p s:List α}{t:α}{r:List α}{i j:Nat}(h:j<s.length)(hi:i=p.length+(j+1)):aa (p++fw s t r j) i=aa s j:=by
 rw [nA hi,aio h]
theorem WH{p s:List α}{t:α}{r:List α}{i j:Nat}(h:j+1≤s.length)(hi:i=p.length+j):aa (p++fw s t r (j+1)) i=aa s j:=by
 rw [nA hi,Bn h]
theorem kU{α:Type}{p s:List α}{t:α}{r:List α}{j:Nat}(h:j≤s.length):(p++fw s t r j).length=p.length+(s.length+(1+r.length)):=by
 rw [ay,Dx h];omega
theorem WI{α:Type}{p s:List α}{t:α}{r:List α}{j:Nat}:p++fw s t r j=p++((s.take j++t::s.drop j)++r):=by simp [fw]
theorem WJ{p s:List α}{t:α}{r q:List α}{i i' j:Nat}(h:j+1≤s.length)(hi:i=p.length+(j+1))(iJ:i'=p.length+j):((p++(fw s t r (j+1)++q)).set i (aa s j)).set i' t=p++(fw s t r j++q):=by
 rw [WC hi (by rw [Dx h];omega),WC iJ (by rw [fU,Dx h];omega),M6 h]
theorem WK(hw:su lt){p y s:List α}{a:α}{i:Nat}(hy:cP lt y)(hi:i≤y.length)(h1:i=0∨lt (Hr.aa y (i-1)) a=true)(h2:i=y.length∨lt (Hr.aa y i) a=false):sS lt p [a] y s (p++fw y a s i):=
 ⟨_,WB,WA hw hy hi (h1.imp_right fun h=>hw.F5 h) h2,WI⟩
theorem WL(hw:su lt){p x s:List α}{b:α}{i:Nat}(hx:cP lt x)(hi:i≤x.length)(h1:i=0∨lt b (Hr.aa x (i-1))=false)(h2:i=x.length∨lt b (Hr.aa x i)=true):sS lt p x [b] s (p++fw x b s i):=
 ⟨_,WB.trans (Ma (l₁:= [b])),WA hw hx hi h1 (h2.imp_right fun h=>hw.F5 h),WI⟩
theorem eD(hw:su lt){p x y s z1 z2 d:List α}{u v:Nat}(hx:cP lt x)(hy:cP lt y)(h1:z1.Perm (x.take u++y.take v))(h2:z2.Perm (x.drop u++y.drop v))(s1:cP lt z1)(s2:cP lt z2)
  (hu:u≤x.length)(hv:v≤y.length)(hA:u=0∨v=y.length∨lt (Hr.aa y v) (Hr.aa x (u-1))=false)(hB:v=0∨u=x.length∨lt (Hr.aa y (v-1)) (Hr.aa x u)=true)(hd:d=p++(z1++(z2++s))):sS lt p x y s d:=
 ⟨z1++z2,aim h1 h2,ail hw hx hy h1 h2 s1 s2 hu hv hA hB,by rw [hd,bj]⟩
theorem Kl{α:Type}{x y r:List α}{u v:Nat}(h:u=x.length∨v=0):x++(y++r)=x.take u++(y.take v++(x.drop u++(y.drop v++r))):=by
 rcases h with h|h
 ·subst h;simp only [px,List.drop_length,Fg];rw [←bj (y.take v),nm]
 ·subst h;simp only [List.take_zero,List.drop_zero,Fg];rw [←bj (x.take u),nm]
theorem WM{α:Type}{x y r:List α}{u v:Nat}:x++(y++r)=x.take u++(x.drop u++(y.take v++(y.drop v++r))):=by
 rw [←bj (x.take u),nm,←bj (y.take v),nm]
theorem cP.drop{α:Type}{lt:α→α→Bool}{l:List α}(h:cP lt l)(k:Nat):cP lt (l.drop k):=h.sublist (List.drop_sublist _ _)
theorem tM{α:Type}{lt:α→α→Bool}{x y:List α}{u v:Nat}(hx:cP lt x)(hy:cP lt y)(h:u=0∨v=0):cP lt (x.take u++y.take v):=by
 rcases h with h|h
 ·subst h;rw [List.take_zero,Fg];exact hy.take _
 ·subst h;rw [List.take_zero,gZ];exact hx.take _
theorem gL{α:Type}{lt:α→α→Bool}{x y:List α}{u v:Nat}(hx:cP lt x)(hy:cP lt y)(h:u=x.length∨v=y.length):cP lt (x.drop u++y.drop v):=by
 rcases h with h|h
 ·subst h;rw [List.drop_length,Fg];exact hy.drop _
 ·subst h;rw [List.drop_length,gZ];exact hx.drop _
theorem nE(y:Int):y.fdiv (2^(min (1:Int).toNat IntKind.u64.bits))=y/2:=by
 show y.fdiv 2=y/2
 exact Mc _ (by decide)
theorem uw{y:Int}(h:0≤y∧y<18446744073709551616):IntKind.u64.wrap y=y:=by
 simp [IntKind.wrap,IntKind.bits,IntKind.signed];omega
end
section
variable{α:Type}{lt:α→α→Bool}{B:Nat}{d a z:List α}
def oe(lt:α→α→Bool)(B:Nat)(d:List α):Prop:=∃bs:List (List α),d=bs.flatten∧∀b∈bs,b.length=B∧cP lt b
def nF(lt:α→α→Bool)(B:Nat)(d:List α):Prop:=∃a r,d=a++r∧oe lt B a∧cP lt r∧r.length<B
theorem oe.nil{lt:α→α→Bool}{B:Nat}:oe lt B []:=⟨[],rfl,by simp⟩
theorem oe.n3(h:oe lt B d)(hl:z.length=B)(hs:cP lt z):oe lt B (d++z):=by
 obtain⟨bs,rfl,hb⟩:=h
 refine⟨bs++ [z],by simp,fun b h=>?_⟩
 rcases dK.1 h with h|h
 ·exact hb b h
 ·rw [c_.1 h];exact⟨hl,hs⟩
theorem oe.aip{x y:List α}{bs:List (List α)}(hb:∀b∈x::y::bs,b.length=B∧cP lt b):oe lt B bs.flatten:=⟨bs,rfl,fun b h=>hb b (by simp [h])⟩
theorem nF.of(h:oe lt B a)(hs:cP lt z)(hl:z.length<B):nF lt B (a++z):=⟨a,z,rfl,h,hs,hl⟩
theorem nF.WN(h:nF lt B d)(hl:2*B≤d.length):∃x y r,d=x++(y++r)∧x.length=B∧y.length=B∧cP lt x∧cP lt y∧nF lt B r:=by
 obtain⟨a,r,rfl,⟨bs,rfl,hb⟩,hs,hr⟩:=h
 match bs,hb with
 | [],_=>simp at hl;omega
 | [x],hb=>
  have:=(hb x sM).1
  simp at hl;omega
 |x::y::bs,hb=>
  exact⟨x,y,bs.flatten++r,by simp,(hb x sM).1,(hb y sM).1,(hb x sM).2,(hb y sM).2,_,_,rfl,oe.aip hb,hs,hr⟩
theorem nF.cL(h:nF lt B d)(h1:B<d.length)(h2:d.length<2*B):∃x y,d=x++y∧x.length=B∧0<y.length∧cP lt x∧cP lt y:=by
 obtain⟨a,r,rfl,⟨bs,rfl,hb⟩,hs,hr⟩:=h
 match bs,hb with
 | [],_=>simp at h1;omega
 | [x],hb=>
  have:=(hb x sM).1
  simp at h1
  exact⟨x,r,by simp,this,oM,(hb x sM).2,hs⟩
 |x::y::bs,hb=>
  have e1:=(hb x sM).1
  have e2:=(hb y sM).1
  simp at h2;omega
theorem nF.one(h:nF lt B d)(hl:d.length≤B):cP lt d:=by
 obtain⟨a,r,rfl,⟨bs,rfl,hb⟩,hs,hr⟩:=h
 match bs,hb with
 | [],_=>simpa using hs
 | [x],hb=>
  have:=(hb x sM).1
  simp at hl
  have uL:r= []:=List.eq_nil_of_length_eq_zero  oM
  subst uL
  simpa using (hb x sM).2
 |x::y::bs,hb=>
  have e1:=(hb x sM).1
  have e2:=(hb y sM).1
  simp at hl;omega
end
end au
structure aK where
 on:Int
 off:Int
 aG:Int
 part:Int
 st:Int
 vo:Int
 es:Int
 en:Int
 hd:Nat
instance:Inhabited aK:=⟨⟨0,0,0,0,0,0,0,0,0⟩⟩
def aK.enc(x:aK):List Value:= [.int .i64 x.on,.int .i64 x.off,.int .i64 x.aG,.int .i64 x.part,.int .i64 x.st,.int .i64 x.vo,.int .i64 x.es,.int .i64 x.en,.int .i64 (x.hd:Int)]
def vN(x:aK):Int:=151200+(x.off-x.on)
def dj(ns:List aK):Int:=gz (ns.map vN)
def p8(x:aK)(o:Int):aK:={x with off:=o}
theorem G2{a b:List aK}:dj (a++b)=dj a+dj b:=by simp [dj,B7]
theorem OU{x:aK}:dj [x]=vN x:=by simp [dj,gz]
theorem OV{o:Int}:∀{ns:List aK} {k:Nat},k<ns.length→dj (ns.set k (p8 (aa ns k) o))=dj ns+o-(aa ns k).off
 |x::ns,0,_=>by
  have e1:dj (p8 x o::ns)=vN (p8 x o)+dj ns:=rfl
  have e2:dj (x::ns)=vN x+dj ns:=rfl
  have e3:vN (p8 x o)=vN x+o-x.off:=by simp [vN,p8];omega
  show dj (p8 x o::ns)=dj (x::ns)+o-x.off
  omega
 |x::ns,k+1,h=>by
  have ih:=OV (o:=o) (ns:=ns) (k:=k) (by simpa using h)
  have e:aa (x::ns) (k+1)=aa ns k:=by simp [aa]
  rw [e,List.set_cons_succ]
  have e1:∀l,dj (x::l)=vN x+dj l:=fun l=>rfl
  rw [e1,e1,ih];omega
def il(f:Value→Option Value)(ns:List aK)(lo hi:Int):Prop:=∀p v,f p=some v→∃k:Nat,v= .int .i64 (k:Int)∧k<ns.length∧lo≤(aa ns k).off∧(aa ns k).off≤hi
theorem il.none{ns:List aK}{lo hi:Int}:il (fun _=>none) ns lo hi:=fun p v h=>by cases h
theorem il.set{f:Value→Option Value}{ns:List aK}{lo hi o:Int}{k:Nat}(h:il f ns lo hi)(hk:k<ns.length)(ho:lo≤o∧o≤hi):il f (ns.set k (p8 (aa ns k) o)) lo hi:=fun p v hv=>by
 obtain⟨q,rfl,hq,h1,h2⟩:=h p v hv
 refine⟨q,rfl,by rw [fU];exact hq,?_⟩
 rw [D7 hk]
 split
 ·exact ho
 ·exact⟨h1,h2⟩
theorem il.eN{f:Value→Option Value}{ns:List aK}{lo hi:Int}{x:aK}(h:il f ns lo hi):il f (ns++ [x]) lo hi:=fun p v hv=>by
 obtain⟨q,rfl,hq,h1,h2⟩:=h p v hv
 exact⟨q,rfl,by simp;omega,by rw [rE hq];exact h1,by rw [rE hq];exact h2⟩
theorem il.kD{f:Value→Option Value}{ns:List aK}{lo hi:Int}{p:Value}{k:Nat}(h:il f ns lo hi)(hk:k<ns.length)(ho:lo≤(aa ns k).off∧(aa ns k).off≤hi):il (Hr.kD f p (.int .i64 (k:Int))) ns lo hi:=fun q v hv=>by
 by_cases e:q=p
 ·subst e
  rw [uU]at hv
  cases hv
  exact⟨k,rfl,hk,ho⟩
 ·rw [tJ e]at hv
  exact h q v hv
theorem il.lo{f:Value→Option Value}{ns:List aK}{lo WO hi iJ:Int}(h:il f ns lo hi)(h1:WO≤lo)(h2:hi≤iJ):il f ns WO iJ:=fun p v hv=>by
 obtain⟨q,rfl,hq,g1,g2⟩:=h p v hv
 exact⟨q,rfl,hq,oM,oM⟩
theorem aiq{ns:List aK}{x y:aK}:((ns++ [x]).map aK.enc).set ns.length y.enc=(ns++ [y]).map aK.enc:=by
 rw [bT,bT,C9 _ _ sM]
 simp
theorem air{ns:List aK}{k:Nat}{y:aK}:(ns.map aK.enc).set k y.enc=(ns.set k y).map aK.enc:=by rw [iu]
theorem WQ{ns:List aK}{k:Nat}{y x:aK}(h:x∈ns.set k y):x∈ns∨x=y:=Fi h
def mz(v:Value):Prop:=∃i:eB,v=i.val
theorem eB.key(i:eB):mz i.val:=⟨i,rfl⟩
def sT(h:Hd):eB:=⟨h.step,h.dw,h.eK⟩
def nN(h:Hd):Int:=if gj h.step h.dw h.eK<0 then 0 else gj h.step h.dw h.eK
theorem OW(h:Hd):0≤nN h∧nN h≤127:=by
 have:=Ng h.step h.dw h.eK
 unfold nN
 split<;>omega
theorem OX:∀l:List Int,Ky.ky l=lQ l
 | []=>rfl
 |x::l=>by
  have ih:=OX l
  simp only [Ky.ky,lQ]
  rw [ih]
  by_cases h:x=0<;>simp [h]
def d_(x:aK):List Int:= [x.on,x.aG,x.part,x.st,x.vo,x.off,x.es,x.en,(x.hd:Int)]
theorem ais{a b:aK}:lQ [ef a.on b.on,ef a.aG b.aG,ef a.part b.part,ef a.st b.st,ef a.vo b.vo,ef a.off b.off,ef a.es b.es,ef a.en b.en,ef (a.hd:Int) (b.hd:Int)]=Ky.mS (d_ a) (d_ b):=
 (OX _).symm.trans (Ky.Jr (d_ a) (d_ b))
theorem iQ:au.su (Ky.bo d_):=Ky.Ua (n:=9) fun _=>rfl
structure aF where
 on:Int
 off:Int
 aG:Int
 uY:Int
 part:Int
 es:Int
 en:Int
instance:Inhabited aF:=⟨⟨0,0,0,0,0,0,0⟩⟩
def aF.enc(x:aF):List Value:= [.int .i64 x.on,.int .i64 x.off,.int .i64 x.aG,.int .i64 x.uY,.int .i64 x.part,.int .i64 x.es,.int .i64 x.en]
def dS(x:aF):List Int:= [x.on,x.aG,x.part,x.off,x.uY,x.es,x.en]
theorem ait{a b:aF}:lQ [ef a.on b.on,ef a.aG b.aG,ef a.part b.part,ef a.off b.off,ef a.uY b.uY,ef a.es b.es,ef a.en b.en]=Ky.mS (dS a) (dS b):=
 (OX _).symm.trans (Ky.Jr (dS a) (dS b))
theorem iR:au.su (Ky.bo dS):=Ky.Ua (n:=7) fun _=>rfl
namespace Ls
def _root_.Go.Proofs.YtafaoccjbifbaaaGreat.aF.val(p:aF):Value:= .agg p.enc.toArray
structure cJ where
 m_:Int
 ga:Int
 h_:Int
 na:Int
 cM:Int
instance:Inhabited cJ:=⟨⟨0,0,0,0,0⟩⟩
def cJ.enc(c:cJ):List Value:= [.int .i64 c.m_,.int .i64 c.ga,.int .i64 c.h_,.int .i64 c.na,.int .i64 c.cM]
def cJ.val(c:cJ):Value:= .agg c.enc.toArray
structure qK where
 bf:Int
 aiu:Int
 aiv:Int
instance:Inhabited qK:=⟨⟨0,0,0⟩⟩
def qK.enc(p:qK):List Value:= [.int .i64 p.bf,.int .i64 p.aiu,.int .i64 p.aiv]
def fI(n lo hi:Int):Bool:=decide (lo≤n)&&decide (n≤hi)
def p9(p:aF):Bool:=fI p.on 0 1125899906842624&&fI p.off p.on 1125899906842624&&fI p.aG 0 127&&fI p.uY 1 127&&decide (0≤p.part)
def bP(n:Int):List Value:= [.int .i64 n]
def zQ:List Int→Int
 | []=>0
 |e::r=>if e≠0 then e else zQ r
def cI(f:Nat→Int):Nat→Nat→Int
 |0,_=>0
 |n+1,i=>if f i≠0 then f i else cI f n (i+1)
def tN(l:List aF)(i:Nat):Int:=if p9 (aa l i)=false then 2 else if 0<i∧(aa l i).on<(aa l (i-1)).on then 25 else 0
def nf(l:List aF):Int:=if 1024<l.length then 9 else cI (tN l) l.length 0
def cJ.all(c:cJ):List Int:= [c.m_,c.ga,c.h_,c.na,c.cM]
def zR(c:cJ):Int:=cI (fun i=>if fI (aa c.all i) 0 1000000 then 0 else 2) 5 0
theorem uv{f:Nat→Int}{n i:Nat}(h:i<n)(h0:f i=0):cI f (n-i) i=cI f (n-(i+1)) (i+1):=by
 rw [show n-i=n-(i+1)+1 from oM,cI,aB (by simp [h0])]
theorem tp{f:Nat→Int}{n i:Nat}(h:i<n)(h0:f i≠0):cI f (n-i) i=f i:=by
 rw [show n-i=n-(i+1)+1 from oM,cI,aH h0]
def o3(c:cJ)(a b:aF):Int:=c.na*min c.cM (max (a.on-b.on) (b.on-a.on))/1000+(if a.aG=b.aG then 0 else c.m_)
def xX(a b:aF):Int:=if a.aG=b.aG then 1 else 2
def a7(c:cJ):List aF→List aF→Int
 | [],b=>(b.length:Int)*c.h_
 |x::a, []=>((x::a).length:Int)*c.ga
 |x::a,y::b=>min (min (o3 c x y+a7 c a b) (c.ga+a7 c a (y::b))) (c.h_+a7 c (x::a) b)
termination_by a b=>a.length+b.length
def jb(c:cJ):List aF→List aF→Nat→Nat→List qK
 | [], [],_,_=> []
 | [],_::b,i,k=>⟨4,-1,k⟩::jb c [] b i (k+1)
 |_::a, [],i,k=>⟨3,i,-1⟩::jb c a [] (i+1) k
 |x::a,y::b,i,k=>
  if a7 c (x::a) (y::b)=o3 c x y+a7 c a b then⟨xX x y,i,k⟩::jb c a b (i+1) (k+1)
  else if a7 c (x::a) (y::b)=c.ga+a7 c a (y::b)then⟨3,i,-1⟩::jb c a (y::b) (i+1) k
  else⟨4,-1,k⟩::jb c (x::a) b i (k+1)
termination_by a b=>a.length+b.length
structure sU(c:cJ):Prop where
 w:0≤c.m_∧c.m_≤1000000
 m:0≤c.ga∧c.ga≤1000000
 e:0≤c.h_∧c.h_≤1000000
 t:0≤c.na∧c.na≤1000000
 l:0≤c.cM∧c.cM≤1000000
def tO(p:aF):Prop:=0≤p.on∧p.on≤1125899906842624
theorem WR{x y:Int}(hx:0≤x∧x≤1000000)(hy:0≤y∧y≤1000000):0≤x*y∧x*y≤1000000000000:=by
 refine⟨py hx.1 hy.1,?_⟩
 have h1:x*y≤1000000*y:=nk hx.2 hy.1
 omega
theorem aiw{n:Nat}{y:Int}(hn:n≤2048)(hy:0≤y∧y≤1000000):0≤(n:Int)*y∧(n:Int)*y≤(n:Int)*1000000:=by
 refine⟨py  oM hy.1,yV hy.2  oM⟩
theorem G3{c:cJ}(hc:sU c)(a b:aF):0≤o3 c a b∧o3 c a b≤1001000000:=by
 have h1:=WR hc.t (y:=min c.cM (max (a.on-b.on) (b.on-a.on))) (by have:=hc.l;omega)
 have h2:=hc.w
 unfold o3
 split<;>omega
theorem Kn(c:cJ)(x:aF)(a:List aF):a7 c (x::a) []=c.ga+a7 c a []:=by
 cases a with
 |nil=>simp [a7]
 |cons y a=>simp only [a7,eF];rw [xk,xl];omega
theorem OY(c:cJ)(y:aF)(b:List aF):a7 c [] (y::b)=c.h_+a7 c [] b:=by
 simp only [a7,eF];rw [xk,xl];omega
theorem qL{c:cJ}(hc:sU c):∀(a b:List aF),0≤a7 c a b∧a7 c a b≤((a.length+b.length:Nat):Int)*1000000
 | [],b=>by
  induction b with
  |nil=>simp [a7]
  |cons y b ih=>rw [OY];simp only [eF,dL]at*;have:=hc.e;omega
 |x::a, []=>by
  rw [Kn]
  have ih:=qL hc a []
  simp only [eF,dL]at*;have:=hc.m;omega
 |x::a,y::b=>by
  have h1:=qL hc a b
  have h2:=qL hc a (y::b)
  have h3:=qL hc (x::a) b
  have hj:=G3 hc x y
  have:=hc.m;have:=hc.e
  rw [a7]
  simp only [eF]at*
  omega
termination_by a b=>a.length+b.length
def p_(c:cJ)(a b:List aF):List Int:=(List.range (b.length+1)).map fun k=>a7 c a (b.drop k)
theorem zT{c:cJ}{a b:List aF}{k:Nat}(h:k≤b.length):((p_ c a b).map bP)[k]?=some [.int .i64 (a7 c a (b.drop k))]:=by
 simp [p_,bP,show k<b.length+1 from oM]
def og(c:cJ)(a b:List aF)(s:Nat):List Int:=(List.range (b.length+1)).map fun k=>if b.length+1≤k+s then a7 c a (b.drop k)else 0
theorem aix(c:cJ)(a b:List aF):(og c a b 0).map bP=List.replicate (b.length+1) [.int .i64 0]:=by
 apply ud
 intro k
 by_cases h:k<b.length+1
 ·have:¬b.length+1≤k:=oM
  simp [og,bP,h,this]
 ·simp [og,h]
theorem aiy(c:cJ)(a b:List aF):og c a b (b.length+1)=p_ c a b:=by simp [og,p_]
theorem WS{c:cJ}{a b:List aF}{s k:Nat}(h:k≤b.length)(hs:b.length+1≤k+s):((og c a b s).map bP)[k]?=some [.int .i64 (a7 c a (b.drop k))]:=by
 simp [og,bP,show k<b.length+1 from oM,hs]
theorem OZ{c:cJ}{a b:List aF}{s k:Nat}{v:Int}(h:k≤b.length)(hs:k+s=b.length)(hv:v=a7 c a (b.drop k)):((og c a b s).map bP).set k [.int .i64 v]=(og c a b (s+1)).map bP:=by
 apply ud
 intro j
 rw [yT]
 by_cases hj:k=j
 ·subst hj
  rw [aH rfl,WS h  oM,aH (by simp [og];omega),hv]
 ·rw [aB hj]
  by_cases WT:j<b.length+1
  ·have e:(b.length≤j+s)=(b.length+1≤j+s):=by rw [eq_iff_iff];omega
   have e2:(b.length+1≤j+(s+1))=(b.length+1≤j+s):=by rw [eq_iff_iff];omega
   simp only [og,oy,List.getElem?_range WT,ua,e2]
  ·simp [og,WT]
def Ei(m g:Nat):Value:= .slice (some ⟨g,0,none⟩) (m+1) (m+1)
def qa(n m:Nat)(gs:List Nat):List (List Value):=List.replicate (n+1-gs.length) [.slice none 0 0]++gs.map fun g=> [Ei m g]
theorem aiz(n m:Nat):qa n m []=List.replicate (n+1) [.slice none 0 0]:=by simp [qa]
theorem aiA{n m g i:Nat}{gs:List Nat}(h:gs.length+(i+1)=n+1):(qa n m gs).set i [Ei m g]=qa n m (g::gs):=by
 have h1:n+1-gs.length=i+1:=oM
 have h2:n+1-(g::gs).length=i:=by simp;omega
 rw [qa,qa,h1,h2,List.replicate_succ',bj,C9 _ _ sM]
 simp
theorem sV{n m:Nat}{gs:List Nat}(h:gs.length≤n+1):(qa n m gs).length=n+1:=by simp [qa];omega
theorem O0{n m t:Nat}{gs:List Nat}(h:t<gs.length)(hl:gs.length≤n+1):(qa n m gs)[n+1-gs.length+t]?=some [Ei m (aa gs t)]:=by
 rw [qa,xi sM]
 simp [aa,h]
def wG(c:cJ)(a b:List aF):List Nat→List an
 | []=> []
 |g::gs=> .ae 3 1 (some ⟨g,0,none⟩) (b.length+1) (b.length+1) ((p_ c (a.drop (a.length-gs.length)) b).map bP)::wG c a b gs
theorem O6{c:cJ}{a b:List aF}:∀{gs:List Nat} {t:Nat},t<gs.length→gs.length≤a.length+1→
  an.ae 3 1 (some ⟨aa gs t,0,none⟩) (b.length+1) (b.length+1) ((p_ c (a.drop (a.length+1-gs.length+t)) b).map bP)∈wG c a b gs
 | [],t,h,_=>by simp at h
 |g::gs,0,h,hl=>by
  simp only [eF]at hl
  simp only [wG,eF,AP]
  rw [show a.length+1-(gs.length+1)=a.length-gs.length from oM]
  exact fi
 |g::gs,t+1,h,hl=>by
  simp only [eF]at hl h
  have:=O6 (c:=c) (a:=a) (b:=b) (gs:=gs) (t:=t)  oM oM
  rw [show a.length+1-(g::gs).length+(t+1)=a.length+1-gs.length+t from by simp;omega]
  exact gB _ this
theorem aiB{n m g i:Nat}{gs:List Nat}(h:gs.length+(i+1)=n+1):(qa n m (g::gs))[i]?=some [Ei m g]:=by
 have:=O0 (n:=n) (m:=m) (t:=0) (gs:=g::gs)  sM  (by simp;omega)
 rw [show n+1-(g::gs).length+0=i from by simp;omega]at this
 exact this
theorem aiC{n m g i:Nat}{gs:List Nat}(h:gs.length+(i+1)=n+1)(hi:i<n):(qa n m (g::gs))[i+1]?=some [Ei m (aa gs 0)]:=by
 have:=O0 (n:=n) (m:=m) (t:=1) (gs:=g::gs) (by simp;omega) (by simp;omega)
 rw [show n+1-(g::gs).length+1=i+1 from by simp;omega]at this
 exact this
theorem aiD{c:cJ}{a b:List aF}{gs:List Nat}{i:Nat}(h:gs.length+(i+1)=a.length+1)(hi:i<a.length):
  an.ae 3 1 (some ⟨aa gs 0,0,none⟩) (b.length+1) (b.length+1) ((p_ c (a.drop (i+1)) b).map bP)∈wG c a b gs:=by
 have:=O6 (c:=c) (a:=a) (b:=b) (gs:=gs) (t:=0)  oM oM
 rw [show a.length+1-gs.length+0=i+1 from oM]at this
 exact this
theorem aiE{n m t:Nat}{gs:List Nat}(h:gs.length=n+1)(ht:t≤n):(qa n m gs)[t]?=some [Ei m (aa gs t)]:=by
 have:=O0 (n:=n) (m:=m) (t:=t) (gs:=gs)  oM oM
 rwa [show n+1-gs.length+t=t from oM]at this
theorem tP{c:cJ}{a b:List aF}{gs:List Nat}{t:Nat}(h:gs.length=a.length+1)(ht:t≤a.length):
  an.ae 3 1 (some ⟨aa gs t,0,none⟩) (b.length+1) (b.length+1) ((p_ c (a.drop t) b).map bP)∈wG c a b gs:=by
 have:=O6 (c:=c) (a:=a) (b:=b) (gs:=gs) (t:=t)  oM oM
 rwa [show a.length+1-gs.length+t=t from oM]at this
theorem aiF{c:cJ}{a b:List aF}{g i s:Nat}{gs:List Nat}(h:gs.length+(i+1)=a.length+1)(hs:s=b.length+1):
  cm (.aZ (.ae 3 1 (some ⟨g,0,none⟩) (b.length+1) (b.length+1) ((og c (a.drop i) b s).map bP)::wG c a b gs)) (.aZ (wG c a b (g::gs))):=by
 subst hs
 rw [aiy,wG,show a.length-gs.length=i from oM]
 exact .refl
theorem xz{f:Nat→Int}:∀{n i:Nat},cI f n i=0→∀j,j<n→f (i+j)=0
 |n+1,i,h,j,hj=>by
  simp only [cI]at h
  by_cases h0:f i=0
  ·rw [aB (by simp [h0])]at h
   cases j with
   |zero=>simpa using h0
   |succ j=>
    have:=xz h j  oM
    rwa [show i+(j+1)=i+1+j from oM]
  ·rw [aH h0]at h;exact absurd h h0
theorem xB{n lo hi:Int}:fI n lo hi=true↔lo≤n∧n≤hi:=by simp [fI]
theorem Ko{l:List aF}(h:nf l=0):(∀p∈l,tO p)∧l.length≤1024:=by
 unfold nf at h
 split at h
 ·cases h
 ·refine⟨fun p hp=>?_,oM⟩
  obtain⟨j,hj,rfl⟩:=oz hp
  have h1:=xz h j hj
  rw [ub]at h1
  unfold tN at h1
  split at h1
  ·cases h1
  ·rename_i hb
   have e:aa l j=l[j]:=by simp [aa,hj]
   rw [e]at hb
   have l9:p9 l[j]=true:=by simpa using hb
   simp only [p9,fu,xB]at l9
   exact l9.1.1.1.1
theorem WU{c:cJ}(h:zR c=0):sU c:=by
 have h1:=xz h
 have k0:=h1 0  oM ;have k1:=h1 1  oM ;have k2:=h1 2  oM ;have k3:=h1 3  oM ;have k4:=h1 4  oM
 have key:∀n:Int,(if fI n 0 1000000=true then(0:Int)else 2)=0→0≤n∧n≤1000000:=by
  intro n hn
  split at hn
  ·rename_i hb;exact xB.1 hb
  ·cases hn
 exact⟨key _ k0,key _ k1,key _ k2,key _ k3,key _ k4⟩
def kC:cJ:=⟨80,50,50,1,40000⟩
theorem WV{x y:Int}(hx:0≤x∧x≤2048)(hy:0≤y∧y≤1000000):0≤x*y∧x*y≤2048000000:=by
 refine⟨py hx.1 hy.1,?_⟩
 have h1:x*y≤2048*y:=nk hx.2 hy.1
 omega
theorem G4{a:List aF}(h:∀p∈a,tO p){i:Nat}(hi:i<a.length):tO (aa a i):=by
 apply h;rw [aa,C5,kW hi];exact IM hi
theorem O7{c:cJ}{a b:List aF}{i k:Nat}(hi:i<a.length)(hk:k<b.length):jb c (a.drop i) (b.drop k) i k=
  if a7 c (a.drop i) (b.drop k)=o3 c (aa a i) (aa b k)+a7 c (a.drop (i+1)) (b.drop (k+1))then⟨xX (aa a i) (aa b k),i,k⟩::jb c (a.drop (i+1)) (b.drop (k+1)) (i+1) (k+1)
  else if a7 c (a.drop i) (b.drop k)=c.ga+a7 c (a.drop (i+1)) (b.drop k)then⟨3,i,-1⟩::jb c (a.drop (i+1)) (b.drop k) (i+1) k
  else⟨4,-1,k⟩::jb c (a.drop i) (b.drop (k+1)) i (k+1):=by
 rw [ku hi,ku hk,jb]
theorem aiG{c:cJ}{a b:List aF}{i k:Nat}(hi:i<a.length)(hk:b.length≤k):jb c (a.drop i) (b.drop k) i k=⟨3,i,-1⟩::jb c (a.drop (i+1)) (b.drop k) (i+1) k:=by
 rw [ku hi,ox hk,jb]
theorem aiH{c:cJ}{a b:List aF}{i k:Nat}(hi:a.length≤i)(hk:k<b.length):jb c (a.drop i) (b.drop k) i k=⟨4,-1,k⟩::jb c (a.drop i) (b.drop (k+1)) i (k+1):=by
 rw [ku hk,ox hi,jb]
theorem aiI{c:cJ}{a b:List aF}{i k:Nat}(hi:a.length≤i)(hk:b.length≤k):jb c (a.drop i) (b.drop k) i k= []:=by
 rw [ox hk,ox hi,jb]
theorem aiJ{c:cJ}{a b:List aF}{i k:Nat}(hi:i<a.length)(hk:k<b.length):a7 c (a.drop i) (b.drop k)=
  min (min (o3 c (aa a i) (aa b k)+a7 c (a.drop (i+1)) (b.drop (k+1))) (c.ga+a7 c (a.drop (i+1)) (b.drop k))) (c.h_+a7 c (a.drop i) (b.drop (k+1))):=by
 rw [ku hi,ku hk,a7]
theorem aiK{c:cJ}{a b:List aF}{i k:Nat}(hi:i<a.length)(hk:b.length≤k):a7 c (a.drop i) (b.drop k)=c.ga+a7 c (a.drop (i+1)) (b.drop k):=by
 rw [ku hi,ox hk,Kn]
theorem aiL{c:cJ}{a b:List aF}{i k:Nat}(hi:a.length≤i)(hk:k≤b.length):a7 c (a.drop i) (b.drop k)=((b.length:Int)-k)*c.h_:=by
 rw [ox hi,a7,nL];congr 1;omega
theorem aiM{c:cJ}{a b:List aF}{i k:Nat}(hi:i≤a.length)(hk:b.length≤k):a7 c (a.drop i) (b.drop k)=((a.length:Int)-i)*c.ga:=by
 rw [ox hk]
 have e:((a.length:Int)-i)=((a.drop i).length:Int):=by simp;omega
 rw [e]
 cases a.drop i with
 |nil=>simp [a7]
 |cons x l=>rw [a7]
theorem zV{c:cJ}(hc:sU c){a b:List aF}(ha:a.length≤1024)(hb:b.length≤1024)(i k:Nat):0≤a7 c (a.drop i) (b.drop k)∧a7 c (a.drop i) (b.drop k)≤2048000000:=by
 have:=qL hc (a.drop i) (b.drop k)
 simp only [nL]at this
 omega
end Ls
namespace Hr
section
variable{P:Program}{fn:Func}{R:Ending→World→Prop}{X:Nat→Prop}{W:World}{n:Nat}{k:List K}{S:St}{ah:List (Nat×Value)}{mem:List an}{M0:List an}{aq:Array Oper}{aL:Array Bool}{m:Nat}
theorem fV.WW{M1:List an}(hM:ax M1 M0){Q:Act→World→Prop}{E:Exit→Act→World→Prop}:∀{m:Nat} {aL:Array Bool} {a:Act} {w:World},fW X W M1 w→fV P aq (Dk X W M1) Q E m aL a w→fV P aq (Dk X W M0) Q E m aL a w
 |0,_,_,_,_,h=>h
 |m+1,_,_,w,hC,h=>fun w1 cB=>by
  obtain⟨h1,h2⟩:=h w1 cB
  have oE:=hC.up cB
  refine⟨h1,fun i hi=>wpOp_mono (fun a' w' h'=>?_) (h2 i hi)⟩
  have lj:fW X W M1 w':=h'.1 oE
  exact⟨fun _=>⟨lj.1,(hM _ _ _ lj.2).1⟩,fV.WW hM lj h'.2⟩
theorem fM{i:Nat}{o:Oper}{ι:Type}{φ:ι→Prop}{next:ι→St}{M1:ι→List an}(hi:aq[i]?=some o)(hw:cY aq ah o true)(h:H1 P X W n ⟨ah,mem⟩ o φ next)(Kq:∀j,φ j→ax (next j).mem (M1 j))(hM:∀j,φ j→ax (M1 j) M0)
  (hk:∀j,φ j→gp P fn R X W n k (M1 j) aq m (aL.setIfInBounds i true) (next j)):tq P fn R X W n k M0 aq m aL i ⟨ah,mem⟩:=by
 intro dd bR lp a w hs hC
 unfold wpOp
 simp only [hi]
 rw [aH (hw.eq hs)]
 refine .inl (h a w hs _ _ fun i' a' w' hφ cR=>?_)
 have oE:fW X W (M1 i') w':=⟨cR.dv,(Kq i' hφ _ _ _ cR.mem).1⟩
 have lj:fW X W M0 w':=⟨cR.dv,(hM i' hφ _ _ _ oE.2).1⟩
 exact⟨fun _=>lj,fV.WW (hM i' hφ) oE (hk i' hφ dd lp a' w' cR oE)⟩
end
end Hr
def lk{α:Type}:List (Nat×α)→Nat→Option α
 | [],_=>none
 |(k,v)::r,t=>if Nat.beq k t then some v else lk r t
theorem Ek{α:Type}:∀{l:List (Nat×α)} {t:Nat} {v:α},lk l t=some v→(t,v)∈l
 |(k,u)::r,t,v,h=>by
  by_cases e:k=t
  ·subst e;simp [lk]at h;simp [h]
  ·have e':Nat.beq k t=false:=by rw [←Bool.not_eq_true];exact fun h=>e (xf h)
   simp only [lk,e',yU,vF]at h
   exact gB _ (Ek h)
def B_:List (Nat×Nat):= [(1,1),(3,1),(4,1),(5,1),(9,1),(22,1),(23,1),(24,1),(26,4),(28,1),(29,1),(32,1),(33,1),(34,1),(35,1),(37,6),(40,5),(46,3),(53,2),(55,7),(59,1),(62,1),(65,1),(68,1),(69,1),(71,1),(72,1),(73,1),(80,9),(89,2),(91,1),(93,6),(95,3),(96,1),(98,5),(99,6),(101,8),(102,1),(103,1),(105,22),(108,1),(113,4),(115,7),(116,1),(129,1),(134,2),(139,1),(142,1),(144,3),(149,5),(154,1),(155,1),(157,2),(158,1),(159,1),(161,2),(164,2),(165,1),(166,1),(167,1),(169,13),(171,18),(184,3),(186,5),(188,3),(192,10),(201,1),(211,1),(216,3),(217,1),(218,1),(221,2),(222,1),(224,4),(233,1),(234,1),(245,3),(251,1),(258,1),(260,16),(268,10),(276,5),(284,1),(286,6),(289,4),(291,1),(304,1),(307,7),(310,1),(315,1),(321,1),(326,1),(328,4),(330,9),(332,6),(351,5),(366,7),(374,2),(384,7),(406,7),(439,63)]
def El:List (Nat×Bool):= [(1,false),(3,false),(4,false),(5,false),(9,false),(22,false),(23,false),(24,false),(26,true),(28,false),(29,false),(32,false),(33,false),(34,false),(35,false),(37,true),(40,true),(46,true),(53,true),(55,true),(59,false),(62,false),(65,false),(68,false),(69,false),(71,false),(72,false),(73,false),(80,true),(89,true),(91,false),(93,true),(95,true),(96,false),(98,true),(99,true),(101,true),(102,false),(103,false),(105,true),(108,false),(113,true),(115,true),(116,false),(129,false),(134,true),(139,false),(142,false),(144,true),(149,true),(154,false),(155,false),(157,true),(158,false),(159,false),(161,true),(164,true),(165,false),(166,false),(167,false),(169,true),(171,true),(184,true),(186,true),(188,true),(192,true),(201,false),(211,false),(217,false),(218,false),(221,true),(222,false),(224,true),(233,false),(234,false),(245,true),(251,false),(258,false),(260,true),(268,true),(276,true),(284,false),(286,true),(289,true),(291,false),(304,false),(307,true),(310,false),(315,false),(321,false),(326,false),(328,true),(330,true),(332,true),(351,true),(366,true),(374,true),(384,true),(439,true)]
def O_:List (Nat×Nat):= [(22,5),(23,98),(24,113),(27,4),(28,55),(32,93),(33,105),(34,115),(35,53),(42,46),(59,134),(62,80),(73,3),(87,9),(91,95),(96,201),(102,144),(103,157),(110,35),(116,216),(139,245),(142,149),(154,266),(155,161),(158,169),(159,289),(165,186),(166,276),(167,374),(175,192),(180,188),(199,89),(201,286),(207,29),(210,73),(214,1),(218,224),(222,340),(251,171),(258,260),(283,101),(291,164),(323,330),(344,221),(347,351),(469,184)]
def Kr:List (Nat×Nat):= [(1664,0),(1665,1),(1666,2),(1667,3),(2368,0),(2369,1),(2370,2),(2371,3),(2372,4),(2373,5),(2560,0),(2561,1),(2562,2),(2563,3),(2564,4),(2944,0),(2945,1),(2946,2),(3392,0),(3393,1),(3520,0),(3521,1),(3522,2),(3523,3),(3524,4),(3525,5),(4800,0),(4801,6),(4802,7),(4803,8),(4804,9),(4805,10),(4806,11),(4807,12),(5120,0),(5121,1),(5122,2),(5123,3),(5124,4),(5125,5),(5126,6),(5127,8),(5440,0),(5696,0),(5697,1),(5952,0),(5953,2),(5954,3),(5955,5),(6080,0),(6081,2),(6272,0),(6273,1),(6274,2),(6275,3),(6276,4),(6464,0),(6465,1),(6466,2),(6720,0),(6721,2),(6722,10),(6723,11),(6724,12),(6725,13),(6726,14),(6727,15),(6728,16),(6729,17),(6730,18),(6731,19),(6732,20),(6733,21),(7232,0),(7233,1),(7234,2),(7235,3),(7360,0),(7361,2),(7362,3),(7363,5),(7936,0),(7937,1),(7938,2),(7939,7),(8576,0),(8577,1),(9216,0),(9217,1),(9218,2),(9536,0),(9537,1),(9538,2),(9539,3),(9540,4),(9728,0),(9729,1),(10048,0),(10049,1),(10304,0),(10305,1),(10496,0),(10497,1),(10816,0),(10817,2),(10818,3),(10819,5),(10820,6),(10821,7),(10822,8),(10823,9),(10824,10),(10825,11),(10826,12),(10944,0),(10945,13),(10946,14),(10947,15),(10948,16),(10949,17),(11776,0),(11777,1),(11778,2),(11904,0),(11905,3),(11906,4),(12032,0),(12033,1),(12034,2),(12288,0),(12289,1),(12290,2),(13632,0),(13633,6),(13634,7),(13824,0),(13825,1),(14144,0),(14145,1),(14336,0),(14337,2),(14338,3),(15104,0),(15105,1),(15106,2),(15107,11),(15680,0),(15681,1),(15682,2),(16640,0),(16641,1),(16642,2),(16643,3),(17152,0),(17153,8),(17154,9),(17664,0),(17665,3),(17666,4),(18304,0),(18305,1),(18306,2),(18307,3),(18308,4),(18309,5),(18496,0),(18497,1),(18498,2),(18499,3),(19648,0),(19649,1),(19650,2),(19651,3),(19652,4),(19653,5),(19654,6),(20992,0),(20993,1),(20994,2),(20995,3),(21120,0),(21121,1),(21122,5),(21248,0),(21249,1),(21250,2),(21251,3),(21252,4),(21253,5),(22464,0),(22465,1),(22466,2),(22467,3),(22468,4),(23936,0),(23937,1),(24576,0),(24577,1),(24578,2),(24579,3),(24580,4),(24581,5),(24582,6)]
def Kt:List (Nat×List Value×Nat×Nat):= [(1,([.nilFunc],1,8)),(3,([zz],1,8)),(4,([.bool false],1,1)),(9,([.string (ByteArray.mk #[])],1,16)),(28,([zq],1,24)),(29,([zz],1,8)),(35,([zq],1,24)),(37,([.string (ByteArray.mk #[]),.bool false,zq,zq,zq,zq],6,120)),(40,([zz,zz,zz,zz,zz],5,40)),(46,([zz,zz,zz],3,24)),(53,([zz,zz],2,16)),(55,([zz,zz,zz,zz,zz,zz,zz],7,56)),(59,([zq],1,24)),(62,([zq],1,24)),(73,([zq],1,24)),(80,([zz,zz,zz,zz,zz,zz,zz,zz,zz],9,72)),(89,([zz,zz],2,16)),(93,([zz,zz,.string (ByteArray.mk #[]),zz,zz,zq],6,72)),(95,([zz,zz,zz],3,24)),(98,([.int .u8 0,.int .u8 0,.int .u8 0,.int .u8 0,zq],5,32)),(101,([zz,zz,zz,zz,zz,zz,zz,zz],8,64)),(105,([zz,zz,zz,zz,zz,zz,zz,zz,zz,zz,zz,zz,.bool false,zz,zz,zz,zz,zz,zz,.string (ByteArray.mk #[]),zq,zq],22,216)),(113,([.int .u8 0,.int .u8 0,.int .u8 0,.int .u8 0],4,4)),(115,([zz,zz,zz,zz,zz,zz,zz],7,56)),(129,([.map none],1,8)),(134,([zz,zz],2,16)),(144,([zz,zz,.bool false],3,24)),(149,([zz,zz,zz,zz,zz],5,40)),(157,([zq,zq],2,48)),(159,([zq],1,24)),(161,([zq,zq],2,48)),(164,([zz,zz],2,16)),(169,([zz,zz,zz,zz,zz,zq,zq,zz,zz,zz,zq,zz,zz],13,152)),(171,([zz,zz,zz,zz,zz,zq,zq,zz,zz,zz,zq,zz,zz,zz,zz,zz,zz,zz],18,192)),(184,([zz,zz,zz],3,24)),(186,([zz,zz,zz,.bool false,zz],5,40)),(188,([zz,zz,zz],3,24)),(192,([zz,zz,zz,zz,zz,zz,zz,zz,zz,zz],10,80)),(216,([zz,zz,zz],3,24)),(218,([zq],1,24)),(221,([zz,zz],2,16)),(224,([zz,zz,zq,zz],4,48)),(245,([zz,zz,.bool false],3,24)),(251,([zq],1,24)),(258,([zq],1,24)),(260,([zz,zz,.bool false,zz,zz,zz,zz,zz,zq,zq,zz,zz,zz,zq,zz,zz],16,176)),(268,([zz,zz,zz,zz,zz,zz,zz,zz,zz,zz],10,80)),(276,([zz,zz,zz,zz,.bool false],5,40)),(286,([.int .u8 0,.int .u8 0,.int .u8 0,.int .u8 0,.bool false,.int .u16 0],6,8)),(289,([zz,zz,zz,zz],4,32)),(307,([zz,zz,zz,zz,zz,zz,zz],7,56)),(310,([.nilFunc],1,8)),(315,([.nilFunc],1,8)),(321,([.map none],1,8)),(328,([zz,zz,zz,zz],4,32)),(330,([zz,zz,zz,zz,zz,zz,zz,zz,zz],9,72)),(332,([.bool false,zz,zz,zz,.bool false,zz],6,48)),(351,([zz,zz,zz,zz,zz],5,40)),(366,([zz,zz,zz,zz,zz,zz,zz],7,56)),(374,([.string (ByteArray.mk #[]),zz],2,24)),(384,([.string (ByteArray.mk #[]),.int .u8 0,zz,zz,zz,zz,zz],7,64)),(406,([.nilFunc,.nilFunc,.nilFunc,.nilFunc,.nilFunc,.nilFunc,.nilFunc],7,56)),(439,([.string (ByteArray.mk #[]),.int .u8 0,zz,zz,zz,zz,zz,.string (ByteArray.mk #[]),.int .u8 0,zz,zz,zz,zz,zz,.string (ByteArray.mk #[]),.int .u8 0,zz,zz,zz,zz,zz,.string (ByteArray.mk #[]),.int .u8 0,zz,zz,zz,zz,zz,.string (ByteArray.mk #[]),.int .u8 0,zz,zz,zz,zz,zz,.string (ByteArray.mk #[]),.int .u8 0,zz,zz,zz,zz,zz,.string (ByteArray.mk #[]),.int .u8 0,zz,zz,zz,zz,zz,.string (ByteArray.mk #[]),.int .u8 0,zz,zz,zz,zz,zz,.string (ByteArray.mk #[]),.int .u8 0,zz,zz,zz,zz,zz],63,576))]
theorem aiN:(Kt.map fun e=>(prog.info? e.1).map fun i=>(i.zero.map (·.cells.toList),i.size,i.bytes))=Kt.map fun e=>some (some e.2.1,e.2.2.1,e.2.2.2):=by kernel_rfl
theorem aiO:(B_.all fun e=>match prog.info? e.1 with|some i=>Nat.beq i.size e.2|none=>false)=true:=by kernel_rfl
theorem aiP:(El.all fun e=>match prog.underlying e.1 with|some (.struct _)=>e.2|some (.array _ _)=>e.2|some _=> !e.2|none=>false)=true:=by kernel_rfl
theorem aiQ:(O_.all fun e=>match prog.underlying e.1 with|some (.slice x)=>Nat.beq x e.2|_=>false)=true:=by kernel_rfl
theorem aiR:(Kr.all fun e=>match prog.underlying (e.1/64)with|some (.struct fs)=>(match fs[e.1%64]? with|some d=>Nat.beq d.offset e.2&&(match prog.info? d.type with|some i=>Nat.ble 1 i.size|none=>false)|none=>false)|_=>false)=true:=by kernel_rfl
theorem wH{t s:Nat}(h:lk B_ t=some s):Sz prog t s:=by
 have h1:=C3.1 aiO _ (Ek h)
 dsimp only at h1
 split at h1
 ·rename_i i hi;exact⟨i,hi,xf h1⟩
 ·cases h1
theorem ifF{t:Nat}{zs:List Value}{s b:Nat}(h:lk Kt t=some (zs,s,b)):yZ prog t zs s b:= .of (List.map_inj_left.1 aiN _ (Ek h))
theorem WX{t:Nat}{b:Bool}(h:lk El t=some b)(w:World):(isAgg t).run prog w= .ok b w:=by
 have h1:=C3.1 aiP _ (Ek h)
 dsimp only at h1
 split at h1
 ·rename_i hu;simp [isAgg,fk hu,h1]
 ·rename_i hu;simp [isAgg,fk hu,h1]
 ·rename_i u h2 h3 hu;cases b
  ·cases u<;>simp_all [isAgg,fk hu]
  ·cases h1
 ·cases h1
theorem WY{t:Nat}(h:lk El t=some false)(h2:lk B_ t=some 1):k9 prog t:=⟨WX h,wH h2⟩
theorem WZ{t s:Nat}(h:lk El t=some true)(h2:lk B_ t=some s):pC prog t s:=⟨WX h,wH h2⟩
theorem W1{t e:Nat}(h:lk O_ t=some e):prog.underlying t=some (.slice e):=by
 have h1:=C3.1 aiQ _ (Ek h)
 dsimp only at h1
 split at h1
 ·rename_i x hu;rw [hu,xf h1]
 ·cases h1
theorem W2{t f d:Nat}(hf:f<64)(h:lk Kr (t*64+f)=some d):∃fs x s,prog.underlying t=some (.struct fs)∧fs[f]?=some x∧x.offset=d∧Sz prog x.type (s+1):=by
 have h1:=C3.1 aiR _ (Ek h)
 dsimp only at h1
 rw [show(t*64+f)/64=t by omega,show(t*64+f)%64=f by omega]at h1
 split at h1
 ·rename_i fs hu
  split at h1
  ·rename_i x hx
   rw [fu]at h1
   obtain⟨h2,h3⟩:=h1
   split at h3
   ·rename_i i hi
    refine⟨fs,x,i.size-1,hu,hx,xf h2,i,hi,?_⟩
    have:=Nat.le_of_ble_eq_true h3;omega
   ·cases h3
  ·cases h1
 ·cases h1
namespace Hr
inductive Em(P:Program):List Oper→Prop where
 |nil:Em P []
 |cons {o:Oper} {l:List Oper} (h:rB P o) (t:Em P l):Em P (o::l)
theorem Em.all{P:Program}{l:List Oper}(h:Em P l):∀o∈l,rB P o:=by
 induction h with
 |nil=>simp
 |cons h _ ih=>
  intro o ho
  rcases gu.1 ho with rfl|ho
  ·exact h
  ·exact ih o ho
def zW(r:Result Next):Prop:=match r with
 | .ok (.value _) _=>True
 | .ok .skip _=>True
 | .halt _ _=>True
 |_=>False
theorem Pa{P:Program}{α:Type}{s:Sem α}{f:α→Sem Next}{w:World}(h:∀v w',zW ((f v).run P w')):zW ((s>>=f).run P w):=by
 rw [pw]
 cases hr:s.run P w with
 |ok v w'=>exact h v w'
 |halt x w'=>simp [Result.andThen,zW]
theorem Ku{P:Program}{v:Value}{w:World}:zW ((Sem.pure (.value v):Sem Next).run P w):=by simp [Sem.run,zW]
theorem Kv{P:Program}{w:World}:zW ((runtimePanic .nilDeref:Sem Next).run P w):=by
 simp [runtimePanic,goPanic,Sem.run,zW]
theorem W3{P:Program}{o:Oper}{x:Operand}(ho:o.op= .nilCheck x):rB P o:=⟨(by rw [ho];intro c h;cases h),fun ρ w=>by
 show zW _
 simp only [execOp,ho]
 split
 ·exact Kv
 ·exact Kv
 ·exact Kv
 ·split
  ·exact Kv
  ·refine Pa fun v w'=>Pa fun v' Mx=>?_
   split
   ·exact Pa fun _ _=>Ku
   ·exact Ku
  ·exact Ku
 ·exact Ku⟩
theorem Pb(a:Act)(d:Option Tmp)(v:Value):({a with defers:= []}:Act).put d v={a.put d v with defers:= []}:=by cases d<;>rfl
def QD(ds:List Deferred)(T:Act→World→Prop):Exit→Act→World→Prop:=fun e a w=>e= .normal∧a.defers=ds∧T {a with defers:= []} w
theorem G5{ρ:Option Nat}{P:Program}{aq:Array Oper}{ds:List Deferred}{T:Act→World→Prop}(hc:∀(i:Nat) (o:Oper),aq[i]?=some o→rB P o):∀(dp:Nat) (aL:Array Bool) (a:Act) (w:World),a.defers=ds→
  wpAny P .any aq (jt T) dp aL {a with defers:= []} w→wpAnyIn (Fr ρ) 0 P .any aq (QD ds T) dp aL a w
 |0,aL,a,w,hd,h=>⟨h.1,rfl,hd,h.2.2⟩
 |dp+1,aL,a,w,hd,h=>⟨fun h0=>⟨rfl,hd,(h.1 h0).2⟩,fun i hi=>by
   have h2:=h.2 i hi
   unfold wpOp at h2
   unfold wpOpIn
   cases ho:aq[i]? with
   |none=>
    simp only [ho]at h2⊢
    exact G5 hc dp _ a w hd h2
   |some o=>
    simp only [ho]at h2⊢
    have Ca:=hc i o ho
    by_cases hw:Region.wanted o (yielded aq a.tmps)=true
    ·rw [aH hw]at h2⊢
     rcases h2 with h2|⟨_,⟨_,_,h3⟩⟩
     ·unfold Oper.wpIn
      refine⟨fun f _=>trivial,?_⟩
      rw [Oper.semAt_plain (Fr ρ) _ _ Ca.1]
      unfold Oper.wp at h2
      rw [Gl]at h2
      have h4:=Ca.2 a.eval w
      cases hr:(execOp a.eval o).run P w with
      |ok nx w'=>
       rw [hr]at h2 h4
       cases nx with
       |value v=>
        refine G5 hc dp _ (a.put o.dst v) w' (by rw [BC];exact hd) ?_
        rw [←Pb];exact h2
       |skip=>
        refine G5 hc dp _ (a.put o.dst undef) w' (by rw [BC];exact hd) ?_
        rw [←Pb];exact h2
       |_=>exact h4.elim
      |halt x w'=>
       rw [hr]at h2
       cases x with
       |panic v=>cases h2.1
       |_=>exact h2.elim
     ·cases h3.1
    ·rw [aB hw]at h2⊢
     refine⟨fun f _=>trivial,G5 hc dp _ (a.put o.dst undef) w (by rw [BC];exact hd) ?_⟩
     rw [←Pb];exact h2⟩
def Eo:Func:={name:= "",origin:= "",params:= #[],resultTypes:= #[],nfree:=0,ntmps:=0,results:= #[],body:=none,norace:=false,tmpNames:= #[]}
abbrev Ep:Ending→World→Prop:=fun _ _=>False
def Pc(P:Program)(X:Nat→Prop)(W:World)(n:Nat)(k:List K)(l:List Oper)(S:St):Prop:=
 ∀a w,cK X W n S a w→wpAny P .any l.toArray (jt fun a w=>post P Eo Ep k .normal a w) l.toArray.size (Array.replicate l.toArray.size false) a {w with drawn:=w.drawn+1}
def JF(ρ:Option Nat)(P:Program)(Qb:Exit→Act→World→Prop)(ds:List Deferred)(k:List K)(a:Act)(w:World):Prop:=a.defers= []→tC ρ P Qb k .normal {a with defers:=ds} w
section
variable{ρ:Option Nat}{P:Program}{Qb:Exit→Act→World→Prop}{ds:List Deferred}{X:Nat→Prop}{W:World}{n:Nat}{k:List K}{S:St}{M0:List an}
theorem W4(l:List Oper):jr l.toArray (Array.replicate l.toArray.size false):=by
 intro j o hj hl
 rcases ie j l.toArray.size with h'|h'
 ·simp at h';simp [h']at hl
 ·simp at h';simp [h']at hl
theorem aiT{l:List Oper}(order:List (Nat×Nat))(bW:FQ l.toArray order=true)(hM:ax S.mem M0)(h:iK P Eo Ep X W n k M0 l.toArray order order S):Pc P X W n k l S:=by
 intro a w hs
 simp only [FQ,fu]at bW
 obtain⟨⟨⟨h1,h2⟩,h3⟩,h4⟩:=bW
 have gT:order.length=l.toArray.size:=xf h2
 have cR:cK X W n S a {w with drawn:=w.drawn+1}:=hs.world (aS.refl nX w).drew
 have hd:=h _ h1 h4 h3 (W4 l) a _ cR (fun _=>⟨cR.dv,(hM _ _ _ cR.mem).1⟩)
 rw [gT]at hd
 exact fV.any (E:=jt fun a w=>post P Eo Ep k .normal a w) (fun a w h=>⟨rfl,h⟩) hd
theorem aiU{l:List Oper}(cM:List Nat)(bW:Region.noSelect l.toArray=true)(hM:ax S.mem M0)(h:ja P Eo Ep X W n k M0 cM true l.toArray l.toArray.size (Array.replicate l.toArray.size false) S):Pc P X W n k l S:=by
 intro a w hs
 have cR:cK X W n S a {w with drawn:=w.drawn+1}:=hs.world (aS.refl nX w).drew
 have hd:=h bW (W4 l) a _ cR fun _=>⟨cR.dv,(hM _ _ _ cR.mem).1⟩
 exact fV.any (E:=jt fun a w=>post P Eo Ep k .normal a w) (fun a w h=>⟨rfl,h⟩) hd
theorem W5{id:Nat}{l:List Oper}(hm:P.follows .mixedOrders=true)(hc:Em P l)(h:Pc P X W n [.stop (JF ρ P Qb ds k)] l S):RF ρ P Qb ds X W n (.bn (.region id l.toArray true)::k) S:=by
 intro a w hs
 have h1:=h _ w hs.1
 have h2:=G5 (ρ:=ρ) (ds:=ds) (fun i o ho=>hc.all o (by rw [List.getElem?_toArray]at ho;exact Fp ho)) _ _ a _ hs.2 h1
 refine wpIn_mono (wpIn_region_any hm h2) ?_
 rintro e a' w' ⟨rfl,hd,hT⟩
 have h3:JF ρ P Qb ds k {a' with defers:= []} w':=hT
 have h4:=h3 rfl
 rw [←hd]at h4
 exact h4
theorem W6(h:RF ρ P Qb ds X W n k S):aW P Eo Ep X W n [.stop (JF ρ P Qb ds k)] S:=by
 intro a w hs hd
 refine h _ w ⟨?_,rfl⟩
 have e:({({a with defers:=ds}:Act)with defers:= []}:Act)=a:=by cases a;subst hd;rfl
 rw [e];exact hs
end
end Hr
section
namespace Hr
def Pd{α:Type}(P:Program)(l:Nat)(encs:α→List Value)(J Jx:List α→List an→Prop)(N:Nat)(Ho:World→List an→Prop):Prop:=
 ∀cd x rs w,J cd rs→Mem (aR rs) w rs w→cd.length<N→Ho w rs→
  YieldAt Fence.wide 0 P l (encs x).toArray w fun e w'=>∃dE,Gt rs dE w w'∧((e= .returned (.bool true)∧J (cd++ [x]) dE)∨(e= .returned (.bool false)∧Jx (cd++ [x]) dE))
def aiV{α:Type}(P:Program)(f:Nat)(NR:List Value)(encs:α→List Value)(S Sp:List α→Prop)(N:Nat)(Ho:World→List an→Prop)(bQ:List an)(w:World):Prop:=
 ∀(l:Nat) (J Jx:List α→List an→Prop),J [] bQ→Pd P l encs J Jx N Ho→CallsIn Fence.wide 0 P f (.func (.yield l) #[] #[]::NR).toArray w (zj J Jx S Sp bQ w)
abbrev Cb(X:Nat→Prop)(W:World)(w:World)(rs:List an):Prop:=aS X W w∧∀r∈rs,∀b,r.at b→W.heap.size≤b∨X b
theorem Cb.trans{X:Nat→Prop}{W w w':World}{bQ rs:List an}(h:Cb X W w bQ)(hk:aS (aR bQ) w w')(ho:∀r∈rs,∀b,r.at b→w.heap.size≤b∨aR bQ b):Cb X W w' rs:=by
 refine⟨h.1.step hk fun k bN hx=>?_,fun r hr b hb=>?_⟩
 ·rintro⟨q,hq,hb⟩
  rcases h.2 q hq k hb with h1|h1
  ·omega
  ·exact hx h1
 ·rcases ho r hr b hb with h1|⟨q,hq,jK⟩
  ·exact .inl (jg h.1.size h1)
  ·exact h.2 q hq b jK
theorem Cb.rd{X:Nat→Prop}{W w:World}{rs:List an}{S:St}{A:Option Addr}{size:Nat}{ls:List (List Value)}(hr:Rd W A size ls)(hs:vK X A)(h:Cb X W w rs):iT (aR rs) w S A size ls:=by
 intro w' hk _
 rcases hr with hr|⟨ad,rfl,hr⟩
 ·exact .inl hr
 ·refine .inr ⟨ad,rfl,fun i c hi j v hj=>?_⟩
  have h1:=hr i c hi j v hj
  have h2:=S2 h1
  rw [FG]at h2
  have hx:=hs ad rfl
  have hn:¬aR rs ad.block:=by
   rintro⟨q,hq,hb⟩
   rcases h.2 q hq _ hb with h3|h3
   ·omega
   ·exact hx h3
  rw [←h1]
  exact World.cell?_of_block (by rw [FG];exact(hk.block _ (s_ h2 h.1.size) hn).trans (h.1.block _ h2 hx))
theorem ax.aiW{l:List an}:ax l (df []::l):=fun X W w h=>by
 refine⟨h.cons ⟨by simp,by simp⟩ (fun b hb=>by simp [df,an.at]at hb) (fun s hs b hb=>by simp [df,an.at]at hb),fun r' iU b hb=>?_⟩
 rcases gu.1 iU with rfl|iU
 ·simp [df,an.at]at hb
 ·exact⟨r',iU,hb⟩
theorem ax.W7{D:Nat}{Ds:List Nat}{l:List an}:ax (df [D]::df Ds::l) (df (D::Ds)::l):=fun X W w h=>by
 obtain⟨h1,h2,h3,h4⟩:=h.head
 obtain⟨g1,g2,g3,g4⟩:=h4.head
 have a1: [D].Nodup∧∀E∈ [D],w.heap[E]?=some (.deferred (some [])):=h1
 have a2:Ds.Nodup∧∀E∈Ds,w.heap[E]?=some (.deferred (some [])):=g1
 have hd:D∉Ds:=fun hD=>h3 (df Ds) (fi ..) D (show D∈ [D] by simp) hD
 refine⟨g4.cons ⟨List.nodup_cons.2 ⟨hd,a2.1⟩,fun E hE=>?_⟩ (fun b hb=>?_) (fun s hs b hb gv=>?_),fun r' iU b hb=>?_⟩
 ·rcases gu.1 hE with rfl|hE
  ·exact a1.2 _ sM
  ·exact a2.2 _ hE
 ·rcases gu.1 (show b∈D::Ds from hb)with rfl|hb
  ·exact h2 _ (show b∈ [b] by simp)
  ·exact g2 _ hb
 ·rcases gu.1 (show b∈D::Ds from hb)with rfl|hb
  ·exact h3 s (gB _ hs) b (show b∈ [b] by simp) gv
  ·exact g3 s hs b hb gv
 ·rcases gu.1 iU with rfl|iU
  ·rcases gu.1 (show b∈D::Ds from hb)with rfl|hb
   ·exact⟨_,fi ..,show b∈ [b] by simp⟩
   ·exact⟨_,gB _ (fi ..),hb⟩
  ·exact⟨r',gB _ (gB _ iU),hb⟩
section
variable{ρ:Option Nat}{P:Program}{Qb:Exit→Act→World→Prop}{X:Nat→Prop}{W:World}{n:Nat}{k:List K}{S:St}
def Pe{ι:Type}(qb:ι→List Deferred)(X:Nat→Prop)(W:World)(n:Nat)(φ:ι→Prop)(dN:ι→St)(μ:ι→Nat)(m:Nat)(a:Act)(w:World):Prop:=∃i,φ i∧μ i<m∧SF (qb i) X W n (dN i) a w
theorem aiX{ι:Type}{qb:ι→List Deferred}{φ:ι→Prop}{dN:ι→St}{μ:ι→Nat}{m:Nat}{ds:List Deferred}(i:ι)(hi:φ i)(hm:μ i<m)(hs:re X W n S (dN i))(hd:ds=qb i):RF ρ P Qb ds X W n (.stop (Pe qb X W n φ dN μ m)::k) S:=
 fun a w h=>⟨i,hi,hm,hs _ w h.1,h.2.trans hd⟩
open Classical in
theorem aiY{ι:Type}{c:Code}{bg:List (Nat×Value)}{bh:List an}(qb:ι→List Deferred)(φ:ι→Prop)(F:ι→List (Nat×Value))(G:ι→List an)(μ:ι→Nat)(i0:ι)(h0:φ i0)(he:dF S.ah (F i0++bg))(hm:ax S.mem (G i0++bh))
  (hr:∀i,φ i→RF ρ P Qb (qb i) X W n (.bn c:: .stop (Pe qb X W n φ (fun i=>⟨F i++bg,G i++bh⟩) μ (μ i))::k) ⟨F i++bg,G i++bh⟩):RF ρ P Qb (qb i0) X W n (.bn (.loop c)::k) S:=by
 have fm:re X W n S ⟨F i0++bg,G i0++bh⟩:=by cases S;exact ar he hm
 generalize fS:(fun i=>(⟨F i++bg,G i++bh⟩:St))=dN at hr
 replace fm:re X W n S (dN i0):=by rw [←fS];exact fm
 replace hr:∀i,φ i→RF ρ P Qb (qb i) X W n (.bn c:: .stop (Pe qb X W n φ dN μ (μ i))::k) (dN i):=fun i hi=>by
  have:=hr i hi
  rw [←fS]at this⊢
  exact this
 intro a w hs
 have hl:∀a w,(∃m i,φ i∧μ i=m∧SF (qb i) X W n (dN i) a w)→∃m,(∃i,φ i∧μ i=m∧SF (qb i) X W n (dN i) a w)∧∀k,(∃i,φ i∧μ i=k∧SF (qb i) X W n (dN i) a w)→m≤k:=
  fun a w ⟨m,h⟩=>th m m (ct _) h
 refine wpIn_loop (fun a w=>∃m i,φ i∧μ i=m∧SF (qb i) X W n (dN i) a w)
  (fun a w=>if h:∃m i,φ i∧μ i=m∧SF (qb i) X W n (dN i) a w then Classical.choose (hl a w h)else 0) ⟨_,i0,h0,rfl,fm _ w hs.1,hs.2⟩ ?_
 intro a w hI
 rw [dif_pos hI]
 obtain⟨⟨i,hi,hm,cu⟩,_⟩:=AK (hl a w hI)
 refine wpIn_mono (hr i hi a w cu) ?_
 intro e a' w' q
 cases e with
 |normal=>
  obtain⟨i',iJ,bN,yX⟩:=q
  have uj:∃m i,φ i∧μ i=m∧SF (qb i) X W n (dN i) a' w':=⟨_,i',iJ,rfl,yX⟩
  refine⟨uj,?_⟩
  rw [dif_pos uj]
  have:=(AK (hl a' w' uj)).2 (μ i') ⟨i',iJ,rfl,yX⟩
  omega
 |_=>exact q
end
section
variable{P:Program}{fn:Func}{ρ:Option Nat}{Qb:Exit→Act→World→Prop}{ds:List Deferred}{X:Nat→Prop}{W:World}{n:Nat}{k:List K}{S:St}{ah:List (Nat×Value)}{mem:List an}{all:Array Oper}{bu:List Oper}{o:Oper}
theorem aiZ{α:Type}{l d N:Nat}{encs:α→List Value}{J Jx:List α→List an→Prop}{cd:List α}{rs ls:List an}(x:α){y:Operand}{xs:Array Operand}{ts:Array TypeId}{vs:List Value}(hg:o.guard=Option.none)(ho:o.op= .call {callee:= .value y,args:=xs,argTypes:=ts})(hd:o.dst=some d)(hdn:Nat.blt d n=true)
  (hy:ev ah y=some (.func (.yield l) #[] #[]))(hx:kL ah xs.toList vs)(he:vs=encs x)(dd:ag mem (.aZ rs) ls){Ho:World→List an→Prop}(hF:∀w rs,aS X W w→(∀r∈rs,∀b,r.at b→W.heap.size≤b∨X b)→Ho w rs)(hY:Pd P l encs J Jx N Ho)(hJ:J cd rs)(hN:cd.length<N)
  (h1:∀dE,J (cd++ [x]) dE→RF ρ P Qb ds X W n (.aq all bu::k) ⟨(d,.bool true)::ah,.aZ dE::ls⟩)
  (h2:∀dE,Jx (cd++ [x]) dE→RF ρ P Qb ds X W n (.aq all bu::k) ⟨(d,.bool false)::ah,.aZ dE::ls⟩):RF ρ P Qb ds X W n (.aq all (o::bu)::k) ⟨ah,mem⟩:=by
 intro a w hs
 refine wpListIn_plain hg fun K hK=>?_
 have hm:=(ax.xt _ _ _ (hs.1.mem.aI dd.aI)).1
 obtain⟨f,tmps,mU,body,qA,hR⟩:=hY cd x rs w hJ hm.gi hN (hF _ _ hs.1.dv (fun r hr=>hm.ae r (Ft _ hr)))
 unfold Oper.wpIn
 refine⟨fun f _=>trivial,?_⟩
 rw [Oper.semAt_plain (Fr ρ) _ _ (by rw [ho];intro c h;cases h)]
 have Dp:xs.map a.eval=(encs x).toArray:=Array.toList_inj.1 (by have:=hx.map hs.1;rw [Gl]at this;rw [Array.toList_map,this,←he])
 have gD:(execOp a.eval o).run P w= .ok (.round l f tmps mU body) w:=by
  simp [execOp,ho,resolve,invoke,Deferred.ofValue,hs.eval hy,Dp,qA]
 rw [gD,Oper.uponIn_round]
 refine⟨(fun h=>by cases h),RoundIn.mono hR fun e w' Gw=>?_⟩
 obtain⟨dE,⟨hk,NS⟩,hj⟩:=Gw
 have dY:=(hs.1.change (cs:= [.aZ rs]) (ls:=ls) (m:= [.aZ dE]) (Y:=aR rs) dd.aI hk (fun b hb=>⟨.aZ rs,by simp,hb⟩) ((ax.close_ (rs:=dE) (l:= []) _ _ _ (by rw [gZ];exact NS)).1))
 rcases hj with⟨rfl,hj⟩|⟨rfl,hj⟩
 ·refine hK _ _ (h1 dE hj _ _ ⟨?_,?_⟩)
  ·rw [hd];exact dY.put hdn _
  ·rw [BC];exact hs.2
 ·refine hK _ _ (h2 dE hj _ _ ⟨?_,?_⟩)
  ·rw [hd];exact dY.put hdn _
  ·rw [BC];exact hs.2
theorem ai0{α:Type}{g:Operand}{ps:Array Tmp}{mU body:Code}{gf N:Nat}{lb:List Value}{encs:α→List Value}{Sd Sp:List α→Prop}(J:List α→List an→Prop)(Jx:Code→List α→List an→Prop)(bQ bu:List an)(Ho:World→List an→Prop)(hF:∀w rs,aS X W w→(∀r∈rs,∀b,r.at b→W.heap.size≤b∨X b)→Ho w rs)
  (hg:ev ah g=some (.func (.func gf) #[] lb.toArray))(rD:fb P gf)(dI:∀x,(encs x).length=ps.size)(Gy:∀p∈ps.toList,Nat.blt p n=true)(hp:ax mem (bQ++bu))(h0:J [] bQ)
  (NV:∀r w,aS X W w→Mem X W (r::(bQ++bu)) w→Ho w (r::bQ)→aiV P gf lb encs Sd Sp N Ho (r::bQ) w)
  (NW:∀l r w cd x rs,r.state= .ready→r.pending=none→J cd rs→cd.length<N→Mem (aR (eQ l r::rs)) w (eQ l r::rs) w→Ho w (eQ l r::rs)→
   RF (some l) P QF [] (aR (eQ l r::rs)) w n [.bn mU,.stop (NT P l body (RQ P l r J Jx (cd++ [x]) (eQ l r::rs) w))] ⟨(ps.toList.zip (encs x)).foldl (fun e p=>p::e) ah,eQ l r::rs⟩)
  (NX:∀D xs rs,Sd xs→J xs rs→RF none P Qb (sG D::ds) X W n k ⟨ah,df [D]::(rs++bu)⟩)
  (NY:∀D c xs rs,Sp xs→Jx c xs rs→RF none P Qb (sG D::ds) X W n (.bn c::k) ⟨ah,df [D]::(rs++bu)⟩):
  RF none P Qb ds X W n (.bn (.rangeFunc g ps mU body)::k) ⟨ah,mem⟩:=by
 intro a w n0
 have fm:cK X W n ⟨ah,bQ++bu⟩ {a with defers:= []} w:=ar dF.refl hp _ _ n0.1
 refine U0 (n0.eval hg) rD fun uH=>?_
 generalize cS:({state:= .ready,pending:=none,fn:=uH,tmps:=a.tmps,params:=ps,assign:=mU,body,defers:=w.heap.size}:Loop)=eV
 have eJ:eV.state= .ready:=by rw [←cS]
 have jk:eV.pending=none:=by rw [←cS]
 have k1:aS nX w (w.alloc (.deferred (some []))):=aS.alloc _ _
 have k2:aS nX (w.alloc (.deferred (some []))) ((w.alloc (.deferred (some []))).alloc (.loop eV)):=aS.alloc _ _
 have e1:(w.alloc (.deferred (some []))).heap.size=w.heap.size+1:=World.size_alloc ..
 have g1:(w.alloc (.deferred (some []))).heap[w.heap.size]?=some (.deferred (some [])):=World.alloc_heap_new _ _
 have g2:((w.alloc (.deferred (some []))).alloc (.loop eV)).heap[w.heap.size+1]?=some (.loop eV):=by rw [←e1];exact World.alloc_heap_new _ _
 have NZ:=fm.dv.size
 have m1:Mem X W (df [w.heap.size]::(bQ++bu)) (w.alloc (.deferred (some []))):=by
  refine(fm.mem.xp k1).cons ⟨by simp,fun D hD=>?_⟩ (fun b hb=>?_) (fun s hs b hb gv=>?_)
  ·obtain rfl:=c_.1 hD;exact g1
  ·obtain rfl:=c_.1 hb;exact .inl NZ
  ·obtain rfl:=c_.1 hb;exact absurd (fm.mem.lt s hs _ gv) (Nat.lt_irrefl _)
 have m2:Mem X W (eQ (w.heap.size+1) eV::df [w.heap.size]::(bQ++bu)) ((w.alloc (.deferred (some []))).alloc (.loop eV)):=by
  refine(m1.xp k2).cons g2 (fun b hb=>?_) (fun s hs b hb gv=>?_)
  ·obtain rfl:w.heap.size+1=b:=hb;exact .inl  oM
  ·obtain rfl:w.heap.size+1=b:=hb
   have:=m1.lt s hs _ gv
   rw [e1]at this
   exact absurd this (Nat.lt_irrefl _)
 have dY:cK X W n ⟨ah,eQ (w.heap.size+1) eV::df [w.heap.size]::(bQ++bu)⟩ {a with defers:= []} ((w.alloc (.deferred (some []))).alloc (.loop eV)):=fm.Mf ((fm.dv.fa k1).fa k2) m2
 generalize (w.alloc (.deferred (some []))).alloc (.loop eV)=w2 at*
 have j3:cK X W n ⟨ah,eQ (w.heap.size+1) eV::(bQ++df [w.heap.size]::bu)⟩ {a with defers:= []} w2:=ar dF.refl (ax.aI (.cons _ (List.perm_middle.symm))) _ _ dY
 have hc:=NV (eQ (w.heap.size+1) eV) w2 j3.dv ((j3.mem.sub (.cons_cons _ (List.Sublist.append_left (Fl _ _) _)))) (hF _ _ j3.dv (fun r hr=>j3.mem.ae r (by rcases gu.1 hr with rfl|hr;(· exact fi ..);(· exact gB _ (Ft _ hr))))) (w.heap.size+1)
  (fun cd dE=>∃rs,dE=eQ (w.heap.size+1) eV::rs∧J cd rs) (fun cd dE=>∃rs c,dE=eQ (w.heap.size+1) {eV with state:= .done,pending:=some c}::rs∧Jx c cd rs) ⟨bQ,rfl,h0⟩ ?yr
 case yr=>
  rintro cd x dE w3 ⟨rs,rfl,hJ⟩ hm hN wk
  have hl:w3.heap[w.heap.size+1]?=some (.loop eV):=hm.head.1
  have Gz:eV.params=ps:=by rw [←cS]
  have wm:eV.tmps=a.tmps:=by rw [←cS]
  have lM:eV.body=body:=by rw [←cS]
  have has:eV.assign=mU:=by rw [←cS]
  have hy:=run_yield (P:=P) (args:=(encs x).toArray) hl (by rw [Gz];simp [dI])
  rw [Gz,wm,lM,has]at hy
  refine⟨_,_,_,_,hy,roundIn_of_wpIn trivial ?_⟩
  have GB:cK (aR (eQ (w.heap.size+1) eV::rs)) w3 n ⟨ah,eQ (w.heap.size+1) eV::rs⟩ {a with defers:= []} w3:=⟨n0.1.size,rfl,n0.1.ah,aS.refl _ _,hm⟩
  have qu:=NU (ps.toList.zip (encs x)) _ _ _ GB (fun p hp=>Gy _ (List.of_mem_zip hp).1)
  have he:({tmps:=(ps.zip (encs x).toArray).foldl (fun t (p,v)=>t.setIfInBounds p v) a.tmps,defers:= []}:Act)={({a with defers:= []}:Act)with tmps:=(ps.toList.zip (encs x)).foldl (fun t p=>t.setIfInBounds p.1 p.2) a.tmps}:=by
   congr 1
   rw [←Array.foldl_toList,Array.toList_zip]
  rw [he]
  refine NW (w.heap.size+1) eV w3 cd x rs eJ jk hJ hN hm wk _ w3 ?_
  exact⟨qu,rfl⟩
 have ea:(#[.func (.yield (w.heap.size+1)) #[] #[]]++lb.toArray:Array Value)=(.func (.yield (w.heap.size+1)) #[] #[]::lb).toArray:=by simp
 rw [ea]
 refine hc.mono ?_
 rintro e w4 ⟨⟨v,rfl⟩,xs,dE,⟨GC,N0⟩,N1⟩
 have GD:cK X W n ⟨ah,dE++df [w.heap.size]::bu⟩ {a with defers:= []} w4:=j3.change (cs:=eQ (w.heap.size+1) eV::bQ) (ls:=df [w.heap.size]::bu) (m:=dE) (Y:=aR (eQ (w.heap.size+1) eV::bQ)) (List.Perm.refl _) GC (fun b hb=>hb) N0
 have GF:∀r rs,dE=eQ (w.heap.size+1) r::rs→r.state≠ .busy→∃w5,(Instr.endLoop (w.heap.size+1)).run P w4= .ok r.pending w5∧SF (sG w.heap.size::ds) X W n ⟨ah,df [w.heap.size]::(rs++bu)⟩ {a with defers:= [sG w.heap.size]++a.defers} w5:=by
  rintro r rs rfl hb
  have hl:w4.heap[w.heap.size+1]?=some (.loop r):=GD.mem.head.1
  refine⟨_,run_endLoop hl hb,?_,by simp [n0.2]⟩
  have h5:=(show cK X W n ⟨ah,eQ (w.heap.size+1) r::(rs++df [w.heap.size]::bu)⟩ {a with defers:= []} w4 from GD).JQ (r':={r with state:= .exhausted})
  exact ar dF.refl ((ax.sub (Fl _ _)).trans (ax.aI Fs)) _ _ h5
 rcases N1 with⟨hS,rs,BF,hJ⟩|⟨hS,rs,c,BF,hJ⟩
 ·obtain⟨w5,mV,BG⟩:=GF _ _ BF (by rw [eJ];intro h;cases h)
  refine⟨none,w5,by rw [mV,jk],?_⟩
  exact NX _ xs rs hS hJ _ _ BG
 ·obtain⟨w5,mV,BG⟩:=GF _ _ BF (by intro h;cases h)
  refine⟨some c,w5,mV,?_⟩
  exact NY _ c xs rs hS hJ _ _ BG
end
end Hr
end
end Go.Proofs.YtafaoccjbifbaaaGreat
