/- Part. -/
import Derived.Test.YtjpbickffffgkaaGreatQ00
set_option linter.unusedSimpArgs false
set_option linter.unusedVariables false
set_option maxHeartbeats 40000000
set_option maxRecDepth 100000
namespace Go.Proofs.YtjpbickffffgkaaGreat
open Go Go.RowKit Hr Go.Proofs.Tryz
namespace Hr
theorem EH{w:World}{g:Nat}{r:Array Value}:bb (fun k=>k=g) w (w.setRow g r):=
 ⟨rfl,rfl,rfl,by simp,fun k _ hk=>setRow_other w g k r hk,cE _⟩
section
variable{P:Program}{X:Nat→Prop}{W:World}{n:Nat}{S:St}{ai:List (Nat×Value)}{mem:List an}{o:Oper}{a:Act}{w:World}
theorem cB.new(hs:cB X W n S a w)(ob:Obj)(r:an)(hr:r.holds (w.alloc ob))(ql:∀b,r.at b→b=w.heap.size):cB X W n ⟨S.ai,r::S.mem⟩ a (w.alloc ob):=by
 have hk:=bb.alloc w ob
 refine⟨hs.size,hs.defers,hs.ai,hs.dx.fS hk,(hs.mem.w_ hk).cons hr (fun b hb=> .inl ?_) (fun s h b hb jm=>?_)⟩
 ·rw [ql b hb];exact hs.dx.size
 ·rw [ql b hb]at jm
  exact absurd (hs.mem.lt s h _ jm) (Ep _)
theorem cB.change(hs:cB X W n S a w){w':World}{Y:Nat→Prop}{cs ls m:List an}(hp:S.mem.Perm (cs++ls))(hk:bb Y w w')(hY:∀b,Y b→∃r∈cs,r.at b)
  (hm:Mem Y w m w'):cB X W n ⟨S.ai,m++ls⟩ a w':=by
 have h1:=hs.mem.aK hp
 have Am:=ua.1 h1.apart
 have Hk:Mem X W ls w:=h1.sub (mw _ _)
 have hYX:∀k,k<W.heap.size→¬X k→¬Y k:=fun k cu hx hy=>by
  obtain⟨r,hr,OM⟩:=hY k hy
  rcases h1.ag r (by simp [hr]) k OM with h|h
  ·omega
  ·exact hx h
 have Vd:Mem X W ls w':=Hk.o5 hk fun s iI b hb hy=>by
  obtain⟨r,hr,xc⟩:=hY b hy
  exact Am.2.2 r hr s iI b xc hb
 refine⟨hs.size,hs.defers,hs.ai,hs.dx.step hk hYX,⟨fun r hr=>?_,fun r hr b hb=>?_,?_⟩⟩
 ·rcases ep.1 hr with h|h
  ·exact hm.holds r h
  ·exact Vd.holds r h
 ·rcases ep.1 hr with h|h
  ·rcases hm.ag r h b hb with h2|h2
   ·exact .inl (j3 hs.dx.size h2)
   ·obtain⟨u,hu,vn⟩:=hY b h2
    exact h1.ag u (by simp [hu]) b vn
  ·exact Hk.ag r h b hb
 ·refine ua.2 ⟨hm.apart,Vd.apart,fun r hr s iI b hb jm=>?_⟩
  rcases hm.ag r hr b hb with h2|h2
  ·exact absurd (Hk.lt s iI b jm)  oM
  ·obtain⟨u,hu,vn⟩:=hY b h2
   exact Am.2.2 u hu s iI b vn jm
theorem vq{k:Act→World→Prop}{Q:Exit→Act→World→Prop}{v:Value}{w':World}(h:(execOp a.eval o).run P w= .ok (.value v) w')(hk:k (a.put o.dst v) w'):o.wp P a w k Q:=by
 unfold Oper.wp;rw [h];exact hk
theorem Hl{k:Act→World→Prop}{Q:Exit→Act→World→Prop}{w':World}(h:(execOp a.eval o).run P w= .ok .skip w')(hk:k (a.put o.dst undef) w'):o.wp P a w k Q:=by
 unfold Oper.wp;rw [h];exact hk
def Ar:Value→Bool
 | .tuple _=>true
 |_=>false
theorem EI{v:Value}(h:Ar v=false):v.cells=(dK v).toArray:=by
 cases v<;>first|rfl|simp [Ar]at h|simp [Value.cells,dK]
theorem Ve(w:World)(t:TypeId)(vs:List Value):(an.aj w.heap.size t (bB 0 vs)).holds (w.alloc (.cells vs.toArray t)):=
 ⟨_,heap_alloc_new w _,fun i v h=>by
  obtain⟨_,h2⟩:=Hi vs 0 i v h
  simpa using h2⟩
section
variable{x y:Operand}{t e:TypeId}{k:IntKind}{d:Nat}
theorem yB{v:Value}(ho:o.op= .box t x)(hd:o.dst=some d)(hdn:Nat.blt d n=true)(hx:ev ai x=some v)(hv:Ar v=false):
  H1 P X W n ⟨ai,mem⟩ o (fun _:Nat=>True) (fun b=>⟨(d,.pointer (some ⟨b,0,none⟩))::ai,.aj b t (bB 0 (dK v))::mem⟩):=by
 intro a w hs k Q hk
 have fG:(execOp a.eval o).run P w= .ok (.value (.pointer (some ⟨w.heap.size,0,none⟩))) (w.alloc (.cells (dK v).toArray t)):=by
  simp [execOp,ho,hs.eval hx,Instr.box,newVar,newRow,EI hv]
 refine vq fG ?_
 rw [hd]
 exact hk w.heap.size _ _ trivial ((hs.new _ _ (Ve w t (dK v)) (fun _ h=>h.symm)).put hdn _)
theorem dR{zs:List Value}{s b:Nat}(ho:o.op= .alloc t)(hd:o.dst=some d)(hdn:Nat.blt d n=true)(hi:vp P t zs s b):
  H1 P X W n ⟨ai,mem⟩ o (fun _:Nat=>True) (fun b=>⟨(d,.pointer (some ⟨b,0,none⟩))::ai,.aj b t (bB 0 zs)::mem⟩):=by
 intro a w hs k Q hk
 obtain⟨i,z,h1,h2,rfl,_,_⟩:=hi
 have fG:(execOp a.eval o).run P w= .ok (.value (.pointer (some ⟨w.heap.size,0,none⟩))) (w.alloc (.cells z.cells.toList.toArray t)):=by
  simp [execOp,ho,Instr.alloc,newVar,newRow,zeroValue,typeInfo,h1,h2]
 refine vq fG ?_
 rw [hd]
 exact hk w.heap.size _ _ trivial ((hs.new _ _ (Ve w t _) (fun _ h=>h.symm)).put hdn _)
def ja:List Value→Bool
 | []=>true
 |v::r=>match v with
  | .agg _=>false
  | .tuple _=>false
  |_=>ja r
theorem As:∀{l:List Value},ja l=true→∀v∈l,v.oneCell'=true
 | [],_,v,h=>by simp at h
 |x::l,h,v,hv=>by
  rcases gP.1 hv with rfl|hv
  ·cases v<;>first|rfl|simp [ja]at h
  ·refine As (l:=l) ?_ v hv
   cases x<;>first|exact h|simp [ja]at h
theorem afQ(cs:List (Nat×Value))(vs:List Value)(i:Nat)(c:Array Value)(h:∀j v,dw cs j=some v→c[j]?=some v)(hl:i+vs.length≤c.size):
  ∀j v,dw (bB i vs++cs) j=some v→(c.toList.take i++vs++c.toList.drop (i+vs.length)).toArray[j]?=some v:=by
 intro j v hj
 rw [afD]at hj
 rw [Oo]
 cases hf:dw (bB i vs) j with
 |some u=>
  rw [hf]at hj
  simp only [Option.some_or,Option.some.injEq]at hj
  subst hj
  obtain⟨h1,h2⟩:=Hi vs i j u hf
  have bW:=(wN.1 h2).1
  rw [El (by simp;omega),yj (by simp;omega)]
  simpa [show min i c.size=i from oM]using h2
 |none=>
  rw [hf]at hj
  simp only [Option.none_or]at hj
  have hc:=h j v hj
  have xd:¬(i≤j∧j<i+vs.length):=by
   intro⟨h1,h2⟩
   have:∀(l:List Value) (i:Nat),i≤j→j<i+l.length→(dw (bB i l) j).isSome=true:=by
    intro l
    induction l with
    |nil=>intro i h1 h2;simp at h2;omega
    |cons y l ih=>
     intro i h1 h2
     by_cases e:i=j
     ·subst e;rw [bB,G9];rfl
     ·rw [bB,G_ e];exact ih (i+1)  oM (by simp at h2;omega)
   have h3:=this vs i h1 h2
   rw [hf]at h3;simp at h3
  have Vf:=(On.1 hc).1
  rw [←hc,←Array.getElem?_toList]
  rcases jH j i with h1|h1
  ·rw [cj,El (by simp;omega),Eo,aG h1]
  ·rw [yj (by simp;omega),GO]
   congr 1
   simp
   omega
theorem bY{b i s:Nat}{tb:TypeId}{cs:List (Nat×Value)}{l:List an}{v:Value}(ho:o.op= .store t x y)(hd:o.dst=none)(fF:Sz P t (s+1))(hx:ev ai x=some (.pointer (some ⟨b,i,none⟩)))(hy:ev ai y=some v)
  (hv:Ar v=false)(hl:(dK v).length=s+1)(h1:ja (dK v)=true)(hs:ae mem (.aj b tb cs) l)(qm:(dw cs (i+s)).isSome=true):
  H1 P X W n ⟨ai,mem⟩ o (fun _:Unit=>True) (fun _=>⟨ai,.aj b tb (bB i (dK v)++cs)::l⟩):=by
 intro a w cz k Q hk
 obtain⟨c,hc,hf⟩:=hs.holds cz.mem
 have ON:i+(dK v).length≤c.size:=by
  obtain⟨u,hu⟩:=Em.1 qm
  have:=(On.1 (hf _ u hu)).1
  omega
 have cG:=GP P b i tb (dK v) 0 c w hc  oM (As h1)
 have fG:(execOp a.eval o).run P w= .ok .skip (w.setRow b (c.toList.take i++dK v++c.toList.drop (i+(dK v).length)).toArray):=by
  rw [←hl]at fF
  simp [execOp,ho,cz.eval hx,cz.eval hy,Instr.storeAt,Instr.sureAddr,storeVar,fF.run,EI hv,cG]
 refine Hl fG ?_
 rw [hd]
 refine hk () _ _ trivial ?_
 have hm:Mem (fun k=>k=b) w [.aj b tb (bB i (dK v)++cs)] (w.setRow b (c.toList.take i++dK v++c.toList.drop (i+(dK v).length)).toArray):=
  Mem.nil.cons (r:= .aj b tb (bB i (dK v)++cs)) ⟨_,setRow_heap w b c _ tb _ hc,afQ cs (dK v) i c hf ON⟩ (fun k hk=> .inr (by simpa [an.at,eq_comm]using hk)) sM
 exact cz.change (Y:=fun k=>k=b) (cs:= [.aj b tb cs]) (ls:=l) hs.aK EH (fun k hk=>⟨.aj b tb cs,by simp,by simp [hk,an.at]⟩) hm
theorem q8{size:Nat}:∀(ls:List (List Value)),(∀z∈ls,z.length=size)→ls.flatten.length=ls.length*size
 | [],_=>by simp
 |z::ls,h=>by
  rw [uc,aT,q8 ls (fun y hy=>h y (by simp [hy])),h z sM,ga,ud]
  omega
theorem Vg{size:Nat}:∀(ls:List (List Value)) (q:Nat) (vs:List Value),(∀z∈ls,z.length=size)→q<ls.length→vs.length=size→
  (ls.set q vs).flatten=ls.flatten.take (q*size)++vs++ls.flatten.drop (q*size+vs.length)
 | [],q,_,_,h,_=>by simp at h
 |z::ls,0,vs,h,_,hv=>by
  have hz:=h z sM
  simp only [List.set_cons_zero,uc,Nat.zero_mul,Ah,Er,ub]
  rw [hv,←hz,List.drop_left]
 |z::ls,q+1,vs,h,hq,hv=>by
  have hz:=h z sM
  have ih:=Vg ls q vs (fun y hy=>h y (by simp [hy])) (by simpa using hq) hv
  simp only [List.set_cons_succ,uc,ih]
  have e1:(q+1)*size=z.length+q*size:=by rw [hz,ud];omega
  rw [e1,List.take_length_add_append,BY,Oq]
  simp
theorem EJ{A:Option Addr}{m c size:Nat}{ls:List (List Value)}(h:(an.ag e size A m c ls).holds w)(hm:0<m):∃g eO,A=some ⟨g,0,none⟩∧w.heap[g]?=some (.cells eO e (0,0))∧m≤c∧c≤maxLen∧eO.size=c*size∧eO.toList.take (m*size)=ls.flatten:=by
 obtain⟨⟨_,h2⟩,_,_⟩:=h
 rcases h2 with⟨_,h0⟩|⟨g,cap,eO,hv,_,hh,h3,h4,h5,h6⟩
 ·omega
 ·simp only [Value.slice.injEq,true_and]at hv
  obtain⟨rfl,rfl⟩:=hv
  exact⟨g,eO,rfl,hh,h3,h4,h5,h6⟩
theorem Hm{g m c size o':Nat}{ls fH:List (List Value)}{eO:Array Value}{vs:List Value}(hh:w.heap[g]?=some (.cells eO e (0,0)))(Au:m≤c)(hc:c≤maxLen)(fF:eO.size=c*size)(ht:eO.toList.take (m*size)=ls.flatten)
  (hb:o'+vs.length≤m*size)(hl:fH.length=m)(hz:∀z∈fH,z.length=size)(hf:fH.flatten=ls.flatten.take o'++vs++ls.flatten.drop (o'+vs.length)):
  (an.ag e size (some ⟨g,0,none⟩) m c fH).holds (w.setRow g (eO.toList.take o'++vs++eO.toList.drop (o'+vs.length)).toArray):=by
 have Av:m*size≤c*size:=sQ _ Au
 refine⟨⟨by rw [q8 fH hz,hl],.inr ⟨g,c,_,rfl,gl _,setRow_heap w g eO _ e _ hh,Au,hc,?_,?_⟩⟩,hl,hz⟩
 ·simp only [List.size_toArray,aT,eM,kQ,Es,fF]
  omega
 ·rw [hf,←ht]
  clear hf ht hz hl
  apply Ai
  intro j
  simp only [Eo,List.getElem?_append,aT,eM,Es,fF,GO]
  have e1:min o' (c*size)=o':=oM
  have e2:min (min o' (m*size)) (c*size)=o':=oM
  have e3:min o' (min (m*size) (c*size))=o':=oM
  simp only [e1,e3]
  by_cases h1:j<m*size
  ·simp only [h1,if_true]
   by_cases h2:j<o'+vs.length
   ·simp only [h2,if_true]
   ·simp only [h2,wQ]
    have:o'+vs.length+(j-(o'+vs.length))<m*size:=oM
    simp [this]
  ·simp only [h1,wQ]
   have h2:¬j<o'+vs.length:=oM
   simp only [h2,wQ]
   have:¬o'+vs.length+(j-(o'+vs.length))<m*size:=oM
   simp [this]
theorem s3{A:Option Addr}{m c size q:Nat}{ls:List (List Value)}{l:List an}{v:Value}(ho:o.op= .store t x y)(hd:o.dst=none)(fF:Sz P t size)(hx:ev ai x=some (.pointer (some ((bN A).add (q*size)))))(hy:ev ai y=some v)
  (hv:Ar v=false)(hl:(dK v).length=size)(h1:ja (dK v)=true)(hs:ae mem (.ag e size A m c ls) l)(hq:q<m):
  H1 P X W n ⟨ai,mem⟩ o (fun _:Unit=>True) (fun _=>⟨ai,.ag e size A m c (ls.set q (dK v))::l⟩):=by
 intro a w cz k Q hk
 have hh:=hs.holds cz.mem
 obtain⟨g,eO,rfl,hg,h3,h4,h5,h6⟩:=EJ hh  oM
 obtain⟨_,fe,hz⟩:=hh
 have Vh:q*size+size≤m*size:=by rw [←GQ];exact sQ _ hq
 have Av:m*size≤c*size:=sQ _ h3
 have cG:=GP P g (q*size) e (dK v) 0 eO w hg  oM (As h1)
 have fG:(execOp a.eval o).run P w= .ok .skip (w.setRow g (eO.toList.take (q*size)++dK v++eO.toList.drop (q*size+(dK v).length)).toArray):=by
  have Hn:(bN (some ⟨g,0,none⟩)).add (q*size)=⟨g,q*size,none⟩:=by simp [bN,vf]
  rw [←hl]at fF
  simp only [execOp,ho,cz.eval hx,cz.eval hy,Instr.storeAt,Instr.sureAddr,storeVar,Hn,EI hv]
  simp [fF.run,cG]
 refine Hl fG ?_
 rw [hd]
 refine hk () _ _ trivial ?_
 have hw:=Hm (ls:=ls) (fH:=ls.set q (dK v)) (vs:=dK v) hg h3 h4 h5 h6  oM (by simpa using fe) (fun z mX=>by
  rcases B0 mX with h|rfl
  ·exact hz z h
  ·exact hl) (Vg ls q (dK v) hz  oM hl)
 have hm:Mem (fun k=>k=g) w [.ag e size (some ⟨g,0,none⟩) m c (ls.set q (dK v))] _:=Mem.nil.cons hw (fun k hk=> .inr (by simpa [an.at,eq_comm]using hk)) sM
 exact cz.change (Y:=fun k=>k=g) (cs:= [.ag e size (some ⟨g,0,none⟩) m c ls]) (ls:=l) hs.aK EH (fun k hk=>⟨.ag e size (some ⟨g,0,none⟩) m c ls,by simp,by simp [hk,an.at]⟩) hm
theorem bb.row{w w':World}{row:Option Nat}(h:w.grownBy w' row)(hd:w.drawn≤w'.drawn):bb (fun k=>row=some k) w w':=⟨h.os,h.tape,h.output,h.size,fun k hk hx=>h.block k hk (fun e=>hx e.symm),hd⟩
theorem cY{A A':Option Addr}{m c m' c' size bytes:Nat}{ls fH:List (List Value)}{l:List an}{zs:List Value}(ho:o.op= .call {callee:= .builtin .append,args:= #[x,y],argTypes:= #[t,t]})(hd:o.dst=some d)(hdn:Nat.blt d n=true)
  (ht:P.underlying t=some (.slice e))(hi:vp P e zs (size+1) bytes)(rZ:zs.length=size+1)(hx:ev ai x=some (.slice A m c))(hs:ae mem (.ag e (size+1) A m c ls) l)(hy:ev ai y=some (.slice A' m' c'))(hr:iH X W ⟨ai,mem⟩ A' (size+1) fH)
  (KU:fH.length=m')(mX:∀z∈fH,z.length=size+1)(h1:∀z∈fH,ja z=true)(hb:(m+m')*bytes≤140737488355328)(Hp:m+m'≤9223372036854775807):
  H1 P X W n ⟨ai,mem⟩ o (fun _:Option Addr×Nat=>True) (fun i=>⟨(d,.slice i.1 (m+m') i.2)::ai,.ag e (size+1) i.1 (m+m') i.2 (ls++fH)::l⟩):=by
 intro a w cz k Q hk
 have hh:=hs.holds cz.mem
 obtain⟨OO,fe,hz⟩:=hh
 obtain⟨i,z,fT,pE,vr,s4,Aw⟩:=hi
 have Hq:z.cells.size=size+1:=by rw [←rZ,←vr,Es]
 have cp:=hr w cz.dx cz.mem
 have afR:m+m'≤maxLen:=by simpa [maxLen]using Hp
 have Cf:∀z∈ls++fH,z.length=size+1:=fun z OP=>(ep.1 OP).elim (hz z) (mX z)
 have lC:(ls++fH).length=m+m':=by simp [fe,KU]
 have key:∃s5 vt w',(Builtin.append_ #[t,t] o.type #[.slice A m c,.slice A' m' c']).run P w= .ok (.slice s5 (m+m') vt) w'∧w'.ownsRow 0 e (size+1) (.slice s5 (m+m') vt) (m+m') (ls++fH).flatten∧w.grownBy w' (A.map (·.block))∧
   (s5.map (·.block)=A.map (·.block)∨s5.map (·.block)=some w.heap.size):=by
  rcases A' with _|ad
  ·have KV:fH= []:=by
    rcases cp with h|⟨ad,h,_⟩
    ·exact h
    ·cases h
   subst KV
   simp only [jI]at KU
   subst KU
   refine⟨A,c,w,?_,by simpa using OO,World.grownBy.refl w _,.inl rfl⟩
   rcases OO.2 with⟨hv,h0⟩|⟨g,cap,eO,hv,_,_,hnc,_⟩
   ·simp only [Value.slice.injEq]at hv
    obtain⟨rfl,_,rfl⟩:=hv
    subst h0
    simp [Builtin.append_,dM ht,sizeOf,typeInfo,fT,Builtin.lenOf,Builtin.firstCells]
   ·simp only [Value.slice.injEq,true_and]at hv
    obtain⟨rfl,rfl⟩:=hv
    simp [Builtin.append_,dM ht,sizeOf,typeInfo,fT,Builtin.lenOf,Builtin.firstCells,hnc,storeCells]
  ·have OQ:∀j u,fH.flatten[j]?=some u→w.cell? (ad.add j)=some u:=by
    intro j u hj
    rcases cp with h|⟨Vi,h,hc⟩
    ·subst h;simp at hj
    ·simp only [Option.some.injEq]at h
     subst h
     have um:j<fH.length*(size+1):=by rw [←q8 fH mX];exact(wN.1 hj).1
     have hq:j/(size+1)<fH.length:=Kq (by rw [ym];exact um)
     have jn:j%(size+1)<(fH[j/(size+1)]).length:=by rw [mX _ (GR hq)];exact Et _  oM
     have h2:=EE fH (size+1) mX (j/(size+1)) _ (fi hq) (j%(size+1)) _ (fi jn)
     have e:j/(size+1)*(size+1)+j%(size+1)=j:=by rw [ym];exact Kr _ _
     rw [e]at h2
     rw [hj]at h2
     have h3:=hc (j/(size+1)) _ (fi hq) (j%(size+1)) _ (fi jn)
     rw [e]at h3
     rw [h3];exact h2.symm
   obtain⟨v',w',fG,KW,hg,_,ql⟩:=run_append_own_at (P:=P) w 0 t o.type e i z (size+1) bytes ht fT pE s4 Aw Hq  oM (.slice A m c) m ls.flatten OO ad m' c' fH.flatten (by rw [q8 fH mX,KU]) OQ
    (fun u hu=>by
     obtain⟨z,OP,huz⟩:=List.mem_flatten.1 hu
     exact As (h1 z OP) u huz) afR hb (gl _)
   rw [KJ]at hg ql
   have afU:∃s5 vt,v'= .slice s5 (m+m') vt:=by
    rcases KW.2 with⟨hv,h0⟩|⟨g,cap,eO,hv,_⟩
    ·exact⟨none,0,by rw [h0];exact hv⟩
    ·exact⟨_,cap,hv⟩
   obtain⟨s5,vt,rfl⟩:=afU
   rw [KJ]at ql
   exact⟨s5,vt,w',fG,by rw [Kt];exact KW,hg,ql⟩
 obtain⟨s5,vt,w',fG,KW,hg,ql⟩:=key
 have afV:(execOp a.eval o).run P w= .ok (.value (.slice s5 (m+m') vt)) w':=by
  simp [execOp,ho,resolve,invoke,builtin,cz.eval hx,cz.eval hy,fG]
 refine vq afV ?_
 rw [hd]
 refine hk (s5,vt) _ _ trivial ?_
 have hm:Mem (fun k=>A.map (·.block)=some k) w [.ag e (size+1) s5 (m+m') vt (ls++fH)] w':=by
  refine Mem.nil.cons (r:= .ag e (size+1) s5 (m+m') vt (ls++fH)) ⟨KW,lC,Cf⟩ (fun k hk=>?_) sM
  simp only [an.at]at hk
  rcases ql with h|h
  ·rw [h]at hk;exact .inr hk
  ·rw [h]at hk;cases hk;exact .inl (cE _)
 have:=cz.change (Y:=fun k=>A.map (·.block)=some k) (cs:= [.ag e (size+1) A m c ls]) (ls:=l) hs.aK (bb.row hg (qk _ _ _ _ fG)) (fun k hk=>⟨.ag e (size+1) A m c ls,by simp,by simpa [an.at]using hk⟩) hm
 exact this.put hdn _
inductive vu(ai:List (Nat×Value))(size:Nat):Nat→List (Nat×Operand)→List Value→Prop where
 |nil {i:Nat}:vu ai size i [] []
 |cons {i:Nat} {x:Operand} {v:Value} {xs:List (Nat×Operand)} {vs:List Value} (h:ev ai x=some v) (hv:Ar v=false) (hl:(dK v).length=size) (h1:ja (dK v)=true) (t:vu ai size (i+1) xs vs):vu ai size i ((i,x)::xs) (v::vs)
theorem afW(cs:List Value):∀(off:Nat) (c:Array Value),off+cs.length≤c.size→
  (cs.zipIdx.foldl (fun(a:Array Value) (p:Value×Nat)=>a.setIfInBounds (off+p.2) p.1) c).toList=c.toList.take off++cs++c.toList.drop (off+cs.length):=by
 suffices h:∀(i off:Nat) (c:Array Value),off+i+cs.length≤c.size→
   ((cs.zipIdx i).foldl (fun(a:Array Value) (p:Value×Nat)=>a.setIfInBounds (off+p.2) p.1) c).toList=c.toList.take (off+i)++cs++c.toList.drop (off+i+cs.length) by
  intro off c hc
  simpa using h 0 off c  oM
 induction cs with
 |nil=>intro i off c _;simp
 |cons v cs ih=>
  intro i off c hc
  simp only [List.zipIdx_cons,GS]
  rw [ih (i+1) off (c.setIfInBounds (off+i) v) (by simp at hc⊢;omega)]
  rw [Array.toList_setIfInBounds]
  have:=list_seg_step c.toList (off+i) v cs (by simp at hc⊢;omega)
  simpa [BY]using this
theorem Vj{size:Nat}:∀{i:Nat} {xs:List (Nat×Operand)} {vs:List Value},vu ai size i xs vs→cB X W n ⟨ai,mem⟩ a w→∀(c:Array Value),(i+xs.length)*size≤c.size→
  ∃c':Array Value,Instr.fill (fun i=>some (i*size,size)) c (xs.map fun p=>(p.1,a.eval p.2))=some c'∧c'.toList=c.toList.take (i*size)++(vs.map dK).flatten++c.toList.drop ((i+xs.length)*size)
 |i,_,_,.nil,_,c,_=>⟨c,rfl,by simp⟩
 |i,_,_,.cons (x:=x) (v:=v) (xs:=xs) (vs:=vs) h hv hl h1 t,hs,c,hc=>by
  have b_:v.cells=(dK v).toArray:=EI hv
  simp only [ga]at hc
  have aw4:i*size+size≤c.size:=by
   have:(i+1)*size≤(i+(xs.length+1))*size:=sQ _  oM
   rw [ud]at this;omega
  obtain⟨c',h2,h3⟩:=Vj t hs (v.cells.zipIdx.foldl (fun cs (p:Value×Nat)=>cs.setIfInBounds (i*size+p.2) p.1) c) (by
   have h4:∀(l:List (Value×Nat)) (c:Array Value),(l.foldl (fun cs (p:Value×Nat)=>cs.setIfInBounds (i*size+p.2) p.1) c).size=c.size:=by
    intro l
    induction l with
    |nil=>intro c;rfl
    |cons p l ih=>intro c;rw [GS,ih];simp
   rw [←Ku,h4]
   rw [show i+1+xs.length=i+(xs.length+1)from oM];exact hc)
  refine⟨c',?_,?_⟩
  ·simp only [mQ,Instr.fill,hs.eval h]
   rw [aD (by simp [b_,hl];omega)]
   exact h2
  ·have e:=afW (dK v) (i*size) c  oM
   have ez:(v.cells.zipIdx.foldl (fun cs (p:Value×Nat)=>cs.setIfInBounds (i*size+p.2) p.1) c).toList=c.toList.take (i*size)++dK v++c.toList.drop (i*size+(dK v).length):=by
    rw [←e,←Ku,b_];simp
   rw [h3,ez]
   have e1:(i+1)*size=(c.toList.take (i*size)++dK v).length:=by simp [hl,ud];omega
   have e2:(i+1+xs.length)*size=(c.toList.take (i*size)++dK v).length+xs.length*size:=by rw [←e1,ud]
   rw [e2,e1,List.take_left,Oq,List.drop_drop]
   simp only [mQ,uc,cj,ga]
   congr 4
   rw [hl,ud i,ud xs.length];omega
theorem vu.len{size i:Nat}{xs:List (Nat×Operand)}{vs:List Value}(h:vu ai size i xs vs):vs.length=xs.length∧∀z∈vs.map dK,z.length=size:=by
 induction h with
 |nil=>simp
 |cons h hv hl h1 t ih=>simp only [ga,ih.1,mQ,gP,true_and];rintro z (rfl|hz);exact hl;exact ih.2 z hz
theorem ey{m size bytes:Nat}{zs:List Value}{xs:List (Nat×Operand)}{vs:List Value}(ho:o.op= .buildSlice t m xs.toArray)(hd:o.dst=some d)(hdn:Nat.blt d n=true)(ht:P.underlying t=some (.slice e))(hi:vp P e zs (size+1) bytes)
  (hp:vu ai (size+1) 0 xs vs)(hm:xs.length=m)(aw5:m*(size+1)≤16777216):
  H1 P X W n ⟨ai,mem⟩ o (fun _:Nat=>True) (fun b=>⟨(d,.slice (some ⟨b,0,none⟩) m m)::ai,.ag e (size+1) (some ⟨b,0,none⟩) m m (vs.map dK)::mem⟩):=by
 intro a w hs k Q hk
 obtain⟨i,z,fT,pE,vr,s4,Aw⟩:=hi
 subst hm
 obtain⟨gw,hz⟩:=hp.len
 let zero:Array Value:=if xs.length*(size+1)=0 then #[]else z.cells
 obtain⟨c',hf,oy⟩:=Vj (a:=a) hp hs ((Array.range (xs.length*(size+1))).map (zero[· %zero.size]!)) sM
 have xe:c'.toList=(vs.map dK).flatten:=by
  rw [oy,vg sM];simp
 have kB:c'=(vs.map dK).flatten.toArray:=by rw [←xe]
 have fG:(execOp a.eval o).run P w= .ok (.value (.slice (some ⟨w.heap.size,0,none⟩) xs.length xs.length)) (w.alloc (.cells (vs.map dK).flatten.toArray e)):=by
  have afX:(xs.toArray.map fun x=>(x.1,a.eval x.2)).toList=xs.map fun p=>(p.1,a.eval p.2):=by simp
  rw [←kB]
  simp only [execOp,ho,Instr.buildSlice,wO,dM ht,yk,sizeOf,typeInfo,BZ,run_program,fT,s4,afX]
  have fj:¬(xs.length*(size+1)>2^24):=oM
  simp only [fj,wQ]
  by_cases h0:xs.length*(size+1)=0
  ·have Ax:zero= #[]:=by simp [zero,h0]
   rw [Ax]at hf
   simp only [h0]at hf⊢
   simp only [wO,BZ,yk,if_true,hf]
   simp [newRow]
  ·have Ax:zero=z.cells:=by simp [zero,h0]
   rw [Ax]at hf
   simp [h0,zeroValue,typeInfo,fT,pE,hf,newRow]
 refine vq fG ?_
 rw [hd]
 refine hk w.heap.size _ _ trivial (cB.put (hs.new _ (.ag e (size+1) (some ⟨w.heap.size,0,none⟩) xs.length xs.length (vs.map dK)) ⟨?_,?_,hz⟩ (fun _ h=>(Option.some.inj h).symm)) hdn _)
 ·have:=World.ownsRow_lit (base:=0) (e:=e) (size:=size+1) w (vs.map dK).flatten.toArray xs.length (gl _) (by have:=Nat.le_mul_of_pos_right xs.length (show 0<size+1 from oM);simp [maxLen];omega) (by simp only [List.size_toArray];rw [q8 _ hz,bE,gw])
  simpa using this
 ·simp [gw]
theorem KX{m cap:Nat}{kl kc:IntKind}{z:Value}{bytes:Nat}(ho:o.op= .makeSlice t x y)(hd:o.dst=some d)(hdn:Nat.blt d n=true)(ht:P.underlying t=some (.slice e))(hi:vp P e [z] 1 bytes)(hx:ev ai x=some (.int kl m))(hy:ev ai y=some (.int kc cap))(Au:m≤cap)
  (hb:bytes*cap≤281474976710656)(Hp:cap≤9223372036854775807):
  H1 P X W n ⟨ai,mem⟩ o (fun _:Nat=>True) (fun b=>⟨(d,.slice (some ⟨b,0,none⟩) m cap)::ai,.ag e 1 (some ⟨b,0,none⟩) m cap (List.replicate m [z])::mem⟩):=by
 intro a w hs k Q hk
 obtain⟨i,z',fT,pE,vr,s4,Aw⟩:=hi
 have mX:z'.cells= #[z]:=by apply Array.ext';simpa using vr
 have lW:(i.bytes:Int)*(cap:Int)≤281474976710656:=by
  rw [Aw]
  have h:((bytes*cap:Nat):Int)≤281474976710656:=oM
  rwa [GU]at h
 have hr:=run_make (P:=P) w t e i z' ht fT pE kl kc m cap  oM oM lW  oM
 simp only [Int.toNat_natCast,s4,Nat.mul_one,mX]at hr
 have fG:(execOp a.eval o).run P w= .ok (.value (.slice (some ⟨w.heap.size,0,none⟩) m cap)) (w.alloc (.cells (madeCells #[z] cap) e)):=by
  simp [execOp,ho,hs.eval hx,hs.eval hy,hr]
 refine vq fG ?_
 rw [hd]
 refine hk w.heap.size _ _ trivial (cB.put (hs.new _ (.ag e 1 (some ⟨w.heap.size,0,none⟩) m cap (List.replicate m [z])) ⟨⟨?_,.inr ⟨w.heap.size,cap,_,rfl,gl _,heap_alloc_new w _,Au,by simpa [maxLen]using Hp,by simp [size_madeCells],?_⟩⟩,by simp,by simp⟩ (fun _ h=>(Option.some.inj h).symm)) hdn _)
 ·rw [q8 (size:=1) _ sM];simp
 ·rw [toList_madeCells_one]
  simp only [Nat.mul_one,List.take_replicate,vh Au]
  simp
theorem oz{f:FuncId}{xs:List Operand}{ts:Array TypeId}{vs:List Value}{Y:World→Nat→Prop}{Φ:Value→List an→Prop}(cs ls:List an)(ho:o.op= .call {callee:= .value (.func f),args:=xs.toArray,argTypes:=ts})(hd:o.dst=some d)(hdn:Nat.blt d n=true)
  (hf:fw P f)(hx:lB ai xs vs)(hp:mem.Perm (cs++ls))(hY:∀w b,Y w b→∃r∈cs,r.at b)(hc:∀w,bb X W w→Mem X W mem w→Calls P f vs.toArray w (bJ w (Y w) Φ)):
  H1 P X W n ⟨ai,mem⟩ o (fun i:Value×List an=>Φ i.1 i.2) (fun i=>⟨(d,i.1)::ai,i.2++ls⟩):=by
 intro a w hs k Q hk
 unfold Oper.wp
 rw [Vb ho hf hx hs]
 refine(hc w hs.dx hs.mem).mono ?_
 rintro e w' ⟨v,m,hΦ,rfl,Hs,hm⟩
 have h2:=(hs.change hp Hs (hY w) hm).put hdn v
 show k (a.put o.dst v) w'
 rw [hd]
 exact hk (v,m) _ _ hΦ h2
theorem uo{f:FuncId}{xs:List Operand}{ts:Array TypeId}{vs:List Value}{Φ:Value→List an→Prop}(ho:o.op= .call {callee:= .value (.func f),args:=xs.toArray,argTypes:=ts})(hd:o.dst=some d)(hdn:Nat.blt d n=true)
  (hf:fw P f)(hx:lB ai xs vs)(hc:∀w,bb X W w→Mem X W mem w→Calls P f vs.toArray w (bJ w nX Φ)):
  H1 P X W n ⟨ai,mem⟩ o (fun i:Value×List an=>Φ i.1 i.2) (fun i=>⟨(d,i.1)::ai,i.2++mem⟩):=
 oz (Y:=fun _=>nX) [] mem ho hd hdn hf hx (List.Perm.refl _) (fun _ _ h=>h.elim) hc
end
theorem ar.qn{m:List an}:ar m (.aY []::m):=ar.close_ (rs:= [])
theorem ar.cM{m:List an}(e:TypeId)(size:Nat):ar m (.ag e size none 0 0 []::m):=fun _ _ w h=>
 ⟨h.cons (r:= .ag e size none 0 0 []) ⟨⟨by simp,.inl ⟨rfl,rfl⟩⟩,rfl,by simp⟩ (fun b hb=>by simp [an.at]at hb) (fun _ _ b hb=>by simp [an.at]at hb),
  fun r hr b hb=>by
  rcases gP.1 hr with rfl|hr
  ·simp [an.at]at hb
  ·exact⟨r,hr,hb⟩⟩
end
inductive na(P:Program)(ai:List (Nat×Value))(mem:List an):List ResultVar→List Value→Prop where
 |nil:na P ai mem [] []
 |tmp {t:Tmp} {v:Value} {rs:List ResultVar} {vs:List Value} (h:dw ai t=some v) (r:na P ai mem rs vs):na P ai mem (.tmp t::rs) (v::vs)
 |EK {a:Tmp} {T tb:TypeId} {b i s:Nat} {cs:List (Nat×Value)} {l:List an} {us:List Value} {rs:List ResultVar} {vs:List Value} (h:dw ai a=some (.pointer (some ⟨b,i,none⟩))) (ht:i_ P T s) (hs:ae mem (.aj b tb cs) l) (hv:my cs i us) (hl:us.length=s)
   (r:na P ai mem rs vs):na P ai mem (.cell a T::rs) (.agg us.toArray::vs)
 |Vk {a:Tmp} {T tb:TypeId} {b i:Nat} {cs:List (Nat×Value)} {l:List an} {u:Value} {rs:List ResultVar} {vs:List Value} (h:dw ai a=some (.pointer (some ⟨b,i,none⟩))) (ht:mz P T) (hs:ae mem (.aj b tb cs) l) (hv:dw cs i=some u)
   (r:na P ai mem rs vs):na P ai mem (.cell a T::rs) (u::vs)
def KY:List Value→Value
 | [v]=>v
 |vs=> .tuple vs.toArray
def Ht(tmps:Array Value):ResultVar→Sem Value
 | .tmp t=>pure (tmps.getD t undef)
 | .cell ad t=>do loadVar t (←asAddr (tmps.getD ad undef))
theorem afY{P:Program}{X:Nat→Prop}{W:World}{n:Nat}{ai:List (Nat×Value)}{mem:List an}{rs:List ResultVar}{vs:List Value}(h:na P ai mem rs vs){a:Act}{w:World}(hs:cB X W n ⟨ai,mem⟩ a w):
  (rs.mapM (Ht a.tmps)).run P w= .ok vs w:=by
 induction h with
 |nil=>simp
 |tmp h r ih=>simp [List.mapM_cons,Ht,hs.ai _ _ h,ih]
 |EK h ht cO hv hl r ih=>
  have hc:=run_loadCells_list (P:=P) w ⟨_,_,none⟩ _ (fun j v hj=>by rw [vf];exact EG (cO.holds hs.mem) (hv.get j v hj))
  simp [List.mapM_cons,Ht,hs.ai _ _ h,ih,asAddr,loadVar,ht.1,ht.2.run,←hl,hc]
 |Vk h ht cO hv r ih=>
  have hc:=EG (cO.holds hs.mem) hv
  simp [List.mapM_cons,Ht,hs.ai _ _ h,ih,asAddr,loadVar,ht.1,hc]
theorem cx{P:Program}{fn:Func}{X:Nat→Prop}{W:World}{n:Nat}{ai:List (Nat×Value)}{mem:List an}{Φ:Value→List an→Prop}{rs:List ResultVar}{vs:List Value}(hr:fn.results=rs.toArray)(ho:na P ai mem rs vs)(yz:List an)(hm:ar mem yz)(hΦ:Φ (KY vs) yz):
  bt P fn (bJ W X Φ) X W n [] ⟨ai,mem⟩:=by
 intro a w hs
 refine⟨hs.defers,KY vs,?_,_,yz,hΦ,rfl,hs.dx,(hm _ _ _ hs.mem).1⟩
 have h:=afY ho hs
 have e:results fn a.tmps=(do let vs←rs.toArray.mapM (Ht a.tmps);pure (if h:vs.size=1 then vs[0]else .tuple vs)):=by
  unfold results;rw [hr];rfl
 rw [e]
 simp only [List.mapM_toArray,wO,Sem.run_map,h,yk,BZ]
 congr 1
 cases vs with
 |nil=>rfl
 |cons v r=>cases r<;>simp [KY]
section
variable{P:Program}{aq:Array Oper}{C:World→Prop}{D:Nat→World→World→Prop}{Q:Act→World→Prop}
def jW(aq:Array Oper)(aO:Array Bool):Prop:=∀j o,aq[j]?=some o→aO.getD j false=true→∀e∈o.after,Region.binds .any e=true→aO.getD e.on false=true
theorem jW.step{aO:Array Bool}{j:Nat}(h:jW aq aO)(hj:j∈Region.ready .any aq aO):jW aq (aO.setIfInBounds j true):=by
 intro i o hi hl e he hb
 refine getD_set_true ?_
 obtain⟨_,oj,s6,fI⟩:=mem_ready.1 hj
 by_cases lD:j=i
 ·subst lD
  rw [hi]at s6;cases s6
  exact fI e he hb
 ·rw [getD_set_ne false lD]at hl
  exact h i o hi hl e he hb
def fJ(P:Program)(aq:Array Oper)(D:Nat→World→World→Prop)(Q:Act→World→Prop)(E:Exit→Act→World→Prop):Nat→Array Bool→Act→World→Prop
 |0,aO,a,w=>∀w1,bb nX w w1→Region.ready .any aq aO= []∧Q a w1
 |dh+1,aO,a,w=>∀w1,bb nX w w1→(Region.ready .any aq aO= []→Q a w1)∧
   ∀i∈Region.ready .any aq aO,wpOp P aq E i (fun a' w'=>D i w1 w'∧fJ P aq D Q E dh (aO.setIfInBounds i true) a' w') a w1
theorem fJ.up{E:Exit→Act→World→Prop}{dh:Nat}{aO:Array Bool}{a:Act}{w w1:World}(h:fJ P aq D Q E dh aO a w)(hk:bb nX w w1):fJ P aq D Q E dh aO a w1:=by
 cases dh with
 |zero=>exact fun w2 q9=>h w2 (hk.fS q9)
 |succ dh=>exact fun w2 q9=>h w2 (hk.fS q9)
theorem fJ.any{E:Exit→Act→World→Prop}(hE:∀a w,Q a w→E .normal a w):∀{dh:Nat} {aO:Array Bool} {a:Act} {w:World},fJ P aq D Q E dh aO a w→wpAny P .any aq E dh aO a w
 |0,_,_,w,h=>⟨(h w (bb.refl _ _)).1,hE _ _ (h w (bb.refl _ _)).2⟩
 |_+1,_,_,w,h=>⟨fun h0=>hE _ _ ((h w (bb.refl _ _)).1 h0),fun i hi=>wpOp_mono (fun _ _ h'=>fJ.any hE h'.2) ((h w (bb.refl _ _)).2 i hi)⟩
def o7(P:Program)(aq:Array Oper)(C:World→Prop)(o:Oper)(v:Value)(a:Act):Prop:=
 (Region.wanted o (yielded aq a.tmps)=true∧∀w,C w→((execOp a.eval o).run P w= .ok (.value v) w∨((execOp a.eval o).run P w= .ok .skip w∧v=undef)∨
  ∃f args,(execOp a.eval o).run P w= .ok (.enter f args) w∧Calls P f args w fun e w'=>e= .returned v∧bb nX w w'))∨
 (Region.wanted o (yielded aq a.tmps)=false∧v=undef)
theorem o7.wpOp{E:Exit→Act→World→Prop}{i:Nat}{o:Oper}{v:Value}{a:Act}{w:World}(hi:aq[i]?=some o)(h:o7 P aq C o v a)(hw:C w){k:Act→World→Prop}(hk:∀w',bb nX w w'→k (a.put o.dst v) w'):wpOp P aq E i k a w:=by
 unfold Go.wpOp
 simp only [hi]
 rcases h with⟨h1,h2⟩|⟨h1,rfl⟩
 ·rw [aG h1]
  refine .inl ?_
  unfold Oper.wp
  rcases h2 w hw with h|⟨h,h3⟩|⟨f,args,h,hc⟩
  ·rw [h];exact hk _ (bb.refl _ _)
  ·rw [h];subst h3;exact hk _ (bb.refl _ _)
  ·rw [h];exact hc.mono fun e w' ⟨he,hw⟩=>by subst he;exact hk _ hw
 ·rw [aD (by rw [h1];simp)]
  exact hk _ (bb.refl _ _)
theorem o7.afZ{o oj:Oper}{v u:Value}{a:Act}(hy:o7 P aq C o v a)(hs:∀cs b,o.op≠ .select cs b)(h3:∀d,oj.dst=some d→d∉o.looksAt aq):o7 P aq C o v (a.put oj.dst u):=by
 unfold o7 at*
 rw [execOp_put o hs a oj.dst u h3,wanted_put o a oj.dst u h3]
 exact hy
def jo(Q:Act→World→Prop):Exit→Act→World→Prop:=fun e a w=>e= .normal∧Q a w
theorem af0{j:Nat}{oi oj:Oper}{v:Value}{T:Act→World→Prop}(hj:aq[j]?=some oj)(Am:oi.apart aq oj=true)
  (Vl:∀cs b,oi.op≠ .select cs b)(Vm:∀cs b,oj.op≠ .select cs b){K:Act→World→Prop}{a:Act}{w:World}
  (hy:o7 P aq C oi v a)(h:wpOp P aq (jo T) j K (a.put oi.dst v) w):
  wpOp P aq (jo T) j (fun a' w'=>o7 P aq C oi v a'∧K (a'.put oi.dst v) w') a w:=by
 obtain⟨h1,h2,h3⟩:=Oper.apart_spec Am
 have o5:∀(a:Act),o7 P aq C oi v a→∀u,o7 P aq C oi v (a.put oj.dst u):=fun a hy u=>hy.afZ Vl h3
 have af1:∀d,o7 P aq C oi v {a with defers:=d::a.defers}:=fun d=>hy
 unfold wpOp at*
 simp only [hj]at*
 rw [wanted_put oj a oi.dst v h1]at h
 split
 ·rename_i hw
  simp only [hw,if_true]at h
  rcases h with h|⟨Vn,af2⟩
  case inr=>exact .inr ⟨by unfold Oper.asks at*;rw [execOp_put oj Vm a oi.dst v h1]at Vn;exact Vn,af2⟩
  refine .inl ?_
  unfold Oper.wp at*
  rw [execOp_put oj Vm a oi.dst v h1]at h
  generalize (execOp a.eval oj).run P w=r at*
  cases r with
  |ok n w'=>
   cases n<;>simp only [Oper.upon]at h⊢
   case value u=>exact⟨o5 a hy u,by rw [←Act.put_comm a v u h2];exact h⟩
   case skip=>exact⟨o5 a hy _,by rw [←Act.put_comm a v undef h2];exact h⟩
   case defer d=>
    refine⟨o5 _ (af1 d) _,?_⟩
    rw [←Act.put_comm _ v undef h2,←Act.put_defers]
    exact h
   case enter f args=>
    refine Calls.mono h fun e Hu he=>?_
    cases e with
    |returned u=>exact⟨o5 a hy u,by rw [←Act.put_comm a v u h2];exact he⟩
    |panicked c=>exact absurd he.1 sM
    |outgrown=>exact he
   case row row args=>exact Rows.mono h fun u Hu he=>⟨o5 a hy u,by rw [←Act.put_comm a v u h2];exact he⟩
  |halt x w'=>
   cases x<;>simp only [Oper.upon]at h⊢
   case panic u=>exact absurd h.1 sM
 ·rename_i hw
  simp only [hw]at h
  exact⟨o5 a hy _,by rw [←Act.put_comm a v undef h2];exact h⟩
theorem fJ.first{T:Act→World→Prop}{i:Nat}{oi:Oper}{v:Value}(hi:aq[i]?=some oi)(cU:∀(j:Nat) (o:Oper) cs b,aq[j]?=some o→o.op≠ .select cs b)(Ay:∀w w',C w→bb nX w w'→C w')
  (Vo:∀w1 w',bb nX w1 w'→D i w1 w')(hD:∀aO j w1 w',jW aq aO→aO.getD i true=false→j∈Region.ready .any aq aO→C w1→D j w1 w'→C w'):
  ∀(dh:Nat) (aO:Array Bool) (a:Act) (w:World),jW aq aO→
   (∀j oj,aq[j]?=some oj→j≠i→aO.getD j true=false→(∀e∈oj.after,Region.binds .any e=true→e.on≠i)→oi.apart aq oj=true)→
   i∈Region.ready .any aq aO→o7 P aq C oi v a→C w→
   fJ P aq D Q (jo T) dh (aO.setIfInBounds i true) (a.put oi.dst v) w→fJ P aq D Q (jo T) (dh+1) aO a w:=by
 intro dh
 induction dh with
 |zero=>
  intro aO a w _ _ hr hy hw H w1 cC
  refine⟨fun h=>(by rw [h]at hr;cases hr),fun j hj=>?_⟩
  by_cases Az:j=i
  ·subst Az;exact hy.wpOp hi (Ay _ _ hw cC) fun w' cu=>⟨Vo _ _ cu,H.up (cC.fS cu)⟩
  ·have:=ready_mono hj Az
   rw [(H w1 cC).1]at this
   cases this
 |succ dh ih=>
  intro aO a w b_ Vp hr hy hw H w1 cC
  refine⟨fun h=>(by rw [h]at hr;cases hr),fun j hj=>?_⟩
  by_cases Az:j=i
  ·subst Az;exact hy.wpOp hi (Ay _ _ hw cC) fun w' cu=>⟨Vo _ _ cu,H.up (cC.fS cu)⟩
  ·have h1:=(H w1 cC).2 j (ready_mono hj Az)
   obtain⟨Vq,oj,s6,fI⟩:=mem_ready.1 hj
   have xd:∀e∈oj.after,Region.binds .any e=true→e.on≠i:=fun e he hb heq=>by
    have h1:=fI e he hb
    have h0:=(mem_ready.1 hr).1
    rw [heq]at h1
    rcases jH i aO.size with h'|h'
    ·simp [h']at h0 h1;rw [h0]at h1;cases h1
    ·simp [Ek h']at h1
   have h2:=af0 s6 (Vp j oj s6 Az Vq xd) (fun cs b=>cU i oi cs b hi) (fun cs b=>cU j oj cs b s6) hy h1
   have af3:∀k ok,aq[k]?=some ok→k≠i→(aO.setIfInBounds j true).getD k true=false→
     (∀e∈ok.after,Region.binds .any e=true→e.on≠i)→oi.apart aq ok=true:=fun k ok hk Hv xf lX=>by
    refine Vp k ok hk Hv ?_ lX
    by_cases Hw:j=k
    ·subst Hw;exact Vq
    ·rw [getD_set_ne true Hw]at xf;exact xf
   refine wpOp_mono (fun a' w' h3=>⟨h3.2.1,ih (aO.setIfInBounds j true) a' w' (b_.step hj) af3 (ready_mono hr (Ne.symm Az)) h3.1 (hD aO j w1 w' b_ (mem_ready.1 hr).1 hj (Ay _ _ hw cC) h3.2.1) ?_⟩) h2
   rw [Array.setIfInBounds_comm _ _ Az]
   exact h3.2.2
end
def vv(aq:Array Oper):List (Nat×Nat)→Array Bool→Bool
 | [],aO=>(Region.ready .any aq aO).isEmpty
 |(i,0)::r,aO=>(Region.ready .any aq aO).contains i&&Region.free .any aq aO i&&vv aq r (aO.setIfInBounds i true)
 |(i,_+1)::r,aO=>(Region.ready .any aq aO== [i])&&vv aq r (aO.setIfInBounds i true)
def j_:List (Nat×Nat)→Nat→Nat
 | [],_=>1
 |(i,t)::r,j=>if i=j then t else j_ r j
def waits(aq:Array Oper)(j i:Nat):Bool:=match aq[j]? with
 |some o=>o.after.any fun e=>Region.binds .any e&&e.on==i
 |none=>false
def KZ(aq:Array Oper):Nat→List Nat→Bool
 |_, []=>true
 |t,u::r=>waits aq u t&&KZ aq u r
def AA(aq:Array Oper)(cg:List (Nat×Nat)):Bool:=
 match(cg.filter (·.2==2)).map (·.1)with
 | []=>true
 |t::r=>KZ aq t r&&((cg.filter (·.2≤1)).all fun p=>p.1<t&&(t::((cg.filter (·.2≤1)).map (·.1))).any fun m=>decide (p.1<m)&&decide (m≤t)&&waits aq m p.1)
def Hy(aq:Array Oper)(order:List (Nat×Nat)):Bool:=Region.noSelect aq&&Nat.beq order.length aq.size&&vv aq order (Array.replicate aq.size false)&&AA aq order
theorem OR{aq:Array Oper}{j i:Nat}(h:waits aq j i=true):∃o,aq[j]?=some o∧∃e∈o.after,Region.binds .any e=true∧e.on=i:=by
 unfold waits at h
 cases ho:aq[j]? with
 |none=>rw [ho]at h;cases h
 |some o=>
  rw [ho]at h
  simp only [Array.any_eq_true',eN,g_]at h
  obtain⟨e,he,hb,hi⟩:=h
  exact⟨o,rfl,e,he,hb,hi⟩
theorem OS:∀{cg:List (Nat×Nat)} {j t:Nat},j_ cg j=t→t≠1→(j,t)∈cg
 | [],_,_,h,h1=>absurd h.symm h1
 |(i,u)::r,j,t,h,h1=>by
  simp only [j_]at h
  split at h
  ·rename_i e;subst e;subst h;exact eA
  ·exact gR _ (OS h h1)
theorem K0{aq:Array Oper}{cg:List (Nat×Nat)}(h:AA aq cg=true){aO:Array Bool}(b_:jW aq aO){i j:Nat}(hi:j_ cg i=0)(hj:j_ cg j=2)(hr:j∈Region.ready .any aq aO):aO.getD i false=true:=by
 have da:=OS hi (by decide)
 have fK:=OS hj (by decide)
 unfold AA at h
 have K1:j∈(cg.filter (·.2==2)).map (·.1):=cL.2 ⟨(j,2),wR.2 ⟨fK,by simp⟩,rfl⟩
 obtain⟨_,oj,s6,Vr⟩:=mem_ready.1 hr
 generalize (cg.filter (·.2==2)).map (·.1)=af4 at h K1
 cases af4 with
 |nil=>cases K1
 |cons t r=>
  simp only [eN,sR,kR,jl]at h
  obtain⟨hch,Vs⟩:=h
  have hdt:∀o,aq[t]?=some o→∀e∈o.after,Region.binds .any e=true→aO.getD e.on false=true:=by
   have key:∀(r:List Nat) (t:Nat),KZ aq t r=true→j∈t::r→∀o,aq[t]?=some o→∀e∈o.after,Region.binds .any e=true→aO.getD e.on false=true:=by
    intro r
    induction r with
    |nil=>
     intro t _ hm o ho e he hb
     simp only [c_]at hm
     subst hm
     rw [s6]at ho;cases ho
     exact Vr e he hb
    |cons u r ih=>
     intro t hc hm o ho e he hb
     simp only [KZ,eN]at hc
     rcases gP.1 hm with rfl|hm
     ·rw [s6]at ho;cases ho
      exact Vr e he hb
     ·have h1:=ih u hc.2 hm
      obtain⟨ou,hou,eu,heu,hbu,nK⟩:=OR hc.1
      have h2:=h1 ou hou eu heu hbu
      rw [nK]at h2
      exact b_ t o ho h2 e he hb
   exact key r t hch K1
  have K2:∀(d i q:Nat),t-i≤d→q≤1→(i,q)∈cg→aO.getD i false=true:=by
   intro d
   induction d with
   |zero=>
    intro i q hd hq K3
    have:=(Vs (i,q) (wR.2 ⟨K3,by simpa using hq⟩)).1
    simp only at this
    omega
   |succ d ih=>
    intro i q hd hq K3
    obtain⟨bW,m,hm,hlm,hw⟩:=Vs (i,q) (wR.2 ⟨K3,by simpa using hq⟩)
    obtain⟨om,Vt,e,he,hb,nK⟩:=OR hw
    rcases gP.1 hm with rfl|hm
    ·have:=hdt om Vt e he hb
     rwa [nK]at this
    ·obtain⟨p,hp,rfl⟩:=cL.1 hm
     have Hz:=wR.1 hp
     have aga:=ih p.1 p.2 (by simp only at hlm bW;omega) (by simpa using Hz.2) Hz.1
     have:=b_ p.1 om Vt aga e he hb
     rwa [nK]at this
  exact K2 _ i 0 (cE _)  oM da
section
variable{P:Program}{fn:Func}{R:Ending→World→Prop}{X:Nat→Prop}{W:World}{n:Nat}{k:List K}{S:St}{ai:List (Nat×Value)}{mem:List an}{M0:List an}{aq:Array Oper}{cg:List (Nat×Nat)}
def gb(X:Nat→Prop)(W:World)(M0:List an)(w:World):Prop:=bb X W w∧Mem X W M0 w
theorem gb.up{w w':World}(h:gb X W M0 w)(hk:bb nX w w'):gb X W M0 w':=⟨h.1.fS hk,h.2.w_ hk⟩
def AB(X:Nat→Prop)(W:World)(M0:List an)(cg:List (Nat×Nat))(j:Nat)(w1 w':World):Prop:=
 match j_ cg j with
 |0=>bb nX w1 w'
 |2=>True
 |_=>gb X W M0 w'
def jb(P:Program)(fn:Func)(R:Ending→World→Prop)(X:Nat→Prop)(W:World)(n:Nat)(k:List K)(M0:List an)(aq:Array Oper)(cg order:List (Nat×Nat))(S:St):Prop:=
 ∀aO,Region.noSelect aq=true→AA aq cg=true→vv aq order aO=true→jW aq aO→∀a w,cB X W n S a w→((∃i,j_ cg i=0∧aO.getD i true=false)→gb X W M0 w)→
  fJ P aq (AB X W M0 cg) (fun a w=>post P fn R k .normal a w) (jo fun a w=>post P fn R k .normal a w) order.length aO a w
theorem Vu{id:Nat}{l:List Oper}(order:List (Nat×Nat))(hm:P.follows .mixedOrders=true)(cy:Hy l.toArray order=true)(hM:ar S.mem M0)(h:jb P fn R X W n k M0 l.toArray order order S):
  bt P fn R X W n (.bC (.region id l.toArray true)::k) S:=by
 intro a w hs
 simp only [Hy,eN]at cy
 obtain⟨⟨⟨h1,h2⟩,h3⟩,h4⟩:=cy
 have fe:order.length=l.toArray.size:=yh h2
 have cO:cB X W n S a {w with drawn:=w.drawn+1}:=hs.world (bb.refl nX w).drew
 have b_:jW l.toArray (Array.replicate l.toArray.size false):=by
  intro j o hj hl
  rcases jH j l.toArray.size with h'|h'
  ·simp at h';simp [h']at hl
  ·simp at h';simp [h']at hl
 have hd:=h _ h1 h4 h3 b_ a _ cO (fun _=>⟨cO.dx,(hM _ _ _ cO.mem).1⟩)
 rw [fe]at hd
 have:=wp_region_any (P:=P) (id:=id) hm (fJ.any (E:=jo fun a w=>post P fn R k .normal a w) (fun a w h=>⟨rfl,h⟩) hd)
 exact BW (fun e a w ⟨he,hq⟩=>by subst he;exact hq) this
theorem agb(h:bt P fn R X W n k S):jb P fn R X W n k M0 aq cg [] S:=by
 intro aO _ _ cy _ a w hs _ w1 cC
 exact⟨by simpa [vv]using cy,h a w1 (hs.world cC)⟩
theorem OT{aO:Array Bool}{i:Nat}(h:i∈Region.ready .any aq aO):aO.getD i true=false:=(mem_ready.1 h).1
theorem Vv{i:Nat}{o:Oper}{v:Value}{r:List (Nat×Nat)}{aO:Array Bool}{a:Act}{w:World}(hi:aq[i]?=some o)(ht:j_ cg i=0)(cU:Region.noSelect aq=true)(fk:AA aq cg=true)(cy:vv aq ((i,0)::r) aO=true)(b_:jW aq aO)
  (hy:o7 P aq (gb X W M0) o v a)(hC:gb X W M0 w)
  (hk:vv aq r (aO.setIfInBounds i true)=true→jW aq (aO.setIfInBounds i true)→fJ P aq (AB X W M0 cg) (fun a w=>post P fn R k .normal a w) (jo fun a w=>post P fn R k .normal a w) r.length (aO.setIfInBounds i true) (a.put o.dst v) w):
  fJ P aq (AB X W M0 cg) (fun a w=>post P fn R k .normal a w) (jo fun a w=>post P fn R k .normal a w) ((i,0)::r).length aO a w:=by
 simp only [vv,eN]at cy
 obtain⟨⟨h1,h2⟩,h3⟩:=cy
 have hr:i∈Region.ready .any aq aO:=by simpa using h1
 refine fJ.first (C:=gb X W M0) (v:=v) hi (GV cU) (fun _ _=>gb.up) (fun w1 w' hk=>by unfold AB;rw [ht];exact hk) (fun L j w1 w' hL EL hj pF hD=>?_) _ _ _ _ b_ (GW hi h2) hr hy hC (hk h3 (b_.step hr))
 unfold AB at hD
 split at hD
 ·exact pF.up hD
 ·rename_i hx
  exfalso
  have:=K0 fk hL ht hx hj
  rcases jH i L.size with h'|h'
  ·simp [h']at this EL;rw [EL]at this;cases this
  ·simp [h']at this
 ·exact hD
theorem yC{i d:Nat}{o:Oper}{v:Value}{r:List (Nat×Nat)}(hi:aq[i]?=some o)(ht:j_ cg i=0)(hw:dd aq ai o true)(hd:o.dst=some d)(hdn:Nat.blt d n=true)(h:Q1 P X W n ⟨ai,M0⟩ o v)
  (hk:jb P fn R X W n k M0 aq cg r ⟨(d,v)::ai,mem⟩):jb P fn R X W n k M0 aq cg ((i,0)::r) ⟨ai,mem⟩:=by
 intro aO cU fk cy b_ a w hs hC
 have hr:i∈Region.ready .any aq aO:=by simp only [vv,eN]at cy;simpa using cy.1.1
 have nL:=hC ⟨i,ht,OT hr⟩
 refine Vv hi ht cU fk cy b_ (v:=v) (.inl ⟨hw.eq hs,fun w' lA=>h a w' ⟨hs.size,hs.defers,hs.ai,lA.1,lA.2⟩⟩) nL fun h3 nf=>?_
 have:=hk _ cU fk h3 nf (a.put (some d) v) w (hs.put hdn v) (fun _=>nL)
 rw [hd]
 exact this
theorem uq{r:List (Nat×Nat)}(t:Tmp){c:Bool}(OC:dw S.ai t=some (.bool c))(h1:c=true→jb P fn R X W n k M0 aq cg r S)(h2:c=false→jb P fn R X W n k M0 aq cg r S):jb P fn R X W n k M0 aq cg r S:=by
 cases c
 ·exact h2 rfl
 ·exact h1 rfl
theorem Vw{i d:Nat}{o:Oper}{r:List (Nat×Nat)}(hi:aq[i]?=some o)(ht:j_ cg i=0)(hw:dd aq ai o false)(hd:o.dst=some d)(hdn:Nat.blt d n=true)
  (hk:jb P fn R X W n k M0 aq cg r ⟨(d,undef)::ai,mem⟩):jb P fn R X W n k M0 aq cg ((i,0)::r) ⟨ai,mem⟩:=by
 intro aO cU fk cy b_ a w hs hC
 have hr:i∈Region.ready .any aq aO:=by simp only [vv,eN]at cy;simpa using cy.1.1
 have nL:=hC ⟨i,ht,OT hr⟩
 refine Vv hi ht cU fk cy b_ (v:=undef) (.inr ⟨hw.eq hs,rfl⟩) nL fun h3 nf=>?_
 have:=hk _ cU fk h3 nf (a.put (some d) undef) w (hs.put hdn undef) (fun _=>nL)
 rw [hd]
 exact this
theorem Vx{i t:Nat}{o:Oper}{r:List (Nat×Nat)}{ι:Type}{φ:ι→Prop}{next:ι→St}(hi:aq[i]?=some o)(hw:dd aq ai o true)(h:H1 P X W n ⟨ai,mem⟩ o φ next)(hD:∀j w1 w',φ j→bb X W w'→Mem X W (next j).mem w'→AB X W M0 cg i w1 w')
  (hM:∀j,φ j→ar (next j).mem M0∨j_ cg i=2)
  (hk:∀j,φ j→jb P fn R X W n k M0 aq cg r (next j)):jb P fn R X W n k M0 aq cg ((i,t+1)::r) ⟨ai,mem⟩:=by
 intro aO cU fk cy b_ a w hs _ w1 cC
 have agc:=cy
 simp only [vv,eN,g_]at cy
 obtain⟨h1,h3⟩:=cy
 refine⟨fun h0=>(by rw [h1]at h0;cases h0),fun j hj=>?_⟩
 rw [h1]at hj
 simp only [c_]at hj
 subst hj
 unfold wpOp
 simp only [hi]
 have dX:=hs.world cC
 rw [aG (hw.eq dX)]
 refine .inl (h a w1 dX _ _ fun i' a' w' hφ cO=>⟨hD i' w1 w' hφ cO.dx cO.mem,?_⟩)
 refine hk i' hφ _ cU fk h3 (b_.step (by rw [h1];simp)) a' w' cO ?_
 rintro⟨q,hq,xf⟩
 rcases hM i' hφ with hm|hm
 ·exact⟨cO.dx,(hm _ _ _ cO.mem).1⟩
 ·have h5:=K0 fk b_ hq hm (by rw [h1];simp)
  have h6:=getD_set_true (i:=j) h5
  rcases jH q (aO.setIfInBounds j true).size with h'|h'
  ·simp only [Ot,Ou h',GX]at h6 xf
   rw [xf]at h6;cases h6
  ·simp only [Ot,Ek h',Option.getD_none]at h6
   cases h6
theorem o8{i:Nat}{o:Oper}{r:List (Nat×Nat)}{ι:Type}{φ:ι→Prop}{next:ι→St}(hi:aq[i]?=some o)(ht:j_ cg i=1)(hw:dd aq ai o true)(h:H1 P X W n ⟨ai,mem⟩ o φ next)(hM:∀j,φ j→ar (next j).mem M0)
  (hk:∀j,φ j→jb P fn R X W n k M0 aq cg r (next j)):jb P fn R X W n k M0 aq cg ((i,1)::r) ⟨ai,mem⟩:=
 Vx (t:=0) hi hw h (fun j w1 w' hφ hk hm=>by unfold AB;rw [ht];exact⟨hk,(hM j hφ _ _ _ hm).1⟩) (fun j hφ=> .inl (hM j hφ)) hk
theorem Vy{i:Nat}{o:Oper}{r:List (Nat×Nat)}{ι:Type}{φ:ι→Prop}{next:ι→St}(hi:aq[i]?=some o)(ht:j_ cg i=2)(hw:dd aq ai o true)(h:H1 P X W n ⟨ai,mem⟩ o φ next)
  (hk:∀j,φ j→jb P fn R X W n k M0 aq cg r (next j)):jb P fn R X W n k M0 aq cg ((i,2)::r) ⟨ai,mem⟩:=
 Vx (t:=1) hi hw h (fun j w1 w' _ _ _=>by unfold AB;rw [ht];trivial) (fun _ _=> .inr ht) hk
theorem OU{f:FuncId}{vs:List Value}{R:Ending→World→Prop}{c:Code}{m:List an}(hf:P.funcs[f]?=some fn)(hn:fn.ntmps=n)(hb:fn.body=some c)
  (hz:Nat.ble vs.length n=true)(hm:Mem X W m W)(h:bt P fn R X W n [.bC c] ⟨bB 0 vs,m⟩):Calls P f vs.toArray W R:=
 enter hf hn hb (by simpa using hz) (fun k v hk=>by
  obtain⟨_,h2⟩:=Hi vs 0 k v hk
  simpa using h2) hm h
theorem bK{α:Type}{p:α→Prop}{x:α}(h:p x):∀z∈ [x],p z:=by simpa using h
def aa{α:Type} [Inhabited α](l:List α)(q:Nat):α:=l.getD q default
theorem K4{α:Type} [Inhabited α]{l:List α}{q:Nat}(h:q<l.length):l[q]?=some (aa l q):=by
 simp [aa,fi h]
theorem oA{α:Type} [Inhabited α]{l:List α}{q:Nat}(h:q<l.length):l.drop q=aa l q::l.drop (q+1):=by
 rw [wS h];simp [aa,fi h]
theorem q_{α:Type} [Inhabited α]{l:List α}{q:Nat}(h:q<l.length):l.take (q+1)=l.take q++ [aa l q]:=by
 rw [List.take_succ_eq_append_getElem h];simp [aa,fi h]
theorem bZ{α:Type} [Inhabited α]{enc:α→List Value}{l:List α}{q:Nat}(h:q<l.length):(l.map enc)[q]?=some (enc (aa l q)):=by
 rw [mx,K4 h];rfl
theorem ae.aS{rs l:List an}{r:an}(h:ae rs r l):ar rs l:=(ar.aK h.aK).trans (.sub (B1 _ _))
theorem K5{ι:Type}{c:Code}{bS:List (Nat×Value)}{bT:List an}{r0:an}(φ:ι→Prop)(g0:ι→an)
  (h:bt P fn R X W n (.bC c:: .stop (yx X W n φ (fun i=>⟨bS,g0 i::bT⟩))::k) ⟨bS,r0::bT⟩)(h':∀i,φ i→bt P fn R X W n k ⟨bS,g0 i::bT⟩):bt P fn R X W n (.bC c::k) ⟨bS,r0::bT⟩:=
 EC φ (fun i=>⟨bS,g0 i::bT⟩) h h'
theorem agd{ι:Type}{c:Code}{bS:List (Nat×Value)}{bT:List an}{r0 r1:an}(φ:ι→Prop)(g0 g1:ι→an)(μ:ι→Nat)(i0:ι)(h0:φ i0)(q0:cS r0 (g0 i0))(q1:cS r1 (g1 i0))
  (hr:∀i,φ i→bt P fn R X W n (.bC c:: .stop (pC X W n φ (fun i=>⟨bS,g0 i::g1 i::bT⟩) μ (μ i))::k) ⟨bS,g0 i::g1 i::bT⟩):bt P fn R X W n (.bC (.loop c)::k) ⟨bS,r0::r1::bT⟩:=by
 exact rY φ (fun i=>⟨bS,g0 i::g1 i::bT⟩) μ i0 h0 (az eo.refl (ar.cons ae.ak q0 (ar.cons ae.ak q1 ar.refl))) hr
theorem Vz{ι:Type}{c:Code}{bS:List (Nat×Value)}{bT:List an}{r0 r1:an}(φ:ι→Prop)(g0 g1:ι→an)
  (h:bt P fn R X W n (.bC c:: .stop (yx X W n φ (fun i=>⟨bS,g0 i::g1 i::bT⟩))::k) ⟨bS,r0::r1::bT⟩)(h':∀i,φ i→bt P fn R X W n k ⟨bS,g0 i::g1 i::bT⟩):bt P fn R X W n (.bC c::k) ⟨bS,r0::r1::bT⟩:=
 EC φ (fun i=>⟨bS,g0 i::g1 i::bT⟩) h h'
theorem dY{ι:Type}{c:Code}{bS:List (Nat×Value)}{bT:List an}{s0:Nat}{u0:Value}(φ:ι→Prop)(f0:ι→Value)(μ:ι→Nat)(i0:ι)(h0:φ i0)(e0:u0=f0 i0)
  (hr:∀i,φ i→bt P fn R X W n (.bC c:: .stop (pC X W n φ (fun i=>⟨(s0,f0 i)::bS,bT⟩) μ (μ i))::k) ⟨(s0,f0 i)::bS,bT⟩):bt P fn R X W n (.bC (.loop c)::k) ⟨(s0,u0)::bS,bT⟩:=by
 subst e0
 exact rY φ (fun i=>⟨(s0,f0 i)::bS,bT⟩) μ i0 h0 (az eo.refl ar.refl) hr
theorem age{ι:Type}{c:Code}{bS:List (Nat×Value)}{bT:List an}{s0:Nat}{u0:Value}(φ:ι→Prop)(f0:ι→Value)
  (h:bt P fn R X W n (.bC c:: .stop (yx X W n φ (fun i=>⟨(s0,f0 i)::bS,bT⟩))::k) ⟨(s0,u0)::bS,bT⟩)(h':∀i,φ i→bt P fn R X W n k ⟨(s0,f0 i)::bS,bT⟩):bt P fn R X W n (.bC c::k) ⟨(s0,u0)::bS,bT⟩:=
 EC φ (fun i=>⟨(s0,f0 i)::bS,bT⟩) h h'
theorem nM{ι:Type}{c:Code}{bS:List (Nat×Value)}{bT:List an}{s0:Nat}{u0:Value}{r0:an}(φ:ι→Prop)(f0:ι→Value)(g0:ι→an)(μ:ι→Nat)(i0:ι)(h0:φ i0)(e0:u0=f0 i0)(q0:cS r0 (g0 i0))
  (hr:∀i,φ i→bt P fn R X W n (.bC c:: .stop (pC X W n φ (fun i=>⟨(s0,f0 i)::bS,g0 i::bT⟩) μ (μ i))::k) ⟨(s0,f0 i)::bS,g0 i::bT⟩):bt P fn R X W n (.bC (.loop c)::k) ⟨(s0,u0)::bS,r0::bT⟩:=by
 subst e0
 exact rY φ (fun i=>⟨(s0,f0 i)::bS,g0 i::bT⟩) μ i0 h0 (az eo.refl (ar.cons ae.ak q0 ar.refl)) hr
theorem agf{ι:Type}{c:Code}{bS:List (Nat×Value)}{bT:List an}{s0:Nat}{u0:Value}{r0:an}(φ:ι→Prop)(f0:ι→Value)(g0:ι→an)
  (h:bt P fn R X W n (.bC c:: .stop (yx X W n φ (fun i=>⟨(s0,f0 i)::bS,g0 i::bT⟩))::k) ⟨(s0,u0)::bS,r0::bT⟩)(h':∀i,φ i→bt P fn R X W n k ⟨(s0,f0 i)::bS,g0 i::bT⟩):bt P fn R X W n (.bC c::k) ⟨(s0,u0)::bS,r0::bT⟩:=
 EC φ (fun i=>⟨(s0,f0 i)::bS,g0 i::bT⟩) h h'
theorem pG{ι:Type}{c:Code}{bS:List (Nat×Value)}{bT:List an}{s0:Nat}{u0:Value}{r0 r1:an}(φ:ι→Prop)(f0:ι→Value)(g0 g1:ι→an)(μ:ι→Nat)(i0:ι)(h0:φ i0)(e0:u0=f0 i0)(q0:cS r0 (g0 i0))(q1:cS r1 (g1 i0))
  (hr:∀i,φ i→bt P fn R X W n (.bC c:: .stop (pC X W n φ (fun i=>⟨(s0,f0 i)::bS,g0 i::g1 i::bT⟩) μ (μ i))::k) ⟨(s0,f0 i)::bS,g0 i::g1 i::bT⟩):bt P fn R X W n (.bC (.loop c)::k) ⟨(s0,u0)::bS,r0::r1::bT⟩:=by
 subst e0
 exact rY φ (fun i=>⟨(s0,f0 i)::bS,g0 i::g1 i::bT⟩) μ i0 h0 (az eo.refl (ar.cons ae.ak q0 (ar.cons ae.ak q1 ar.refl))) hr
theorem HB{ι:Type}{c:Code}{bS:List (Nat×Value)}{bT:List an}{s0:Nat}{u0:Value}{r0 r1 r2:an}(φ:ι→Prop)(f0:ι→Value)(g0 g1 g2:ι→an)(μ:ι→Nat)(i0:ι)(h0:φ i0)(e0:u0=f0 i0)(q0:cS r0 (g0 i0))(q1:cS r1 (g1 i0))(q2:cS r2 (g2 i0))
  (hr:∀i,φ i→bt P fn R X W n (.bC c:: .stop (pC X W n φ (fun i=>⟨(s0,f0 i)::bS,g0 i::g1 i::g2 i::bT⟩) μ (μ i))::k) ⟨(s0,f0 i)::bS,g0 i::g1 i::g2 i::bT⟩):bt P fn R X W n (.bC (.loop c)::k) ⟨(s0,u0)::bS,r0::r1::r2::bT⟩:=by
 subst e0
 exact rY φ (fun i=>⟨(s0,f0 i)::bS,g0 i::g1 i::g2 i::bT⟩) μ i0 h0 (az eo.refl (ar.cons ae.ak q0 (ar.cons ae.ak q1 (ar.cons ae.ak q2 ar.refl)))) hr
theorem lY{ι:Type}{c:Code}{bS:List (Nat×Value)}{bT:List an}{s0 s1:Nat}{u0 u1:Value}(φ:ι→Prop)(f0 f1:ι→Value)(μ:ι→Nat)(i0:ι)(h0:φ i0)(e0:u0=f0 i0)(e1:u1=f1 i0)
  (hr:∀i,φ i→bt P fn R X W n (.bC c:: .stop (pC X W n φ (fun i=>⟨(s0,f0 i)::(s1,f1 i)::bS,bT⟩) μ (μ i))::k) ⟨(s0,f0 i)::(s1,f1 i)::bS,bT⟩):bt P fn R X W n (.bC (.loop c)::k) ⟨(s0,u0)::(s1,u1)::bS,bT⟩:=by
 subst e0;subst e1
 exact rY φ (fun i=>⟨(s0,f0 i)::(s1,f1 i)::bS,bT⟩) μ i0 h0 (az eo.refl ar.refl) hr
theorem agh{ι:Type}{c:Code}{bS:List (Nat×Value)}{bT:List an}{s0 s1:Nat}{u0 u1:Value}(φ:ι→Prop)(f0 f1:ι→Value)
  (h:bt P fn R X W n (.bC c:: .stop (yx X W n φ (fun i=>⟨(s0,f0 i)::(s1,f1 i)::bS,bT⟩))::k) ⟨(s0,u0)::(s1,u1)::bS,bT⟩)(h':∀i,φ i→bt P fn R X W n k ⟨(s0,f0 i)::(s1,f1 i)::bS,bT⟩):bt P fn R X W n (.bC c::k) ⟨(s0,u0)::(s1,u1)::bS,bT⟩:=
 EC φ (fun i=>⟨(s0,f0 i)::(s1,f1 i)::bS,bT⟩) h h'
theorem mA{ι:Type}{c:Code}{bS:List (Nat×Value)}{bT:List an}{s0 s1:Nat}{u0 u1:Value}{r0:an}(φ:ι→Prop)(f0 f1:ι→Value)(g0:ι→an)(μ:ι→Nat)(i0:ι)(h0:φ i0)(e0:u0=f0 i0)(e1:u1=f1 i0)(q0:cS r0 (g0 i0))
  (hr:∀i,φ i→bt P fn R X W n (.bC c:: .stop (pC X W n φ (fun i=>⟨(s0,f0 i)::(s1,f1 i)::bS,g0 i::bT⟩) μ (μ i))::k) ⟨(s0,f0 i)::(s1,f1 i)::bS,g0 i::bT⟩):bt P fn R X W n (.bC (.loop c)::k) ⟨(s0,u0)::(s1,u1)::bS,r0::bT⟩:=by
 subst e0;subst e1
 exact rY φ (fun i=>⟨(s0,f0 i)::(s1,f1 i)::bS,g0 i::bT⟩) μ i0 h0 (az eo.refl (ar.cons ae.ak q0 ar.refl)) hr
theorem EM{ι:Type}{c:Code}{bS:List (Nat×Value)}{bT:List an}{s0 s1:Nat}{u0 u1:Value}{r0 r1:an}(φ:ι→Prop)(f0 f1:ι→Value)(g0 g1:ι→an)(μ:ι→Nat)(i0:ι)(h0:φ i0)(e0:u0=f0 i0)(e1:u1=f1 i0)(q0:cS r0 (g0 i0))(q1:cS r1 (g1 i0))
  (hr:∀i,φ i→bt P fn R X W n (.bC c:: .stop (pC X W n φ (fun i=>⟨(s0,f0 i)::(s1,f1 i)::bS,g0 i::g1 i::bT⟩) μ (μ i))::k) ⟨(s0,f0 i)::(s1,f1 i)::bS,g0 i::g1 i::bT⟩):bt P fn R X W n (.bC (.loop c)::k) ⟨(s0,u0)::(s1,u1)::bS,r0::r1::bT⟩:=by
 subst e0;subst e1
 exact rY φ (fun i=>⟨(s0,f0 i)::(s1,f1 i)::bS,g0 i::g1 i::bT⟩) μ i0 h0 (az eo.refl (ar.cons ae.ak q0 (ar.cons ae.ak q1 ar.refl))) hr
theorem VB{ι:Type}{c:Code}{bS:List (Nat×Value)}{bT:List an}{s0 s1:Nat}{u0 u1:Value}{r0 r1 r2:an}(φ:ι→Prop)(f0 f1:ι→Value)(g0 g1 g2:ι→an)(μ:ι→Nat)(i0:ι)(h0:φ i0)(e0:u0=f0 i0)(e1:u1=f1 i0)(q0:cS r0 (g0 i0))(q1:cS r1 (g1 i0))(q2:cS r2 (g2 i0))
  (hr:∀i,φ i→bt P fn R X W n (.bC c:: .stop (pC X W n φ (fun i=>⟨(s0,f0 i)::(s1,f1 i)::bS,g0 i::g1 i::g2 i::bT⟩) μ (μ i))::k) ⟨(s0,f0 i)::(s1,f1 i)::bS,g0 i::g1 i::g2 i::bT⟩):bt P fn R X W n (.bC (.loop c)::k) ⟨(s0,u0)::(s1,u1)::bS,r0::r1::r2::bT⟩:=by
 subst e0;subst e1
 exact rY φ (fun i=>⟨(s0,f0 i)::(s1,f1 i)::bS,g0 i::g1 i::g2 i::bT⟩) μ i0 h0 (az eo.refl (ar.cons ae.ak q0 (ar.cons ae.ak q1 (ar.cons ae.ak q2 ar.refl)))) hr
theorem OV{ι:Type}{c:Code}{bS:List (Nat×Value)}{bT:List an}{s0 s1 s2:Nat}{u0 u1 u2:Value}(φ:ι→Prop)(f0 f1 f2:ι→Value)(μ:ι→Nat)(i0:ι)(h0:φ i0)(e0:u0=f0 i0)(e1:u1=f1 i0)(e2:u2=f2 i0)
  (hr:∀i,φ i→bt P fn R X W n (.bC c:: .stop (pC X W n φ (fun i=>⟨(s0,f0 i)::(s1,f1 i)::(s2,f2 i)::bS,bT⟩) μ (μ i))::k) ⟨(s0,f0 i)::(s1,f1 i)::(s2,f2 i)::bS,bT⟩):bt P fn R X W n (.bC (.loop c)::k) ⟨(s0,u0)::(s1,u1)::(s2,u2)::bS,bT⟩:=by
 subst e0;subst e1;subst e2
 exact rY φ (fun i=>⟨(s0,f0 i)::(s1,f1 i)::(s2,f2 i)::bS,bT⟩) μ i0 h0 (az eo.refl ar.refl) hr
theorem VC{ι:Type}{c:Code}{bS:List (Nat×Value)}{bT:List an}{s0 s1 s2:Nat}{u0 u1 u2:Value}{r0 r1:an}(φ:ι→Prop)(f0 f1 f2:ι→Value)(g0 g1:ι→an)(μ:ι→Nat)(i0:ι)(h0:φ i0)(e0:u0=f0 i0)(e1:u1=f1 i0)(e2:u2=f2 i0)(q0:cS r0 (g0 i0))(q1:cS r1 (g1 i0))
  (hr:∀i,φ i→bt P fn R X W n (.bC c:: .stop (pC X W n φ (fun i=>⟨(s0,f0 i)::(s1,f1 i)::(s2,f2 i)::bS,g0 i::g1 i::bT⟩) μ (μ i))::k) ⟨(s0,f0 i)::(s1,f1 i)::(s2,f2 i)::bS,g0 i::g1 i::bT⟩):bt P fn R X W n (.bC (.loop c)::k) ⟨(s0,u0)::(s1,u1)::(s2,u2)::bS,r0::r1::bT⟩:=by
 subst e0;subst e1;subst e2
 exact rY φ (fun i=>⟨(s0,f0 i)::(s1,f1 i)::(s2,f2 i)::bS,g0 i::g1 i::bT⟩) μ i0 h0 (az eo.refl (ar.cons ae.ak q0 (ar.cons ae.ak q1 ar.refl))) hr
end
end Hr
end Go.Proofs.YtjpbickffffgkaaGreat
