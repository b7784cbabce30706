/- Part. -/
import Derived.Test.YtdahjfmmndjcpaaGreatQ00
set_option linter.unusedSimpArgs false
set_option linter.unusedVariables false
set_option maxHeartbeats 40000000
set_option maxRecDepth 100000
namespace Go.Proofs.YtdahjfmmndjcpaaGreat
open Go Go.RowKit Hr Go.Proofs.Tryz
namespace Hr
theorem Gz{w:World}{g:Nat}{r:Array Value}:aU (fun k=>k=g) w (w.setRow g r):=
 ⟨rfl,rfl,rfl,by simp,fun k _ hk=>setRow_other w g k r hk,cm _⟩
section
variable{P:Program}{X:Nat→Prop}{W:World}{n:Nat}{S:St}{ah:List (Nat×Value)}{mem:List ak}{o:Oper}{a:Act}{w:World}
theorem cd.new(hs:cd X W n S a w)(ob:Obj)(r:ak)(hr:r.holds (w.alloc ob))(pS:∀b,r.at b→b=w.heap.size):cd X W n ⟨S.ah,r::S.mem⟩ a (w.alloc ob):=by
 have hk:=aU.alloc w ob
 refine⟨hs.size,hs.defers,hs.ah,hs.dm.fu hk,(hs.mem.uL hk).cons hr (fun b hb=> .inl ?_) (fun s h b hb jw=>?_)⟩
 ·rw [pS b hb];exact hs.dm.size
 ·rw [pS b hb]at jw
  exact absurd (hs.mem.lt s h _ jw) (Bw _)
theorem cd.change(hs:cd X W n S a w){w':World}{Y:Nat→Prop}{cs ls m:List ak}(hp:S.mem.Perm (cs++ls))(hk:aU Y w w')(hY:∀b,Y b→∃r∈cs,r.at b)
  (hm:Mem Y w m w'):cd X W n ⟨S.ah,m++ls⟩ a w':=by
 have h1:=hs.mem.aR hp
 have zN:=rj.1 h1.apart
 have N9:Mem X W ls w:=h1.sub (j3 _ _)
 have hYX:∀k,k<W.heap.size→¬X k→¬Y k:=fun k bO hx hy=>by
  obtain⟨r,hr,Kj⟩:=hY k hy
  rcases h1.ae r (by simp [hr]) k Kj with h|h
  ·omega
  ·exact hx h
 have Uj:Mem X W ls w':=N9.og hk fun s iF b hb hy=>by
  obtain⟨r,hr,zR⟩:=hY b hy
  exact zN.2.2 r hr s iF b zR hb
 refine⟨hs.size,hs.defers,hs.ah,hs.dm.step hk hYX,⟨fun r hr=>?_,fun r hr b hb=>?_,?_⟩⟩
 ·rcases dJ.1 hr with h|h
  ·exact hm.holds r h
  ·exact Uj.holds r h
 ·rcases dJ.1 hr with h|h
  ·rcases hm.ae r h b hb with h2|h2
   ·exact .inl (la hs.dm.size h2)
   ·obtain⟨u,hu,uP⟩:=hY b h2
    exact h1.ae u (by simp [hu]) b uP
  ·exact N9.ae r h b hb
 ·refine rj.2 ⟨hm.apart,Uj.apart,fun r hr s iF b hb jw=>?_⟩
  rcases hm.ae r hr b hb with h2|h2
  ·exact absurd (N9.lt s iF b jw)  oM
  ·obtain⟨u,hu,uP⟩:=hY b h2
   exact zN.2.2 u hu s iF b uP jw
theorem wv{k:Act→World→Prop}{Q:Exit→Act→World→Prop}{v:Value}{w':World}(h:(execOp a.eval o).run P w= .ok (.value v) w')(hk:k (a.put o.dst v) w'):o.wp P a w k Q:=by
 unfold Oper.wp;rw [h];exact hk
theorem GB{k:Act→World→Prop}{Q:Exit→Act→World→Prop}{w':World}(h:(execOp a.eval o).run P w= .ok .skip w')(hk:k (a.put o.dst undef) w'):o.wp P a w k Q:=by
 unfold Oper.wp;rw [h];exact hk
def zT:Value→Bool
 | .tuple _=>true
 |_=>false
theorem D7{v:Value}(h:zT v=false):v.cells=(dC v).toArray:=by
 cases v<;>first|rfl|simp [zT]at h|simp [Value.cells,dC]
theorem Uk(w:World)(t:TypeId)(vs:List Value):(ak.ai w.heap.size t (bm 0 vs)).holds (w.alloc (.cells vs.toArray t)):=
 ⟨_,heap_alloc_new w _,fun i v h=>by
  obtain⟨_,h2⟩:=Gw vs 0 i v h
  simpa using h2⟩
section
variable{x y:Operand}{t e:TypeId}{k:IntKind}{d:Nat}
theorem wx{v:Value}(ho:o.op= .box t x)(hd:o.dst=some d)(hdn:Nat.blt d n=true)(hx:ev ah x=some v)(hv:zT v=false):
  H1 P X W n ⟨ah,mem⟩ o (fun _:Nat=>True) (fun b=>⟨(d,.pointer (some ⟨b,0,none⟩))::ah,.ai b t (bm 0 (dC v))::mem⟩):=by
 intro a w hs k Q hk
 have fO:(execOp a.eval o).run P w= .ok (.value (.pointer (some ⟨w.heap.size,0,none⟩))) (w.alloc (.cells (dC v).toArray t)):=by
  simp [execOp,ho,hs.eval hx,Instr.box,newVar,newRow,D7 hv]
 refine wv fO ?_
 rw [hd]
 exact hk w.heap.size _ _ trivial ((hs.new _ _ (Uk w t (dC v)) (fun _ h=>h.symm)).put hdn _)
theorem dU{zs:List Value}{s b:Nat}(ho:o.op= .alloc t)(hd:o.dst=some d)(hdn:Nat.blt d n=true)(hi:tK P t zs s b):
  H1 P X W n ⟨ah,mem⟩ o (fun _:Nat=>True) (fun b=>⟨(d,.pointer (some ⟨b,0,none⟩))::ah,.ai b t (bm 0 zs)::mem⟩):=by
 intro a w hs k Q hk
 obtain⟨i,z,h1,h2,rfl,_,_⟩:=hi
 have fO:(execOp a.eval o).run P w= .ok (.value (.pointer (some ⟨w.heap.size,0,none⟩))) (w.alloc (.cells z.cells.toList.toArray t)):=by
  simp [execOp,ho,Instr.alloc,newVar,newRow,zeroValue,typeInfo,h1,h2]
 refine wv fO ?_
 rw [hd]
 exact hk w.heap.size _ _ trivial ((hs.new _ _ (Uk w t _) (fun _ h=>h.symm)).put hdn _)
def iL:List Value→Bool
 | []=>true
 |v::r=>match v with
  | .agg _=>false
  | .tuple _=>false
  |_=>iL r
theorem BG:∀{l:List Value},iL l=true→∀v∈l,v.oneCell'=true
 | [],_,v,h=>by simp at h
 |x::l,h,v,hv=>by
  rcases ib.1 hv with rfl|hv
  ·cases v<;>first|rfl|simp [iL]at h
  ·refine BG (l:=l) ?_ v hv
   cases x<;>first|exact h|simp [iL]at h
theorem aer(cs:List (Nat×Value))(vs:List Value)(i:Nat)(c:Array Value)(h:∀j v,dj cs j=some v→c[j]?=some v)(hl:i+vs.length≤c.size):
  ∀j v,dj (bm i vs++cs) j=some v→(c.toList.take i++vs++c.toList.drop (i+vs.length)).toArray[j]?=some v:=by
 intro j v hj
 rw [aeg]at hj
 rw [NP]
 cases hf:dj (bm i vs) j with
 |some u=>
  rw [hf]at hj
  simp only [Option.some_or,Option.some.injEq]at hj
  subst hj
  obtain⟨h1,h2⟩:=Gw vs i j u hf
  have bG:=(xQ.1 h2).1
  rw [Bu (by simp;omega),uC (by simp;omega)]
  simpa [show min i c.size=i from oM]using h2
 |none=>
  rw [hf]at hj
  simp only [Option.none_or]at hj
  have hc:=h j v hj
  have wy:¬(i≤j∧j<i+vs.length):=by
   intro⟨h1,h2⟩
   have:∀(l:List Value) (i:Nat),i≤j→j<i+l.length→(dj (bm i l) j).isSome=true:=by
    intro l
    induction l with
    |nil=>intro i h1 h2;simp at h2;omega
    |cons y l ih=>
     intro i h1 h2
     by_cases e:i=j
     ·subst e;rw [bm,Gn];rfl
     ·rw [bm,Gp e];exact ih (i+1)  oM (by simp at h2;omega)
   have h3:=this vs i h1 h2
   rw [hf]at h3;simp at h3
  have Ul:=(NO.1 hc).1
  rw [←hc,←Array.getElem?_toList]
  rcases jo j i with h1|h1
  ·rw [bP,Bu (by simp;omega),DT,aG h1]
  ·rw [uC (by simp;omega),List.getElem?_drop]
   congr 1
   simp
   omega
theorem cC{b i s:Nat}{tb:TypeId}{cs:List (Nat×Value)}{l:List ak}{v:Value}(ho:o.op= .store t x y)(hd:o.dst=none)(gr:Sz P t (s+1))(hx:ev ah x=some (.pointer (some ⟨b,i,none⟩)))(hy:ev ah y=some v)
  (hv:zT v=false)(hl:(dC v).length=s+1)(h1:iL (dC v)=true)(hs:ag mem (.ai b tb cs) l)(sH:(dj cs (i+s)).isSome=true):
  H1 P X W n ⟨ah,mem⟩ o (fun _:Unit=>True) (fun _=>⟨ah,.ai b tb (bm i (dC v)++cs)::l⟩):=by
 intro a w cF k Q hk
 obtain⟨c,hc,hf⟩:=hs.holds cF.mem
 have aes:i+(dC v).length≤c.size:=by
  obtain⟨u,hu⟩:=uE.1 sH
  have:=(NO.1 (hf _ u hu)).1
  omega
 have cX:=J0 P b i tb (dC v) 0 c w hc  oM (BG h1)
 have fO:(execOp a.eval o).run P w= .ok .skip (w.setRow b (c.toList.take i++dC v++c.toList.drop (i+(dC v).length)).toArray):=by
  rw [←hl]at gr
  simp [execOp,ho,cF.eval hx,cF.eval hy,Instr.storeAt,Instr.sureAddr,storeVar,gr.run,D7 hv,cX]
 refine GB fO ?_
 rw [hd]
 refine hk () _ _ trivial ?_
 have hm:Mem (fun k=>k=b) w [.ai b tb (bm i (dC v)++cs)] (w.setRow b (c.toList.take i++dC v++c.toList.drop (i+(dC v).length)).toArray):=
  Mem.nil.cons (r:= .ai b tb (bm i (dC v)++cs)) ⟨_,setRow_heap w b c _ tb _ hc,aer cs (dC v) i c hf aes⟩ (fun k hk=> .inr (by simpa [ak.at,eq_comm]using hk)) sM
 exact cF.change (Y:=fun k=>k=b) (cs:= [.ai b tb cs]) (ls:=l) hs.aR Gz (fun k hk=>⟨.ai b tb cs,by simp,by simp [hk,ak.at]⟩) hm
theorem tL{size:Nat}:∀(ls:List (List Value)),(∀z∈ls,z.length=size)→ls.flatten.length=ls.length*size
 | [],_=>by simp
 |z::ls,h=>by
  rw [tA,aP,tL ls (fun y hy=>h y (by simp [hy])),h z sM,fW,uD]
  omega
theorem Um{size:Nat}:∀(ls:List (List Value)) (q:Nat) (vs:List Value),(∀z∈ls,z.length=size)→q<ls.length→vs.length=size→
  (ls.set q vs).flatten=ls.flatten.take (q*size)++vs++ls.flatten.drop (q*size+vs.length)
 | [],q,_,_,h,_=>by simp at h
 |z::ls,0,vs,h,_,hv=>by
  have hz:=h z sM
  simp only [List.set_cons_zero,tA,Nat.zero_mul,List.take_zero,Bx,xR]
  rw [hv,←hz,List.drop_left]
 |z::ls,q+1,vs,h,hq,hv=>by
  have hz:=h z sM
  have ih:=Um ls q vs (fun y hy=>h y (by simp [hy])) (by simpa using hq) hv
  simp only [F8,tA,ih]
  have e1:(q+1)*size=z.length+q*size:=by rw [hz,uD];omega
  rw [e1,List.take_length_add_append,zt,NQ]
  simp
theorem GC{A:Option Addr}{m c size:Nat}{ls:List (List Value)}(h:(ak.ae e size A m c ls).holds w)(hm:0<m):∃g fe,A=some ⟨g,0,none⟩∧w.heap[g]?=some (.cells fe e (0,0))∧m≤c∧c≤maxLen∧fe.size=c*size∧fe.toList.take (m*size)=ls.flatten:=by
 obtain⟨⟨_,h2⟩,_,_⟩:=h
 rcases h2 with⟨_,h0⟩|⟨g,cap,fe,hv,_,hh,h3,h4,h5,h6⟩
 ·omega
 ·simp only [Value.slice.injEq,true_and]at hv
  obtain⟨rfl,rfl⟩:=hv
  exact⟨g,fe,rfl,hh,h3,h4,h5,h6⟩
theorem Kk{g m c size o':Nat}{ls gu:List (List Value)}{fe:Array Value}{vs:List Value}(hh:w.heap[g]?=some (.cells fe e (0,0)))(zV:m≤c)(hc:c≤maxLen)(gr:fe.size=c*size)(ht:fe.toList.take (m*size)=ls.flatten)
  (hb:o'+vs.length≤m*size)(hl:gu.length=m)(hz:∀z∈gu,z.length=size)(hf:gu.flatten=ls.flatten.take o'++vs++ls.flatten.drop (o'+vs.length)):
  (ak.ae e size (some ⟨g,0,none⟩) m c gu).holds (w.setRow g (fe.toList.take o'++vs++fe.toList.drop (o'+vs.length)).toArray):=by
 have uR:m*size≤c*size:=uF _ zV
 refine⟨⟨by rw [tL gu hz,hl],.inr ⟨g,c,_,rfl,gA _,setRow_heap w g fe _ e _ hh,zV,hc,?_,?_⟩⟩,hl,hz⟩
 ·simp only [List.size_toArray,aP,fL,pM,DU,gr]
  omega
 ·rw [hf,←ht]
  clear hf ht hz hl
  apply xT
  intro j
  simp only [DT,List.getElem?_append,aP,fL,DU,gr,List.getElem?_drop]
  have e1:min o' (c*size)=o':=oM
  have e2:min (min o' (m*size)) (c*size)=o':=oM
  have e3:min o' (min (m*size) (c*size))=o':=oM
  simp only [e1,e3]
  by_cases h1:j<m*size
  ·simp only [h1,if_true]
   by_cases h2:j<o'+vs.length
   ·simp only [h2,if_true]
   ·simp only [h2,if_false]
    have:o'+vs.length+(j-(o'+vs.length))<m*size:=oM
    simp [this]
  ·simp only [h1,if_false]
   have h2:¬j<o'+vs.length:=oM
   simp only [h2,if_false]
   have:¬o'+vs.length+(j-(o'+vs.length))<m*size:=oM
   simp [this]
theorem oY{A:Option Addr}{m c size q:Nat}{ls:List (List Value)}{l:List ak}{v:Value}(ho:o.op= .store t x y)(hd:o.dst=none)(gr:Sz P t size)(hx:ev ah x=some (.pointer (some ((bI A).add (q*size)))))(hy:ev ah y=some v)
  (hv:zT v=false)(hl:(dC v).length=size)(h1:iL (dC v)=true)(hs:ag mem (.ae e size A m c ls) l)(hq:q<m):
  H1 P X W n ⟨ah,mem⟩ o (fun _:Unit=>True) (fun _=>⟨ah,.ae e size A m c (ls.set q (dC v))::l⟩):=by
 intro a w cF k Q hk
 have hh:=hs.holds cF.mem
 obtain⟨g,fe,rfl,hg,h3,h4,h5,h6⟩:=GC hh  oM
 obtain⟨_,fD,hz⟩:=hh
 have Un:q*size+size≤m*size:=by rw [←F9];exact uF _ hq
 have uR:m*size≤c*size:=uF _ h3
 have cX:=J0 P g (q*size) e (dC v) 0 fe w hg  oM (BG h1)
 have fO:(execOp a.eval o).run P w= .ok .skip (w.setRow g (fe.toList.take (q*size)++dC v++fe.toList.drop (q*size+(dC v).length)).toArray):=by
  have GD:(bI (some ⟨g,0,none⟩)).add (q*size)=⟨g,q*size,none⟩:=by simp [bI,wg]
  rw [←hl]at gr
  simp only [execOp,ho,cF.eval hx,cF.eval hy,Instr.storeAt,Instr.sureAddr,storeVar,GD,D7 hv]
  simp [gr.run,cX]
 refine GB fO ?_
 rw [hd]
 refine hk () _ _ trivial ?_
 have hw:=Kk (ls:=ls) (gu:=ls.set q (dC v)) (vs:=dC v) hg h3 h4 h5 h6  oM (by simpa using fD) (fun z oX=>by
  rcases xU oX with h|rfl
  ·exact hz z h
  ·exact hl) (Um ls q (dC v) hz  oM hl)
 have hm:Mem (fun k=>k=g) w [.ae e size (some ⟨g,0,none⟩) m c (ls.set q (dC v))] _:=Mem.nil.cons hw (fun k hk=> .inr (by simpa [ak.at,eq_comm]using hk)) sM
 exact cF.change (Y:=fun k=>k=g) (cs:= [.ae e size (some ⟨g,0,none⟩) m c ls]) (ls:=l) hs.aR Gz (fun k hk=>⟨.ae e size (some ⟨g,0,none⟩) m c ls,by simp,by simp [hk,ak.at]⟩) hm
theorem aU.row{w w':World}{row:Option Nat}(h:w.grownBy w' row)(hd:w.drawn≤w'.drawn):aU (fun k=>row=some k) w w':=⟨h.os,h.tape,h.output,h.size,fun k hk hx=>h.block k hk (fun e=>hx e.symm),hd⟩
theorem cY{A A':Option Addr}{m c m' c' size bytes:Nat}{ls gu:List (List Value)}{l:List ak}{zs:List Value}(ho:o.op= .call {callee:= .builtin .append,args:= #[x,y],argTypes:= #[t,t]})(hd:o.dst=some d)(hdn:Nat.blt d n=true)
  (ht:P.underlying t=some (.slice e))(hi:tK P e zs (size+1) bytes)(rp:zs.length=size+1)(hx:ev ah x=some (.slice A m c))(hs:ag mem (.ae e (size+1) A m c ls) l)(hy:ev ah y=some (.slice A' m' c'))(hr:ie X W ⟨ah,mem⟩ A' (size+1) gu)
  (Kl:gu.length=m')(oX:∀z∈gu,z.length=size+1)(h1:∀z∈gu,iL z=true)(hb:(m+m')*bytes≤140737488355328)(GF:m+m'≤9223372036854775807):
  H1 P X W n ⟨ah,mem⟩ o (fun _:Option Addr×Nat=>True) (fun i=>⟨(d,.slice i.1 (m+m') i.2)::ah,.ae e (size+1) i.1 (m+m') i.2 (ls++gu)::l⟩):=by
 intro a w cF k Q hk
 have hh:=hs.holds cF.mem
 obtain⟨BH,fD,hz⟩:=hh
 obtain⟨i,z,jd,sI,wz,zW,BI⟩:=hi
 have pT:z.cells.size=size+1:=by rw [←rp,←wz,DU]
 have cj:=hr w cF.dm cF.mem
 have aet:m+m'≤maxLen:=by simpa [maxLen]using GF
 have BJ:∀z∈ls++gu,z.length=size+1:=fun z N_=>(dJ.1 N_).elim (hz z) (oX z)
 have jL:(ls++gu).length=m+m':=by simp [fD,Kl]
 have key:∃sJ uS w',(Builtin.append_ #[t,t] o.type #[.slice A m c,.slice A' m' c']).run P w= .ok (.slice sJ (m+m') uS) w'∧w'.ownsRow 0 e (size+1) (.slice sJ (m+m') uS) (m+m') (ls++gu).flatten∧w.grownBy w' (A.map (·.block))∧
   (sJ.map (·.block)=A.map (·.block)∨sJ.map (·.block)=some w.heap.size):=by
  rcases A' with _|ad
  ·have Kn:gu= []:=by
    rcases cj with h|⟨ad,h,_⟩
    ·exact h
    ·cases h
   subst Kn
   simp only [jq]at Kl
   subst Kl
   refine⟨A,c,w,?_,by simpa using BH,World.grownBy.refl w _,.inl rfl⟩
   rcases BH.2 with⟨hv,h0⟩|⟨g,cap,fe,hv,_,_,hnc,_⟩
   ·simp only [Value.slice.injEq]at hv
    obtain⟨rfl,_,rfl⟩:=hv
    subst h0
    simp [Builtin.append_,cL ht,sizeOf,typeInfo,jd,Builtin.lenOf,Builtin.firstCells]
   ·simp only [Value.slice.injEq,true_and]at hv
    obtain⟨rfl,rfl⟩:=hv
    simp [Builtin.append_,cL ht,sizeOf,typeInfo,jd,Builtin.lenOf,Builtin.firstCells,hnc,storeCells]
  ·have aev:∀j u,gu.flatten[j]?=some u→w.cell? (ad.add j)=some u:=by
    intro j u hj
    rcases cj with h|⟨ad',h,hc⟩
    ·subst h;simp at hj
    ·simp only [Option.some.injEq]at h
     subst h
     have qD:j<gu.length*(size+1):=by rw [←tL gu oX];exact(xQ.1 hj).1
     have hq:j/(size+1)<gu.length:=Nat.div_lt_of_lt_mul (by rw [By];exact qD)
     have j6:j%(size+1)<(gu[j/(size+1)]).length:=by rw [oX _ (Bz hq)];exact Nat.mod_lt _  oM
     have h2:=Gx gu (size+1) oX (j/(size+1)) _ (j4 hq) (j%(size+1)) _ (j4 j6)
     have e:j/(size+1)*(size+1)+j%(size+1)=j:=by rw [By];exact Nat.div_add_mod _ _
     rw [e]at h2
     rw [hj]at h2
     have h3:=hc (j/(size+1)) _ (j4 hq) (j%(size+1)) _ (j4 j6)
     rw [e]at h3
     rw [h3];exact h2.symm
   obtain⟨v',w',fO,Ko,hg,_,pS⟩:=run_append_own_at (P:=P) w 0 t o.type e i z (size+1) bytes ht jd sI zW BI pT  oM (.slice A m c) m ls.flatten BH ad m' c' gu.flatten (by rw [tL gu oX,Kl]) aev
    (fun u hu=>by
     obtain⟨z,N_,huz⟩:=List.mem_flatten.1 hu
     exact BG (h1 z N_) u huz) aet hb (gA _)
   rw [Kc]at hg pS
   have aey:∃sJ uS,v'= .slice sJ (m+m') uS:=by
    rcases Ko.2 with⟨hv,h0⟩|⟨g,cap,fe,hv,_⟩
    ·exact⟨none,0,by rw [h0];exact hv⟩
    ·exact⟨_,cap,hv⟩
   obtain⟨sJ,uS,rfl⟩:=aey
   rw [Kc]at pS
   exact⟨sJ,uS,w',fO,by rw [List.flatten_append];exact Ko,hg,pS⟩
 obtain⟨sJ,uS,w',fO,Ko,hg,pS⟩:=key
 have aez:(execOp a.eval o).run P w= .ok (.value (.slice sJ (m+m') uS)) w':=by
  simp [execOp,ho,resolve,invoke,builtin,cF.eval hx,cF.eval hy,fO]
 refine wv aez ?_
 rw [hd]
 refine hk (sJ,uS) _ _ trivial ?_
 have hm:Mem (fun k=>A.map (·.block)=some k) w [.ae e (size+1) sJ (m+m') uS (ls++gu)] w':=by
  refine Mem.nil.cons (r:= .ae e (size+1) sJ (m+m') uS (ls++gu)) ⟨Ko,jL,BJ⟩ (fun k hk=>?_) sM
  simp only [ak.at]at hk
  rcases pS with h|h
  ·rw [h]at hk;exact .inr hk
  ·rw [h]at hk;cases hk;exact .inl (cm _)
 have:=cF.change (Y:=fun k=>A.map (·.block)=some k) (cs:= [.ae e (size+1) A m c ls]) (ls:=l) hs.aR (aU.row hg (pO _ _ _ _ fO)) (fun k hk=>⟨.ae e (size+1) A m c ls,by simp,by simpa [ak.at]using hk⟩) hm
 exact this.put hdn _
inductive uT(ah:List (Nat×Value))(size:Nat):Nat→List (Nat×Operand)→List Value→Prop where
 |nil {i:Nat}:uT ah size i [] []
 |cons {i:Nat} {x:Operand} {v:Value} {xs:List (Nat×Operand)} {vs:List Value} (h:ev ah x=some v) (hv:zT v=false) (hl:(dC v).length=size) (h1:iL (dC v)=true) (t:uT ah size (i+1) xs vs):uT ah size i ((i,x)::xs) (v::vs)
theorem aeA(cs:List Value):∀(off:Nat) (c:Array Value),off+cs.length≤c.size→
  (cs.zipIdx.foldl (fun(a:Array Value) (p:Value×Nat)=>a.setIfInBounds (off+p.2) p.1) c).toList=c.toList.take off++cs++c.toList.drop (off+cs.length):=by
 suffices h:∀(i off:Nat) (c:Array Value),off+i+cs.length≤c.size→
   ((cs.zipIdx i).foldl (fun(a:Array Value) (p:Value×Nat)=>a.setIfInBounds (off+p.2) p.1) c).toList=c.toList.take (off+i)++cs++c.toList.drop (off+i+cs.length) by
  intro off c hc
  simpa using h 0 off c  oM
 induction cs with
 |nil=>intro i off c _;simp
 |cons v cs ih=>
  intro i off c hc
  simp only [List.zipIdx_cons,F_]
  rw [ih (i+1) off (c.setIfInBounds (off+i) v) (by simp at hc⊢;omega)]
  rw [Array.toList_setIfInBounds]
  have:=list_seg_step c.toList (off+i) v cs (by simp at hc⊢;omega)
  simpa [zt]using this
theorem Uo{size:Nat}:∀{i:Nat} {xs:List (Nat×Operand)} {vs:List Value},uT ah size i xs vs→cd X W n ⟨ah,mem⟩ a w→∀(c:Array Value),(i+xs.length)*size≤c.size→
  ∃c':Array Value,Instr.fill (fun i=>some (i*size,size)) c (xs.map fun p=>(p.1,a.eval p.2))=some c'∧c'.toList=c.toList.take (i*size)++(vs.map dC).flatten++c.toList.drop ((i+xs.length)*size)
 |i,_,_,.nil,_,c,_=>⟨c,rfl,by simp⟩
 |i,_,_,.cons (x:=x) (v:=v) (xs:=xs) (vs:=vs) h hv hl h1 t,hs,c,hc=>by
  have bT:v.cells=(dC v).toArray:=D7 hv
  simp only [fW]at hc
  have avU:i*size+size≤c.size:=by
   have:(i+1)*size≤(i+(xs.length+1))*size:=uF _  oM
   rw [uD]at this;omega
  obtain⟨c',h2,h3⟩:=Uo t hs (v.cells.zipIdx.foldl (fun cs (p:Value×Nat)=>cs.setIfInBounds (i*size+p.2) p.1) c) (by
   have h4:∀(l:List (Value×Nat)) (c:Array Value),(l.foldl (fun cs (p:Value×Nat)=>cs.setIfInBounds (i*size+p.2) p.1) c).size=c.size:=by
    intro l
    induction l with
    |nil=>intro c;rfl
    |cons p l ih=>intro c;rw [F_,ih];simp
   rw [←Ga,h4]
   rw [show i+1+xs.length=i+(xs.length+1)from oM];exact hc)
  refine⟨c',?_,?_⟩
  ·simp only [sB,Instr.fill,hs.eval h]
   rw [ay (by simp [bT,hl];omega)]
   exact h2
  ·have e:=aeA (dC v) (i*size) c  oM
   have ez:(v.cells.zipIdx.foldl (fun cs (p:Value×Nat)=>cs.setIfInBounds (i*size+p.2) p.1) c).toList=c.toList.take (i*size)++dC v++c.toList.drop (i*size+(dC v).length):=by
    rw [←e,←Ga,bT];simp
   rw [h3,ez]
   have e1:(i+1)*size=(c.toList.take (i*size)++dC v).length:=by simp [hl,uD];omega
   have e2:(i+1+xs.length)*size=(c.toList.take (i*size)++dC v).length+xs.length*size:=by rw [←e1,uD]
   rw [e2,e1,List.take_left,NQ,List.drop_drop]
   simp only [sB,tA,bP,fW]
   congr 4
   rw [hl,uD i,uD xs.length];omega
theorem uT.len{size i:Nat}{xs:List (Nat×Operand)}{vs:List Value}(h:uT ah size i xs vs):vs.length=xs.length∧∀z∈vs.map dC,z.length=size:=by
 induction h with
 |nil=>simp
 |cons h hv hl h1 t ih=>simp only [fW,ih.1,sB,ib,true_and];rintro z (rfl|hz);exact hl;exact ih.2 z hz
theorem dV{m size bytes:Nat}{zs:List Value}{xs:List (Nat×Operand)}{vs:List Value}(ho:o.op= .buildSlice t m xs.toArray)(hd:o.dst=some d)(hdn:Nat.blt d n=true)(ht:P.underlying t=some (.slice e))(hi:tK P e zs (size+1) bytes)
  (hp:uT ah (size+1) 0 xs vs)(hm:xs.length=m)(avV:m*(size+1)≤16777216):
  H1 P X W n ⟨ah,mem⟩ o (fun _:Nat=>True) (fun b=>⟨(d,.slice (some ⟨b,0,none⟩) m m)::ah,.ae e (size+1) (some ⟨b,0,none⟩) m m (vs.map dC)::mem⟩):=by
 intro a w hs k Q hk
 obtain⟨i,z,jd,sI,wz,zW,BI⟩:=hi
 subst hm
 obtain⟨gv,hz⟩:=hp.len
 let zero:Array Value:=if xs.length*(size+1)=0 then #[]else z.cells
 obtain⟨c',hf,rr⟩:=Uo (a:=a) hp hs ((Array.range (xs.length*(size+1))).map (zero[· %zero.size]!)) sM
 have Kq:c'.toList=(vs.map dC).flatten:=by
  rw [rr,sA sM];simp
 have iG:c'=(vs.map dC).flatten.toArray:=by rw [←Kq]
 have fO:(execOp a.eval o).run P w= .ok (.value (.slice (some ⟨w.heap.size,0,none⟩) xs.length xs.length)) (w.alloc (.cells (vs.map dC).flatten.toArray e)):=by
  have aeB:(xs.toArray.map fun x=>(x.1,a.eval x.2)).toList=xs.map fun p=>(p.1,a.eval p.2):=by simp
  rw [←iG]
  simp only [execOp,ho,Instr.buildSlice,wh,cL ht,xS,sizeOf,typeInfo,Bv,run_program,jd,zW,aeB]
  have fE:¬(xs.length*(size+1)>2^24):=oM
  simp only [fE,if_false]
  by_cases h0:xs.length*(size+1)=0
  ·have wB:zero= #[]:=by simp [zero,h0]
   rw [wB]at hf
   simp only [h0]at hf⊢
   simp only [wh,Bv,xS,if_true,hf]
   simp [newRow]
  ·have wB:zero=z.cells:=by simp [zero,h0]
   rw [wB]at hf
   simp [h0,zeroValue,typeInfo,jd,sI,hf,newRow]
 refine wv fO ?_
 rw [hd]
 refine hk w.heap.size _ _ trivial (cd.put (hs.new _ (.ae e (size+1) (some ⟨w.heap.size,0,none⟩) xs.length xs.length (vs.map dC)) ⟨?_,?_,hz⟩ (fun _ h=>(Option.some.inj h).symm)) hdn _)
 ·have:=World.ownsRow_lit (base:=0) (e:=e) (size:=size+1) w (vs.map dC).flatten.toArray xs.length (gA _) (by have:=Nat.le_mul_of_pos_right xs.length (show 0<size+1 from oM);simp [maxLen];omega) (by simp only [List.size_toArray];rw [tL _ hz,bD,gv])
  simpa using this
 ·simp [gv]
theorem GG{m cap:Nat}{kl kc:IntKind}{z:Value}{bytes:Nat}(ho:o.op= .makeSlice t x y)(hd:o.dst=some d)(hdn:Nat.blt d n=true)(ht:P.underlying t=some (.slice e))(hi:tK P e [z] 1 bytes)(hx:ev ah x=some (.int kl m))(hy:ev ah y=some (.int kc cap))(zV:m≤cap)
  (hb:bytes*cap≤281474976710656)(GF:cap≤9223372036854775807):
  H1 P X W n ⟨ah,mem⟩ o (fun _:Nat=>True) (fun b=>⟨(d,.slice (some ⟨b,0,none⟩) m cap)::ah,.ae e 1 (some ⟨b,0,none⟩) m cap (List.replicate m [z])::mem⟩):=by
 intro a w hs k Q hk
 obtain⟨i,z',jd,sI,wz,zW,BI⟩:=hi
 have oX:z'.cells= #[z]:=by apply Array.ext';simpa using wz
 have nf:(i.bytes:Int)*(cap:Int)≤281474976710656:=by
  rw [BI]
  have h:((bytes*cap:Nat):Int)≤281474976710656:=oM
  rwa [Gb]at h
 have hr:=run_make (P:=P) w t e i z' ht jd sI kl kc m cap  oM oM nf  oM
 simp only [Int.toNat_natCast,zW,Nat.mul_one,oX]at hr
 have fO:(execOp a.eval o).run P w= .ok (.value (.slice (some ⟨w.heap.size,0,none⟩) m cap)) (w.alloc (.cells (madeCells #[z] cap) e)):=by
  simp [execOp,ho,hs.eval hx,hs.eval hy,hr]
 refine wv fO ?_
 rw [hd]
 refine hk w.heap.size _ _ trivial (cd.put (hs.new _ (.ae e 1 (some ⟨w.heap.size,0,none⟩) m cap (List.replicate m [z])) ⟨⟨?_,.inr ⟨w.heap.size,cap,_,rfl,gA _,heap_alloc_new w _,zV,by simpa [maxLen]using GF,by simp [size_madeCells],?_⟩⟩,by simp,by simp⟩ (fun _ h=>(Option.some.inj h).symm)) hdn _)
 ·rw [tL (size:=1) _ sM];simp
 ·rw [toList_madeCells_one]
  simp only [Nat.mul_one,List.take_replicate,J1 zV]
  simp
theorem o0{f:FuncId}{xs:List Operand}{ts:Array TypeId}{vs:List Value}{Y:World→Nat→Prop}{Φ:Value→List ak→Prop}(cs ls:List ak)(ho:o.op= .call {callee:= .value (.func f),args:=xs.toArray,argTypes:=ts})(hd:o.dst=some d)(hdn:Nat.blt d n=true)
  (hf:eG P f)(hx:kv ah xs vs)(hp:mem.Perm (cs++ls))(hY:∀w b,Y w b→∃r∈cs,r.at b)(hc:∀w,aU X W w→Mem X W mem w→Calls P f vs.toArray w (bK w (Y w) Φ)):
  H1 P X W n ⟨ah,mem⟩ o (fun i:Value×List ak=>Φ i.1 i.2) (fun i=>⟨(d,i.1)::ah,i.2++ls⟩):=by
 intro a w hs k Q hk
 unfold Oper.wp
 rw [Ug ho hf hx hs]
 refine(hc w hs.dm hs.mem).mono ?_
 rintro e w' ⟨v,m,hΦ,rfl,GH,hm⟩
 have h2:=(hs.change hp GH (hY w) hm).put hdn v
 show k (a.put o.dst v) w'
 rw [hd]
 exact hk (v,m) _ _ hΦ h2
theorem ru{f:FuncId}{xs:List Operand}{ts:Array TypeId}{vs:List Value}{Φ:Value→List ak→Prop}(ho:o.op= .call {callee:= .value (.func f),args:=xs.toArray,argTypes:=ts})(hd:o.dst=some d)(hdn:Nat.blt d n=true)
  (hf:eG P f)(hx:kv ah xs vs)(hc:∀w,aU X W w→Mem X W mem w→Calls P f vs.toArray w (bK w nX Φ)):
  H1 P X W n ⟨ah,mem⟩ o (fun i:Value×List ak=>Φ i.1 i.2) (fun i=>⟨(d,i.1)::ah,i.2++mem⟩):=
 o0 (Y:=fun _=>nX) [] mem ho hd hdn hf hx (List.Perm.refl _) (fun _ _ h=>h.elim) hc
end
theorem ar.oq{m:List ak}:ar m (.aT []::m):=ar.close_ (rs:= [])
theorem ar.cG{m:List ak}(e:TypeId)(size:Nat):ar m (.ae e size none 0 0 []::m):=fun _ _ w h=>
 ⟨h.cons (r:= .ae e size none 0 0 []) ⟨⟨by simp,.inl ⟨rfl,rfl⟩⟩,rfl,by simp⟩ (fun b hb=>by simp [ak.at]at hb) (fun _ _ b hb=>by simp [ak.at]at hb),
  fun r hr b hb=>by
  rcases ib.1 hr with rfl|hr
  ·simp [ak.at]at hb
  ·exact⟨r,hr,hb⟩⟩
end
inductive mC(P:Program)(ah:List (Nat×Value))(mem:List ak):List ResultVar→List Value→Prop where
 |nil:mC P ah mem [] []
 |tmp {t:Tmp} {v:Value} {rs:List ResultVar} {vs:List Value} (h:dj ah t=some v) (r:mC P ah mem rs vs):mC P ah mem (.tmp t::rs) (v::vs)
 |D8 {a:Tmp} {T tb:TypeId} {b i s:Nat} {cs:List (Nat×Value)} {l:List ak} {us:List Value} {rs:List ResultVar} {vs:List Value} (h:dj ah a=some (.pointer (some ⟨b,i,none⟩))) (ht:iE P T s) (hs:ag mem (.ai b tb cs) l) (hv:lj cs i us) (hl:us.length=s)
   (r:mC P ah mem rs vs):mC P ah mem (.cell a T::rs) (.agg us.toArray::vs)
 |Uq {a:Tmp} {T tb:TypeId} {b i:Nat} {cs:List (Nat×Value)} {l:List ak} {u:Value} {rs:List ResultVar} {vs:List Value} (h:dj ah a=some (.pointer (some ⟨b,i,none⟩))) (ht:f_ P T) (hs:ag mem (.ai b tb cs) l) (hv:dj cs i=some u)
   (r:mC P ah mem rs vs):mC P ah mem (.cell a T::rs) (u::vs)
def Kr:List Value→Value
 | [v]=>v
 |vs=> .tuple vs.toArray
def GI(tmps:Array Value):ResultVar→Sem Value
 | .tmp t=>pure (tmps.getD t undef)
 | .cell ad t=>do loadVar t (←asAddr (tmps.getD ad undef))
theorem aeC{P:Program}{X:Nat→Prop}{W:World}{n:Nat}{ah:List (Nat×Value)}{mem:List ak}{rs:List ResultVar}{vs:List Value}(h:mC P ah mem rs vs){a:Act}{w:World}(hs:cd X W n ⟨ah,mem⟩ a w):
  (rs.mapM (GI a.tmps)).run P w= .ok vs w:=by
 induction h with
 |nil=>simp
 |tmp h r ih=>simp [List.mapM_cons,GI,hs.ah _ _ h,ih]
 |D8 h ht cP hv hl r ih=>
  have hc:=run_loadCells_list (P:=P) w ⟨_,_,none⟩ _ (fun j v hj=>by rw [wg];exact D6 (cP.holds hs.mem) (hv.get j v hj))
  simp [List.mapM_cons,GI,hs.ah _ _ h,ih,asAddr,loadVar,ht.1,ht.2.run,←hl,hc]
 |Uq h ht cP hv r ih=>
  have hc:=D6 (cP.holds hs.mem) hv
  simp [List.mapM_cons,GI,hs.ah _ _ h,ih,asAddr,loadVar,ht.1,hc]
theorem cK{P:Program}{fn:Func}{X:Nat→Prop}{W:World}{n:Nat}{ah:List (Nat×Value)}{mem:List ak}{Φ:Value→List ak→Prop}{rs:List ResultVar}{vs:List Value}(hr:fn.results=rs.toArray)(ho:mC P ah mem rs vs)(x5:List ak)(hm:ar mem x5)(hΦ:Φ (Kr vs) x5):
  bj P fn (bK W X Φ) X W n [] ⟨ah,mem⟩:=by
 intro a w hs
 refine⟨hs.defers,Kr vs,?_,_,x5,hΦ,rfl,hs.dm,(hm _ _ _ hs.mem).1⟩
 have h:=aeC ho hs
 have e:results fn a.tmps=(do let vs←rs.toArray.mapM (GI a.tmps);pure (if h:vs.size=1 then vs[0]else .tuple vs)):=by
  unfold results;rw [hr];rfl
 rw [e]
 simp only [List.mapM_toArray,wh,Sem.run_map,h,xS,Bv]
 congr 1
 cases vs with
 |nil=>rfl
 |cons v r=>cases r<;>simp [Kr]
section
variable{P:Program}{an:Array Oper}{C:World→Prop}{D:Nat→World→World→Prop}{Q:Act→World→Prop}
def jM(an:Array Oper)(aL:Array Bool):Prop:=∀j o,an[j]?=some o→aL.getD j false=true→∀e∈o.after,Region.binds .any e=true→aL.getD e.on false=true
theorem jM.step{aL:Array Bool}{j:Nat}(h:jM an aL)(hj:j∈Region.ready .any an aL):jM an (aL.setIfInBounds j true):=by
 intro i o hi hl e he hb
 refine getD_set_true ?_
 obtain⟨_,oj,ry,eO⟩:=mem_ready.1 hj
 by_cases j7:j=i
 ·subst j7
  rw [hi]at ry;cases ry
  exact eO e he hb
 ·rw [getD_set_ne false j7]at hl
  exact h i o hi hl e he hb
def fF(P:Program)(an:Array Oper)(D:Nat→World→World→Prop)(Q:Act→World→Prop)(E:Exit→Act→World→Prop):Nat→Array Bool→Act→World→Prop
 |0,aL,a,w=>∀w1,aU nX w w1→Region.ready .any an aL= []∧Q a w1
 |dg+1,aL,a,w=>∀w1,aU nX w w1→(Region.ready .any an aL= []→Q a w1)∧
   ∀i∈Region.ready .any an aL,wpOp P an E i (fun a' w'=>D i w1 w'∧fF P an D Q E dg (aL.setIfInBounds i true) a' w') a w1
theorem fF.up{E:Exit→Act→World→Prop}{dg:Nat}{aL:Array Bool}{a:Act}{w w1:World}(h:fF P an D Q E dg aL a w)(hk:aU nX w w1):fF P an D Q E dg aL a w1:=by
 cases dg with
 |zero=>exact fun w2 qF=>h w2 (hk.fu qF)
 |succ dg=>exact fun w2 qF=>h w2 (hk.fu qF)
theorem fF.any{E:Exit→Act→World→Prop}(hE:∀a w,Q a w→E .normal a w):∀{dg:Nat} {aL:Array Bool} {a:Act} {w:World},fF P an D Q E dg aL a w→wpAny P .any an E dg aL a w
 |0,_,_,w,h=>⟨(h w (aU.refl _ _)).1,hE _ _ (h w (aU.refl _ _)).2⟩
 |_+1,_,_,w,h=>⟨fun h0=>hE _ _ ((h w (aU.refl _ _)).1 h0),fun i hi=>wpOp_mono (fun _ _ h'=>fF.any hE h'.2) ((h w (aU.refl _ _)).2 i hi)⟩
def ot(P:Program)(an:Array Oper)(C:World→Prop)(o:Oper)(v:Value)(a:Act):Prop:=
 (Region.wanted o (yielded an a.tmps)=true∧∀w,C w→((execOp a.eval o).run P w= .ok (.value v) w∨((execOp a.eval o).run P w= .ok .skip w∧v=undef)∨
  ∃f args,(execOp a.eval o).run P w= .ok (.enter f args) w∧Calls P f args w fun e w'=>e= .returned v∧aU nX w w'))∨
 (Region.wanted o (yielded an a.tmps)=false∧v=undef)
theorem ot.wpOp{E:Exit→Act→World→Prop}{i:Nat}{o:Oper}{v:Value}{a:Act}{w:World}(hi:an[i]?=some o)(h:ot P an C o v a)(hw:C w){k:Act→World→Prop}(hk:∀w',aU nX w w'→k (a.put o.dst v) w'):wpOp P an E i k a w:=by
 unfold Go.wpOp
 simp only [hi]
 rcases h with⟨h1,h2⟩|⟨h1,rfl⟩
 ·rw [aG h1]
  refine .inl ?_
  unfold Oper.wp
  rcases h2 w hw with h|⟨h,h3⟩|⟨f,args,h,hc⟩
  ·rw [h];exact hk _ (aU.refl _ _)
  ·rw [h];subst h3;exact hk _ (aU.refl _ _)
  ·rw [h];exact hc.mono fun e w' ⟨he,hw⟩=>by subst he;exact hk _ hw
 ·rw [ay (by rw [h1];simp)]
  exact hk _ (aU.refl _ _)
theorem ot.aeD{o oj:Oper}{v u:Value}{a:Act}(hy:ot P an C o v a)(hs:∀cs b,o.op≠ .select cs b)(h3:∀d,oj.dst=some d→d∉o.looksAt an):ot P an C o v (a.put oj.dst u):=by
 unfold ot at*
 rw [execOp_put o hs a oj.dst u h3,wanted_put o a oj.dst u h3]
 exact hy
def jy(Q:Act→World→Prop):Exit→Act→World→Prop:=fun e a w=>e= .normal∧Q a w
theorem aeE{j:Nat}{oi oj:Oper}{v:Value}{T:Act→World→Prop}(hj:an[j]?=some oj)(zN:oi.apart an oj=true)
  (Ur:∀cs b,oi.op≠ .select cs b)(GJ:∀cs b,oj.op≠ .select cs b){K:Act→World→Prop}{a:Act}{w:World}
  (hy:ot P an C oi v a)(h:wpOp P an (jy T) j K (a.put oi.dst v) w):
  wpOp P an (jy T) j (fun a' w'=>ot P an C oi v a'∧K (a'.put oi.dst v) w') a w:=by
 obtain⟨h1,h2,h3⟩:=Oper.apart_spec zN
 have og:∀(a:Act),ot P an C oi v a→∀u,ot P an C oi v (a.put oj.dst u):=fun a hy u=>hy.aeD Ur h3
 have aeF:∀d,ot P an C oi v {a with defers:=d::a.defers}:=fun d=>hy
 unfold wpOp at*
 simp only [hj]at*
 rw [wanted_put oj a oi.dst v h1]at h
 split
 ·rename_i hw
  simp only [hw,if_true]at h
  rcases h with h|⟨Us,aeG⟩
  case inr=>exact .inr ⟨by unfold Oper.asks at*;rw [execOp_put oj GJ a oi.dst v h1]at Us;exact Us,aeG⟩
  refine .inl ?_
  unfold Oper.wp at*
  rw [execOp_put oj GJ a oi.dst v h1]at h
  generalize (execOp a.eval oj).run P w=r at*
  cases r with
  |ok n w'=>
   cases n<;>simp only [Oper.upon]at h⊢
   case value u=>exact⟨og a hy u,by rw [←Act.put_comm a v u h2];exact h⟩
   case skip=>exact⟨og a hy _,by rw [←Act.put_comm a v undef h2];exact h⟩
   case defer d=>
    refine⟨og _ (aeF d) _,?_⟩
    rw [←Act.put_comm _ v undef h2,←Act.put_defers]
    exact h
   case enter f args=>
    refine Calls.mono h fun e GK he=>?_
    cases e with
    |returned u=>exact⟨og a hy u,by rw [←Act.put_comm a v u h2];exact he⟩
    |panicked c=>exact absurd he.1 sM
    |outgrown=>exact he
   case row row args=>exact Rows.mono h fun u GK he=>⟨og a hy u,by rw [←Act.put_comm a v u h2];exact he⟩
  |halt x w'=>
   cases x<;>simp only [Oper.upon]at h⊢
   case panic u=>exact absurd h.1 sM
 ·rename_i hw
  simp only [hw]at h
  exact⟨og a hy _,by rw [←Act.put_comm a v undef h2];exact h⟩
theorem fF.first{T:Act→World→Prop}{i:Nat}{oi:Oper}{v:Value}(hi:an[i]?=some oi)(cQ:∀(j:Nat) (o:Oper) cs b,an[j]?=some o→o.op≠ .select cs b)(mg:∀w w',C w→aU nX w w'→C w')
  (Ut:∀w1 w',aU nX w1 w'→D i w1 w')(hD:∀aL j w1 w',jM an aL→aL.getD i true=false→j∈Region.ready .any an aL→C w1→D j w1 w'→C w'):
  ∀(dg:Nat) (aL:Array Bool) (a:Act) (w:World),jM an aL→
   (∀j oj,an[j]?=some oj→j≠i→aL.getD j true=false→(∀e∈oj.after,Region.binds .any e=true→e.on≠i)→oi.apart an oj=true)→
   i∈Region.ready .any an aL→ot P an C oi v a→C w→
   fF P an D Q (jy T) dg (aL.setIfInBounds i true) (a.put oi.dst v) w→fF P an D Q (jy T) (dg+1) aL a w:=by
 intro dg
 induction dg with
 |zero=>
  intro aL a w _ _ hr hy hw H w1 ct
  refine⟨fun h=>(by rw [h]at hr;cases hr),fun j hj=>?_⟩
  by_cases zX:j=i
  ·subst zX;exact hy.wpOp hi (mg _ _ hw ct) fun w' bO=>⟨Ut _ _ bO,H.up (ct.fu bO)⟩
  ·have:=ready_mono hj zX
   rw [(H w1 ct).1]at this
   cases this
 |succ dg ih=>
  intro aL a w bT Uu hr hy hw H w1 ct
  refine⟨fun h=>(by rw [h]at hr;cases hr),fun j hj=>?_⟩
  by_cases zX:j=i
  ·subst zX;exact hy.wpOp hi (mg _ _ hw ct) fun w' bO=>⟨Ut _ _ bO,H.up (ct.fu bO)⟩
  ·have h1:=(H w1 ct).2 j (ready_mono hj zX)
   obtain⟨Uv,oj,ry,eO⟩:=mem_ready.1 hj
   have wy:∀e∈oj.after,Region.binds .any e=true→e.on≠i:=fun e he hb heq=>by
    have h1:=eO e he hb
    have h0:=(mem_ready.1 hr).1
    rw [heq]at h1
    rcases jo i aL.size with h'|h'
    ·simp [h']at h0 h1;rw [h0]at h1;cases h1
    ·simp [DR h']at h1
   have h2:=aeE ry (Uu j oj ry zX Uv wy) (fun cs b=>cQ i oi cs b hi) (fun cs b=>cQ j oj cs b ry) hy h1
   have aeH:∀k ok,an[k]?=some ok→k≠i→(aL.setIfInBounds j true).getD k true=false→
     (∀e∈ok.after,Region.binds .any e=true→e.on≠i)→oi.apart an ok=true:=fun k ok hk GL wC j8=>by
    refine Uu k ok hk GL ?_ j8
    by_cases Uw:j=k
    ·subst Uw;exact Uv
    ·rw [getD_set_ne true Uw]at wC;exact wC
   refine wpOp_mono (fun a' w' h3=>⟨h3.2.1,ih (aL.setIfInBounds j true) a' w' (bT.step hj) aeH (ready_mono hr (Ne.symm zX)) h3.1 (hD aL j w1 w' bT (mem_ready.1 hr).1 hj (mg _ _ hw ct) h3.2.1) ?_⟩) h2
   rw [Array.setIfInBounds_comm _ _ zX]
   exact h3.2.2
end
def uU(an:Array Oper):List (Nat×Nat)→Array Bool→Bool
 | [],aL=>(Region.ready .any an aL).isEmpty
 |(i,0)::r,aL=>(Region.ready .any an aL).contains i&&Region.free .any an aL i&&uU an r (aL.setIfInBounds i true)
 |(i,_+1)::r,aL=>(Region.ready .any an aL== [i])&&uU an r (aL.setIfInBounds i true)
def jN:List (Nat×Nat)→Nat→Nat
 | [],_=>1
 |(i,t)::r,j=>if i=j then t else jN r j
def waits(an:Array Oper)(j i:Nat):Bool:=match an[j]? with
 |some o=>o.after.any fun e=>Region.binds .any e&&e.on==i
 |none=>false
def Kt(an:Array Oper):Nat→List Nat→Bool
 |_, []=>true
 |t,u::r=>waits an u t&&Kt an u r
def zY(an:Array Oper)(bJ:List (Nat×Nat)):Bool:=
 match(bJ.filter (·.2==2)).map (·.1)with
 | []=>true
 |t::r=>Kt an t r&&((bJ.filter (·.2≤1)).all fun p=>p.1<t&&(t::((bJ.filter (·.2≤1)).map (·.1))).any fun m=>decide (p.1<m)&&decide (m≤t)&&waits an m p.1)
def GM(an:Array Oper)(order:List (Nat×Nat)):Bool:=Region.noSelect an&&Nat.beq order.length an.size&&uU an order (Array.replicate an.size false)&&zY an order
theorem Oa{an:Array Oper}{j i:Nat}(h:waits an j i=true):∃o,an[j]?=some o∧∃e∈o.after,Region.binds .any e=true∧e.on=i:=by
 unfold waits at h
 cases ho:an[j]? with
 |none=>rw [ho]at h;cases h
 |some o=>
  rw [ho]at h
  simp only [Array.any_eq_true',ft,jr]at h
  obtain⟨e,he,hb,hi⟩:=h
  exact⟨o,rfl,e,he,hb,hi⟩
theorem Ob:∀{bJ:List (Nat×Nat)} {j t:Nat},jN bJ j=t→t≠1→(j,t)∈bJ
 | [],_,_,h,h1=>absurd h.symm h1
 |(i,u)::r,j,t,h,h1=>by
  simp only [jN]at h
  split at h
  ·rename_i e;subst e;subst h;exact dH
  ·exact eT _ (Ob h h1)
theorem Ku{an:Array Oper}{bJ:List (Nat×Nat)}(h:zY an bJ=true){aL:Array Bool}(bT:jM an aL){i j:Nat}(hi:jN bJ i=0)(hj:jN bJ j=2)(hr:j∈Region.ready .any an aL):aL.getD i false=true:=by
 have eA:=Ob hi (by decide)
 have er:=Ob hj (by decide)
 unfold zY at h
 have Kv:j∈(bJ.filter (·.2==2)).map (·.1):=cM.2 ⟨(j,2),zu.2 ⟨er,by simp⟩,rfl⟩
 obtain⟨_,oj,ry,Ux⟩:=mem_ready.1 hr
 generalize (bJ.filter (·.2==2)).map (·.1)=aeI at h Kv
 cases aeI with
 |nil=>cases Kv
 |cons t r=>
  simp only [ft,zw,lD,iK]at h
  obtain⟨rz,Oc⟩:=h
  have hdt:∀o,an[t]?=some o→∀e∈o.after,Region.binds .any e=true→aL.getD e.on false=true:=by
   have key:∀(r:List Nat) (t:Nat),Kt an t r=true→j∈t::r→∀o,an[t]?=some o→∀e∈o.after,Region.binds .any e=true→aL.getD e.on false=true:=by
    intro r
    induction r with
    |nil=>
     intro t _ hm o ho e he hb
     simp only [cS]at hm
     subst hm
     rw [ry]at ho;cases ho
     exact Ux e he hb
    |cons u r ih=>
     intro t hc hm o ho e he hb
     simp only [Kt,ft]at hc
     rcases ib.1 hm with rfl|hm
     ·rw [ry]at ho;cases ho
      exact Ux e he hb
     ·have h1:=ih u hc.2 hm
      obtain⟨ou,hou,eu,heu,hbu,kx⟩:=Oa hc.1
      have h2:=h1 ou hou eu heu hbu
      rw [kx]at h2
      exact bT t o ho h2 e he hb
   exact key r t rz Kv
  have Kw:∀(d i q:Nat),t-i≤d→q≤1→(i,q)∈bJ→aL.getD i false=true:=by
   intro d
   induction d with
   |zero=>
    intro i q hd hq mD
    have:=(Oc (i,q) (zu.2 ⟨mD,by simpa using hq⟩)).1
    simp only at this
    omega
   |succ d ih=>
    intro i q hd hq mD
    obtain⟨bG,m,hm,hlm,hw⟩:=Oc (i,q) (zu.2 ⟨mD,by simpa using hq⟩)
    obtain⟨om,Uy,e,he,hb,kx⟩:=Oa hw
    rcases ib.1 hm with rfl|hm
    ·have:=hdt om Uy e he hb
     rwa [kx]at this
    ·obtain⟨p,hp,rfl⟩:=cM.1 hm
     have GN:=zu.1 hp
     have aeO:=ih p.1 p.2 (by simp only at hlm bG;omega) (by simpa using GN.2) GN.1
     have:=bT p.1 om Uy aeO e he hb
     rwa [kx]at this
  exact Kw _ i 0 (cm _)  oM eA
section
variable{P:Program}{fn:Func}{R:Ending→World→Prop}{X:Nat→Prop}{W:World}{n:Nat}{k:List K}{S:St}{ah:List (Nat×Value)}{mem:List ak}{M0:List ak}{an:Array Oper}{bJ:List (Nat×Nat)}
def fP(X:Nat→Prop)(W:World)(M0:List ak)(w:World):Prop:=aU X W w∧Mem X W M0 w
theorem fP.up{w w':World}(h:fP X W M0 w)(hk:aU nX w w'):fP X W M0 w':=⟨h.1.fu hk,h.2.uL hk⟩
def zZ(X:Nat→Prop)(W:World)(M0:List ak)(bJ:List (Nat×Nat))(j:Nat)(w1 w':World):Prop:=
 match jN bJ j with
 |0=>aU nX w1 w'
 |2=>True
 |_=>fP X W M0 w'
def iM(P:Program)(fn:Func)(R:Ending→World→Prop)(X:Nat→Prop)(W:World)(n:Nat)(k:List K)(M0:List ak)(an:Array Oper)(bJ order:List (Nat×Nat))(S:St):Prop:=
 ∀aL,Region.noSelect an=true→zY an bJ=true→uU an order aL=true→jM an aL→∀a w,cd X W n S a w→((∃i,jN bJ i=0∧aL.getD i true=false)→fP X W M0 w)→
  fF P an (zZ X W M0 bJ) (fun a w=>post P fn R k .normal a w) (jy fun a w=>post P fn R k .normal a w) order.length aL a w
theorem Uz{id:Nat}{l:List Oper}(order:List (Nat×Nat))(hm:P.follows .mixedOrders=true)(cu:GM l.toArray order=true)(hM:ar S.mem M0)(h:iM P fn R X W n k M0 l.toArray order order S):
  bj P fn R X W n (.bq (.region id l.toArray true)::k) S:=by
 intro a w hs
 simp only [GM,ft]at cu
 obtain⟨⟨⟨h1,h2⟩,h3⟩,h4⟩:=cu
 have fD:order.length=l.toArray.size:=xO h2
 have cP:cd X W n S a {w with drawn:=w.drawn+1}:=hs.world (aU.refl nX w).drew
 have bT:jM l.toArray (Array.replicate l.toArray.size false):=by
  intro j o hj hl
  rcases jo j l.toArray.size with h'|h'
  ·simp at h';simp [h']at hl
  ·simp at h';simp [h']at hl
 have hd:=h _ h1 h4 h3 bT a _ cP (fun _=>⟨cP.dm,(hM _ _ _ cP.mem).1⟩)
 rw [fD]at hd
 have:=wp_region_any (P:=P) (id:=id) hm (fF.any (E:=jy fun a w=>post P fn R k .normal a w) (fun a w h=>⟨rfl,h⟩) hd)
 exact Bp (fun e a w ⟨he,hq⟩=>by subst he;exact hq) this
theorem aeP(h:bj P fn R X W n k S):iM P fn R X W n k M0 an bJ [] S:=by
 intro aL _ _ cu _ a w hs _ w1 ct
 exact⟨by simpa [uU]using cu,h a w1 (hs.world ct)⟩
theorem Kx{aL:Array Bool}{i:Nat}(h:i∈Region.ready .any an aL):aL.getD i true=false:=(mem_ready.1 h).1
theorem UA{i:Nat}{o:Oper}{v:Value}{r:List (Nat×Nat)}{aL:Array Bool}{a:Act}{w:World}(hi:an[i]?=some o)(ht:jN bJ i=0)(cQ:Region.noSelect an=true)(eV:zY an bJ=true)(cu:uU an ((i,0)::r) aL=true)(bT:jM an aL)
  (hy:ot P an (fP X W M0) o v a)(hC:fP X W M0 w)
  (hk:uU an r (aL.setIfInBounds i true)=true→jM an (aL.setIfInBounds i true)→fF P an (zZ X W M0 bJ) (fun a w=>post P fn R k .normal a w) (jy fun a w=>post P fn R k .normal a w) r.length (aL.setIfInBounds i true) (a.put o.dst v) w):
  fF P an (zZ X W M0 bJ) (fun a w=>post P fn R k .normal a w) (jy fun a w=>post P fn R k .normal a w) ((i,0)::r).length aL a w:=by
 simp only [uU,ft]at cu
 obtain⟨⟨h1,h2⟩,h3⟩:=cu
 have hr:i∈Region.ready .any an aL:=by simpa using h1
 refine fF.first (C:=fP X W M0) (v:=v) hi (Gc cQ) (fun _ _=>fP.up) (fun w1 w' hk=>by unfold zZ;rw [ht];exact hk) (fun L j w1 w' hL D9 hj o5 hD=>?_) _ _ _ _ bT (Ge hi h2) hr hy hC (hk h3 (bT.step hr))
 unfold zZ at hD
 split at hD
 ·exact o5.up hD
 ·rename_i hx
  exfalso
  have:=Ku eV hL ht hx hj
  rcases jo i L.size with h'|h'
  ·simp [h']at this D9;rw [D9]at this;cases this
  ·simp [h']at this
 ·exact hD
theorem rA{i d:Nat}{o:Oper}{v:Value}{r:List (Nat×Nat)}(hi:an[i]?=some o)(ht:jN bJ i=0)(hw:cW an ah o true)(hd:o.dst=some d)(hdn:Nat.blt d n=true)(h:Q1 P X W n ⟨ah,M0⟩ o v)
  (hk:iM P fn R X W n k M0 an bJ r ⟨(d,v)::ah,mem⟩):iM P fn R X W n k M0 an bJ ((i,0)::r) ⟨ah,mem⟩:=by
 intro aL cQ eV cu bT a w hs hC
 have hr:i∈Region.ready .any an aL:=by simp only [uU,ft]at cu;simpa using cu.1.1
 have lI:=hC ⟨i,ht,Kx hr⟩
 refine UA hi ht cQ eV cu bT (v:=v) (.inl ⟨hw.eq hs,fun w' lf=>h a w' ⟨hs.size,hs.defers,hs.ah,lf.1,lf.2⟩⟩) lI fun h3 lJ=>?_
 have:=hk _ cQ eV h3 lJ (a.put (some d) v) w (hs.put hdn v) (fun _=>lI)
 rw [hd]
 exact this
theorem qG{r:List (Nat×Nat)}(t:Tmp){c:Bool}(NV:dj S.ah t=some (.bool c))(h1:c=true→iM P fn R X W n k M0 an bJ r S)(h2:c=false→iM P fn R X W n k M0 an bJ r S):iM P fn R X W n k M0 an bJ r S:=by
 cases c
 ·exact h2 rfl
 ·exact h1 rfl
theorem UB{i d:Nat}{o:Oper}{r:List (Nat×Nat)}(hi:an[i]?=some o)(ht:jN bJ i=0)(hw:cW an ah o false)(hd:o.dst=some d)(hdn:Nat.blt d n=true)
  (hk:iM P fn R X W n k M0 an bJ r ⟨(d,undef)::ah,mem⟩):iM P fn R X W n k M0 an bJ ((i,0)::r) ⟨ah,mem⟩:=by
 intro aL cQ eV cu bT a w hs hC
 have hr:i∈Region.ready .any an aL:=by simp only [uU,ft]at cu;simpa using cu.1.1
 have lI:=hC ⟨i,ht,Kx hr⟩
 refine UA hi ht cQ eV cu bT (v:=undef) (.inr ⟨hw.eq hs,rfl⟩) lI fun h3 lJ=>?_
 have:=hk _ cQ eV h3 lJ (a.put (some d) undef) w (hs.put hdn undef) (fun _=>lI)
 rw [hd]
 exact this
theorem UC{i t:Nat}{o:Oper}{r:List (Nat×Nat)}{ι:Type}{φ:ι→Prop}{next:ι→St}(hi:an[i]?=some o)(hw:cW an ah o true)(h:H1 P X W n ⟨ah,mem⟩ o φ next)(hD:∀j w1 w',φ j→aU X W w'→Mem X W (next j).mem w'→zZ X W M0 bJ i w1 w')
  (hM:∀j,φ j→ar (next j).mem M0∨jN bJ i=2)
  (hk:∀j,φ j→iM P fn R X W n k M0 an bJ r (next j)):iM P fn R X W n k M0 an bJ ((i,t+1)::r) ⟨ah,mem⟩:=by
 intro aL cQ eV cu bT a w hs _ w1 ct
 have aeQ:=cu
 simp only [uU,ft,jr]at cu
 obtain⟨h1,h3⟩:=cu
 refine⟨fun h0=>(by rw [h1]at h0;cases h0),fun j hj=>?_⟩
 rw [h1]at hj
 simp only [cS]at hj
 subst hj
 unfold wpOp
 simp only [hi]
 have eo:=hs.world ct
 rw [aG (hw.eq eo)]
 refine .inl (h a w1 eo _ _ fun i' a' w' hφ cP=>⟨hD i' w1 w' hφ cP.dm cP.mem,?_⟩)
 refine hk i' hφ _ cQ eV h3 (bT.step (by rw [h1];simp)) a' w' cP ?_
 rintro⟨q,hq,wC⟩
 rcases hM i' hφ with hm|hm
 ·exact⟨cP.dm,(hm _ _ _ cP.mem).1⟩
 ·have h5:=Ku eV bT hq hm (by rw [h1];simp)
  have h6:=getD_set_true (i:=j) h5
  rcases jo q (aL.setIfInBounds j true).size with h'|h'
  ·simp only [NR,NS h',Gf]at h6 wC
   rw [wC]at h6;cases h6
  ·simp only [NR,DR h',Option.getD_none]at h6
   cases h6
theorem kQ{i:Nat}{o:Oper}{r:List (Nat×Nat)}{ι:Type}{φ:ι→Prop}{next:ι→St}(hi:an[i]?=some o)(ht:jN bJ i=1)(hw:cW an ah o true)(h:H1 P X W n ⟨ah,mem⟩ o φ next)(hM:∀j,φ j→ar (next j).mem M0)
  (hk:∀j,φ j→iM P fn R X W n k M0 an bJ r (next j)):iM P fn R X W n k M0 an bJ ((i,1)::r) ⟨ah,mem⟩:=
 UC (t:=0) hi hw h (fun j w1 w' hφ hk hm=>by unfold zZ;rw [ht];exact⟨hk,(hM j hφ _ _ _ hm).1⟩) (fun j hφ=> .inl (hM j hφ)) hk
theorem UD{i:Nat}{o:Oper}{r:List (Nat×Nat)}{ι:Type}{φ:ι→Prop}{next:ι→St}(hi:an[i]?=some o)(ht:jN bJ i=2)(hw:cW an ah o true)(h:H1 P X W n ⟨ah,mem⟩ o φ next)
  (hk:∀j,φ j→iM P fn R X W n k M0 an bJ r (next j)):iM P fn R X W n k M0 an bJ ((i,2)::r) ⟨ah,mem⟩:=
 UC (t:=1) hi hw h (fun j w1 w' _ _ _=>by unfold zZ;rw [ht];trivial) (fun _ _=> .inr ht) hk
theorem Od{f:FuncId}{vs:List Value}{R:Ending→World→Prop}{c:Code}{m:List ak}(hf:P.funcs[f]?=some fn)(hn:fn.ntmps=n)(hb:fn.body=some c)
  (hz:Nat.ble vs.length n=true)(hm:Mem X W m W)(h:bj P fn R X W n [.bq c] ⟨bm 0 vs,m⟩):Calls P f vs.toArray W R:=
 enter hf hn hb (by simpa using hz) (fun k v hk=>by
  obtain⟨_,h2⟩:=Gw vs 0 k v hk
  simpa using h2) hm h
theorem bQ{α:Type}{p:α→Prop}{x:α}(h:p x):∀z∈ [x],p z:=by simpa using h
def aa{α:Type} [Inhabited α](l:List α)(q:Nat):α:=l.getD q default
theorem D_{α:Type} [Inhabited α]{l:List α}{q:Nat}(h:q<l.length):l[q]?=some (aa l q):=by
 simp [aa,j4 h]
theorem nD{α:Type} [Inhabited α]{l:List α}{q:Nat}(h:q<l.length):l.drop q=aa l q::l.drop (q+1):=by
 rw [uG h];simp [aa,j4 h]
theorem o6{α:Type} [Inhabited α]{l:List α}{q:Nat}(h:q<l.length):l.take (q+1)=l.take q++ [aa l q]:=by
 rw [List.take_succ_eq_append_getElem h];simp [aa,j4 h]
theorem bX{α:Type} [Inhabited α]{enc:α→List Value}{l:List α}{q:Nat}(h:q<l.length):(l.map enc)[q]?=some (enc (aa l q)):=by
 rw [jt,D_ h];rfl
theorem ag.aQ{rs l:List ak}{r:ak}(h:ag rs r l):ar rs l:=(ar.aR h.aR).trans (.sub (zx _ _))
theorem Eb{ι:Type}{c:Code}{bM:List (Nat×Value)}{bN:List ak}{r0:ak}(φ:ι→Prop)(g0:ι→ak)
  (h:bj P fn R X W n (.bq c:: .stop (x0 X W n φ (fun i=>⟨bM,g0 i::bN⟩))::k) ⟨bM,r0::bN⟩)(h':∀i,φ i→bj P fn R X W n k ⟨bM,g0 i::bN⟩):bj P fn R X W n (.bq c::k) ⟨bM,r0::bN⟩:=
 D3 φ (fun i=>⟨bM,g0 i::bN⟩) h h'
theorem aeR{ι:Type}{c:Code}{bM:List (Nat×Value)}{bN:List ak}{r0 r1:ak}(φ:ι→Prop)(g0 g1:ι→ak)(μ:ι→Nat)(i0:ι)(h0:φ i0)(q0:cN r0 (g0 i0))(q1:cN r1 (g1 i0))
  (hr:∀i,φ i→bj P fn R X W n (.bq c:: .stop (oW X W n φ (fun i=>⟨bM,g0 i::g1 i::bN⟩) μ (μ i))::k) ⟨bM,g0 i::g1 i::bN⟩):bj P fn R X W n (.bq (.loop c)::k) ⟨bM,r0::r1::bN⟩:=by
 exact rn φ (fun i=>⟨bM,g0 i::g1 i::bN⟩) μ i0 h0 (au dR.refl (ar.cons ag.ao q0 (ar.cons ag.ao q1 ar.refl))) hr
theorem Oe{ι:Type}{c:Code}{bM:List (Nat×Value)}{bN:List ak}{r0 r1:ak}(φ:ι→Prop)(g0 g1:ι→ak)
  (h:bj P fn R X W n (.bq c:: .stop (x0 X W n φ (fun i=>⟨bM,g0 i::g1 i::bN⟩))::k) ⟨bM,r0::r1::bN⟩)(h':∀i,φ i→bj P fn R X W n k ⟨bM,g0 i::g1 i::bN⟩):bj P fn R X W n (.bq c::k) ⟨bM,r0::r1::bN⟩:=
 D3 φ (fun i=>⟨bM,g0 i::g1 i::bN⟩) h h'
theorem dI{ι:Type}{c:Code}{bM:List (Nat×Value)}{bN:List ak}{s0:Nat}{u0:Value}(φ:ι→Prop)(f0:ι→Value)(μ:ι→Nat)(i0:ι)(h0:φ i0)(e0:u0=f0 i0)
  (hr:∀i,φ i→bj P fn R X W n (.bq c:: .stop (oW X W n φ (fun i=>⟨(s0,f0 i)::bM,bN⟩) μ (μ i))::k) ⟨(s0,f0 i)::bM,bN⟩):bj P fn R X W n (.bq (.loop c)::k) ⟨(s0,u0)::bM,bN⟩:=by
 subst e0
 exact rn φ (fun i=>⟨(s0,f0 i)::bM,bN⟩) μ i0 h0 (au dR.refl ar.refl) hr
theorem aeS{ι:Type}{c:Code}{bM:List (Nat×Value)}{bN:List ak}{s0:Nat}{u0:Value}(φ:ι→Prop)(f0:ι→Value)
  (h:bj P fn R X W n (.bq c:: .stop (x0 X W n φ (fun i=>⟨(s0,f0 i)::bM,bN⟩))::k) ⟨(s0,u0)::bM,bN⟩)(h':∀i,φ i→bj P fn R X W n k ⟨(s0,f0 i)::bM,bN⟩):bj P fn R X W n (.bq c::k) ⟨(s0,u0)::bM,bN⟩:=
 D3 φ (fun i=>⟨(s0,f0 i)::bM,bN⟩) h h'
theorem o7{ι:Type}{c:Code}{bM:List (Nat×Value)}{bN:List ak}{s0:Nat}{u0:Value}{r0:ak}(φ:ι→Prop)(f0:ι→Value)(g0:ι→ak)(μ:ι→Nat)(i0:ι)(h0:φ i0)(e0:u0=f0 i0)(q0:cN r0 (g0 i0))
  (hr:∀i,φ i→bj P fn R X W n (.bq c:: .stop (oW X W n φ (fun i=>⟨(s0,f0 i)::bM,g0 i::bN⟩) μ (μ i))::k) ⟨(s0,f0 i)::bM,g0 i::bN⟩):bj P fn R X W n (.bq (.loop c)::k) ⟨(s0,u0)::bM,r0::bN⟩:=by
 subst e0
 exact rn φ (fun i=>⟨(s0,f0 i)::bM,g0 i::bN⟩) μ i0 h0 (au dR.refl (ar.cons ag.ao q0 ar.refl)) hr
theorem Kz{ι:Type}{c:Code}{bM:List (Nat×Value)}{bN:List ak}{s0:Nat}{u0:Value}{r0:ak}(φ:ι→Prop)(f0:ι→Value)(g0:ι→ak)
  (h:bj P fn R X W n (.bq c:: .stop (x0 X W n φ (fun i=>⟨(s0,f0 i)::bM,g0 i::bN⟩))::k) ⟨(s0,u0)::bM,r0::bN⟩)(h':∀i,φ i→bj P fn R X W n k ⟨(s0,f0 i)::bM,g0 i::bN⟩):bj P fn R X W n (.bq c::k) ⟨(s0,u0)::bM,r0::bN⟩:=
 D3 φ (fun i=>⟨(s0,f0 i)::bM,g0 i::bN⟩) h h'
theorem ov{ι:Type}{c:Code}{bM:List (Nat×Value)}{bN:List ak}{s0:Nat}{u0:Value}{r0 r1:ak}(φ:ι→Prop)(f0:ι→Value)(g0 g1:ι→ak)(μ:ι→Nat)(i0:ι)(h0:φ i0)(e0:u0=f0 i0)(q0:cN r0 (g0 i0))(q1:cN r1 (g1 i0))
  (hr:∀i,φ i→bj P fn R X W n (.bq c:: .stop (oW X W n φ (fun i=>⟨(s0,f0 i)::bM,g0 i::g1 i::bN⟩) μ (μ i))::k) ⟨(s0,f0 i)::bM,g0 i::g1 i::bN⟩):bj P fn R X W n (.bq (.loop c)::k) ⟨(s0,u0)::bM,r0::r1::bN⟩:=by
 subst e0
 exact rn φ (fun i=>⟨(s0,f0 i)::bM,g0 i::g1 i::bN⟩) μ i0 h0 (au dR.refl (ar.cons ag.ao q0 (ar.cons ag.ao q1 ar.refl))) hr
theorem KA{ι:Type}{c:Code}{bM:List (Nat×Value)}{bN:List ak}{s0:Nat}{u0:Value}{r0 r1 r2:ak}(φ:ι→Prop)(f0:ι→Value)(g0 g1 g2:ι→ak)(μ:ι→Nat)(i0:ι)(h0:φ i0)(e0:u0=f0 i0)(q0:cN r0 (g0 i0))(q1:cN r1 (g1 i0))(q2:cN r2 (g2 i0))
  (hr:∀i,φ i→bj P fn R X W n (.bq c:: .stop (oW X W n φ (fun i=>⟨(s0,f0 i)::bM,g0 i::g1 i::g2 i::bN⟩) μ (μ i))::k) ⟨(s0,f0 i)::bM,g0 i::g1 i::g2 i::bN⟩):bj P fn R X W n (.bq (.loop c)::k) ⟨(s0,u0)::bM,r0::r1::r2::bN⟩:=by
 subst e0
 exact rn φ (fun i=>⟨(s0,f0 i)::bM,g0 i::g1 i::g2 i::bN⟩) μ i0 h0 (au dR.refl (ar.cons ag.ao q0 (ar.cons ag.ao q1 (ar.cons ag.ao q2 ar.refl)))) hr
theorem kR{ι:Type}{c:Code}{bM:List (Nat×Value)}{bN:List ak}{s0 s1:Nat}{u0 u1:Value}(φ:ι→Prop)(f0 f1:ι→Value)(μ:ι→Nat)(i0:ι)(h0:φ i0)(e0:u0=f0 i0)(e1:u1=f1 i0)
  (hr:∀i,φ i→bj P fn R X W n (.bq c:: .stop (oW X W n φ (fun i=>⟨(s0,f0 i)::(s1,f1 i)::bM,bN⟩) μ (μ i))::k) ⟨(s0,f0 i)::(s1,f1 i)::bM,bN⟩):bj P fn R X W n (.bq (.loop c)::k) ⟨(s0,u0)::(s1,u1)::bM,bN⟩:=by
 subst e0;subst e1
 exact rn φ (fun i=>⟨(s0,f0 i)::(s1,f1 i)::bM,bN⟩) μ i0 h0 (au dR.refl ar.refl) hr
theorem aeT{ι:Type}{c:Code}{bM:List (Nat×Value)}{bN:List ak}{s0 s1:Nat}{u0 u1:Value}(φ:ι→Prop)(f0 f1:ι→Value)
  (h:bj P fn R X W n (.bq c:: .stop (x0 X W n φ (fun i=>⟨(s0,f0 i)::(s1,f1 i)::bM,bN⟩))::k) ⟨(s0,u0)::(s1,u1)::bM,bN⟩)(h':∀i,φ i→bj P fn R X W n k ⟨(s0,f0 i)::(s1,f1 i)::bM,bN⟩):bj P fn R X W n (.bq c::k) ⟨(s0,u0)::(s1,u1)::bM,bN⟩:=
 D3 φ (fun i=>⟨(s0,f0 i)::(s1,f1 i)::bM,bN⟩) h h'
theorem pU{ι:Type}{c:Code}{bM:List (Nat×Value)}{bN:List ak}{s0 s1:Nat}{u0 u1:Value}{r0:ak}(φ:ι→Prop)(f0 f1:ι→Value)(g0:ι→ak)(μ:ι→Nat)(i0:ι)(h0:φ i0)(e0:u0=f0 i0)(e1:u1=f1 i0)(q0:cN r0 (g0 i0))
  (hr:∀i,φ i→bj P fn R X W n (.bq c:: .stop (oW X W n φ (fun i=>⟨(s0,f0 i)::(s1,f1 i)::bM,g0 i::bN⟩) μ (μ i))::k) ⟨(s0,f0 i)::(s1,f1 i)::bM,g0 i::bN⟩):bj P fn R X W n (.bq (.loop c)::k) ⟨(s0,u0)::(s1,u1)::bM,r0::bN⟩:=by
 subst e0;subst e1
 exact rn φ (fun i=>⟨(s0,f0 i)::(s1,f1 i)::bM,g0 i::bN⟩) μ i0 h0 (au dR.refl (ar.cons ag.ao q0 ar.refl)) hr
theorem BK{ι:Type}{c:Code}{bM:List (Nat×Value)}{bN:List ak}{s0 s1:Nat}{u0 u1:Value}{r0 r1:ak}(φ:ι→Prop)(f0 f1:ι→Value)(g0 g1:ι→ak)(μ:ι→Nat)(i0:ι)(h0:φ i0)(e0:u0=f0 i0)(e1:u1=f1 i0)(q0:cN r0 (g0 i0))(q1:cN r1 (g1 i0))
  (hr:∀i,φ i→bj P fn R X W n (.bq c:: .stop (oW X W n φ (fun i=>⟨(s0,f0 i)::(s1,f1 i)::bM,g0 i::g1 i::bN⟩) μ (μ i))::k) ⟨(s0,f0 i)::(s1,f1 i)::bM,g0 i::g1 i::bN⟩):bj P fn R X W n (.bq (.loop c)::k) ⟨(s0,u0)::(s1,u1)::bM,r0::r1::bN⟩:=by
 subst e0;subst e1
 exact rn φ (fun i=>⟨(s0,f0 i)::(s1,f1 i)::bM,g0 i::g1 i::bN⟩) μ i0 h0 (au dR.refl (ar.cons ag.ao q0 (ar.cons ag.ao q1 ar.refl))) hr
theorem Of{ι:Type}{c:Code}{bM:List (Nat×Value)}{bN:List ak}{s0 s1:Nat}{u0 u1:Value}{r0 r1 r2:ak}(φ:ι→Prop)(f0 f1:ι→Value)(g0 g1 g2:ι→ak)(μ:ι→Nat)(i0:ι)(h0:φ i0)(e0:u0=f0 i0)(e1:u1=f1 i0)(q0:cN r0 (g0 i0))(q1:cN r1 (g1 i0))(q2:cN r2 (g2 i0))
  (hr:∀i,φ i→bj P fn R X W n (.bq c:: .stop (oW X W n φ (fun i=>⟨(s0,f0 i)::(s1,f1 i)::bM,g0 i::g1 i::g2 i::bN⟩) μ (μ i))::k) ⟨(s0,f0 i)::(s1,f1 i)::bM,g0 i::g1 i::g2 i::bN⟩):bj P fn R X W n (.bq (.loop c)::k) ⟨(s0,u0)::(s1,u1)::bM,r0::r1::r2::bN⟩:=by
 subst e0;subst e1
 exact rn φ (fun i=>⟨(s0,f0 i)::(s1,f1 i)::bM,g0 i::g1 i::g2 i::bN⟩) μ i0 h0 (au dR.refl (ar.cons ag.ao q0 (ar.cons ag.ao q1 (ar.cons ag.ao q2 ar.refl)))) hr
theorem Og{ι:Type}{c:Code}{bM:List (Nat×Value)}{bN:List ak}{s0 s1 s2:Nat}{u0 u1 u2:Value}(φ:ι→Prop)(f0 f1 f2:ι→Value)(μ:ι→Nat)(i0:ι)(h0:φ i0)(e0:u0=f0 i0)(e1:u1=f1 i0)(e2:u2=f2 i0)
  (hr:∀i,φ i→bj P fn R X W n (.bq c:: .stop (oW X W n φ (fun i=>⟨(s0,f0 i)::(s1,f1 i)::(s2,f2 i)::bM,bN⟩) μ (μ i))::k) ⟨(s0,f0 i)::(s1,f1 i)::(s2,f2 i)::bM,bN⟩):bj P fn R X W n (.bq (.loop c)::k) ⟨(s0,u0)::(s1,u1)::(s2,u2)::bM,bN⟩:=by
 subst e0;subst e1;subst e2
 exact rn φ (fun i=>⟨(s0,f0 i)::(s1,f1 i)::(s2,f2 i)::bM,bN⟩) μ i0 h0 (au dR.refl ar.refl) hr
theorem aeU{ι:Type}{c:Code}{bM:List (Nat×Value)}{bN:List ak}{s0 s1 s2:Nat}{u0 u1 u2:Value}{r0 r1:ak}(φ:ι→Prop)(f0 f1 f2:ι→Value)(g0 g1:ι→ak)(μ:ι→Nat)(i0:ι)(h0:φ i0)(e0:u0=f0 i0)(e1:u1=f1 i0)(e2:u2=f2 i0)(q0:cN r0 (g0 i0))(q1:cN r1 (g1 i0))
  (hr:∀i,φ i→bj P fn R X W n (.bq c:: .stop (oW X W n φ (fun i=>⟨(s0,f0 i)::(s1,f1 i)::(s2,f2 i)::bM,g0 i::g1 i::bN⟩) μ (μ i))::k) ⟨(s0,f0 i)::(s1,f1 i)::(s2,f2 i)::bM,g0 i::g1 i::bN⟩):bj P fn R X W n (.bq (.loop c)::k) ⟨(s0,u0)::(s1,u1)::(s2,u2)::bM,r0::r1::bN⟩:=by
 subst e0;subst e1;subst e2
 exact rn φ (fun i=>⟨(s0,f0 i)::(s1,f1 i)::(s2,f2 i)::bM,g0 i::g1 i::bN⟩) μ i0 h0 (au dR.refl (ar.cons ag.ao q0 (ar.cons ag.ao q1 ar.refl))) hr
end
end Hr
end Go.Proofs.YtdahjfmmndjcpaaGreat
