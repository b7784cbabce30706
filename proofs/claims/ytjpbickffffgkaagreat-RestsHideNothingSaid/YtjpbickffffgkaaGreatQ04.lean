/- Part. -/
import Derived.Test.YtjpbickffffgkaaGreatQ03
set_option linter.unusedSimpArgs false
set_option linter.unusedVariables false
set_option maxHeartbeats 40000000
set_option maxRecDepth 100000
namespace Go.Proofs.YtjpbickffffgkaaGreat
open Go Go.RowKit Hr Go.Proofs.Tryz
theorem rK(x:List Value):([x]:List (List Value))[0]?=some x:=rfl
inductive CN(cs:List (Nat×Value)):Nat→Nat→List Value→Prop where
 |nil {i:Nat}:CN cs i 0 []
 |cons {i s:Nat} {v:Value} {vs:List Value} (h:dw cs i=some v) (t:CN cs (i+1) s vs):CN cs i (s+1) (v::vs)
theorem CN.at{cs:List (Nat×Value)}{i s:Nat}{vs:List Value}(h:CN cs i s vs):my cs i vs∧vs.length=s:=by
 induction h with
 |nil=>exact⟨.nil,rfl⟩
 |cons h _ ih=>exact⟨.cons h ih.1,by rw [ga,ih.2]⟩
theorem sZ{m l:List an}{r:an}(h:ae m r l:=by repeat first|exact ae.ak|apply ae.ah):ae m r l:=h
theorem wA{all:Array Oper}{ai:List (Nat×Value)}{o:Oper}(h:dd all ai o true:=by first|exact .none rfl|exact .on rfl rfl rfl rfl|exact .on rfl rfl rfl (by assumption)):dd all ai o true:=h
theorem fA{all:Array Oper}{ai:List (Nat×Value)}{o:Oper}(h:dd all ai o false:=by first|exact .no rfl rfl rfl rfl|exact .off rfl rfl rfl|exact .no rfl rfl rfl (by assumption)):dd all ai o false:=h
theorem wZ{all:Array Oper}{ai:List (Nat×Value)}{o:Oper}(h:dd all ai o true:=by first|exact .none rfl|exact .on rfl rfl rfl rfl|exact .on rfl rfl rfl (by assumption)|exact .on rfl rfl rfl (by first|exact cw (by omega)|exact dC (by omega)|exact lT.2 (by omega)|exact j7.2 (by omega))):dd all ai o true:=h
theorem fZ{all:Array Oper}{ai:List (Nat×Value)}{o:Oper}(h:dd all ai o false:=by first|exact .no rfl rfl rfl rfl|exact .off rfl rfl rfl|exact .no rfl rfl rfl (by assumption)|exact .no rfl rfl rfl (by first|exact cw (by omega)|exact dC (by omega)|exact lT.2 (by omega)|exact j7.2 (by omega))):dd all ai o false:=h
theorem wP{all:Array Oper}{ai:List (Nat×Value)}{o:Oper}{α:Type}{l:List α}(h:l≠ [])(g:0<l.length→dd all ai o true:=by intro _;exact .on rfl rfl rfl (dC (by omega))):dd all ai o true:=g (eH.2 h)
section
variable{X:Nat→Prop}{W:World}{n:Nat}{S:St}{o:Oper}{t u f b i d:Nat}{x y z:Operand}{v:Value}{ds:Option Nat}{ty:Nat}{po:String}{af:Array Edge}{gd:Option (Nat×Bool)}
theorem amh(ho:o.op= .fieldAddr t x f)(hx:ev S.ai x=some v)(hv:v= .pointer (some ⟨b,i,none⟩))(hf:Nat.blt f 64=true)(hl:lk MW (t*64+f)=some d):Q1 prog X W n S o (.pointer (some ⟨b,i+d,none⟩)):=by
 obtain⟨fs,y,s,h1,h2,rfl,h4⟩:=aai (by simpa [Nat.blt_eq]using hf) hl
 exact r6 ho h1 (hv▸hx) h2 h4 rfl
theorem MY{a:Addr}(ho:o.op= .fieldAddr t x f)(hx:ev S.ai x=some (.pointer (some a)))(hf:Nat.blt f 64=true)(hl:lk MW (t*64+f)=some d):Q1 prog X W n S o (.pointer (some (a.add d))):=by
 obtain⟨fs,y,s,h1,h2,rfl,h4⟩:=aai (by simpa [Nat.blt_eq]using hf) hl
 exact afL ho h1 hx h2 h4 rfl
theorem ami{b i:Nat}{tb:TypeId}{cs:List (Nat×Value)}{l:List an}{u v:Value}{P:Program}(ho:o.op= .load t x)(ht:mz P t)(hx:ev S.ai x=some u)(hu:u= .pointer (some ⟨b,i,none⟩))(hs:ae S.mem (.aj b tb cs) l)(hv:dw cs i=some v):Q1 P X W n S o v:=
 pD ho ht (hu▸hx) hs hv
theorem amj{s:Nat}{tb:TypeId}{cs:List (Nat×Value)}{l:List an}{vs:List Value}{P:Program}{u:Value}(ho:o.op= .load t x)(ht:i_ P t s)(hx:ev S.ai x=some u)(hu:u= .pointer (some ⟨b,i,none⟩))(hs:ae S.mem (.aj b tb cs) l)(hv:CN cs i s vs):Q1 P X W n S o (.agg vs.toArray):=
 OL ho ht (hu▸hx) hs hv.at.1 hv.at.2
variable{P:Program}{w:Value}
theorem amk(h:Q1 P X W n S ⟨ds,.move x,ty,po,af,gd⟩ w):Q1 P X W n S ⟨ds,.move x,ty,po,af,gd⟩ w:=h
theorem aml(h:Q1 P X W n S ⟨ds,.assign x,ty,po,af,gd⟩ w):Q1 P X W n S ⟨ds,.assign x,ty,po,af,gd⟩ w:=h
theorem amm(h:Q1 P X W n S ⟨ds,.load t x,ty,po,af,gd⟩ w):Q1 P X W n S ⟨ds,.load t x,ty,po,af,gd⟩ w:=h
theorem amn(h:Q1 P X W n S ⟨ds,.fieldAddr t x f,ty,po,af,gd⟩ w):Q1 P X W n S ⟨ds,.fieldAddr t x f,ty,po,af,gd⟩ w:=h
theorem amo(h:Q1 P X W n S ⟨ds,.pick x y z,ty,po,af,gd⟩ w):Q1 P X W n S ⟨ds,.pick x y z,ty,po,af,gd⟩ w:=h
theorem amp{k:BinOp}(h:Q1 P X W n S ⟨ds,.binOp k t x y u,ty,po,af,gd⟩ w):Q1 P X W n S ⟨ds,.binOp k t x y u,ty,po,af,gd⟩ w:=h
theorem pw(h:Q1 prog X W n S o v:=by
 first
 |((with_reducible apply amk);exact r5 rfl rfl)
 |((with_reducible apply aml);exact lV rfl rfl)
 |((with_reducible apply amm);first|exact ami rfl (aaf rfl rfl) rfl (by with_reducible rfl) sZ rfl|exact amj rfl (aag rfl rfl) rfl (by with_reducible rfl) sZ (by repeat first|exact .nil|apply CN.cons rfl))
 |((with_reducible apply amn);first|exact amh rfl rfl (by with_reducible rfl) rfl rfl|exact MY rfl rfl rfl rfl)
 |((with_reducible apply amp);first|exact afH rfl rfl rfl|exact EF rfl rfl rfl (by omega)|exact KO rfl rfl rfl (by omega)|exact U9 rfl rfl rfl|exact OG rfl rfl rfl|exact afJ rfl rfl rfl|exact afI rfl rfl rfl|exact afK rfl rfl rfl|exact KP rfl rfl rfl (by omega))
 |((with_reducible apply amo);first|exact dD rfl rfl rfl rfl|exact nJ rfl rfl rfl rfl|exact dD rfl rfl (by assumption) rfl|exact nJ rfl rfl (by assumption) rfl)
 |exact Ao rfl rfl rfl|exact Va rfl rfl|exact U_ rfl (aah rfl) rfl|exact U8 rfl rfl):Q1 prog X W n S o v:=h
end
section
variable{P:Program}{fn:Func}{R:Ending→World→Prop}{X:Nat→Prop}{W:World}{n:Nat}{k:List K}{S:St}{all:Array Oper}{o:Oper}{r:List Oper}{M0:List an}{aq:Array Oper}{cg rd:List (Nat×Nat)}{a:Nat×Nat}{id:Nat}{c:Operand}{p q:Code}
theorem aaj(h:bt P fn R X W n (.aq all (o::r)::k) S):bt P fn R X W n (.aq all (o::r)::k) S:=h
theorem amq{i:Nat}(h:jb P fn R X W n k M0 aq cg ((i,0)::rd) S):jb P fn R X W n k M0 aq cg ((i,0)::rd) S:=h
theorem amr{i:Nat}(h:jb P fn R X W n k M0 aq cg ((i,2)::rd) S):jb P fn R X W n k M0 aq cg ((i,2)::rd) S:=h
theorem RZ{i d:Nat}{ai:List (Nat×Value)}{mem:List an}{v:Value}{op:Op}{ty:Nat}{po:String}{af:Array Edge}{gd:Option (Nat×Bool)}(hi:aq[i]?=some ⟨some d,op,ty,po,af,gd⟩)(ht:j_ cg i=0)(hw:dd aq ai ⟨some d,op,ty,po,af,gd⟩ true)(hdn:Nat.blt d n=true)(h:Q1 P X W n ⟨ai,M0⟩ ⟨some d,op,ty,po,af,gd⟩ v)
  (hk:jb P fn R X W n k M0 aq cg rd ⟨(d,v)::ai,mem⟩):jb P fn R X W n k M0 aq cg ((i,0)::rd) ⟨ai,mem⟩:=yC hi ht hw rfl hdn h hk
theorem ams(h:bt P fn R X W n (.bC (.exit id)::k) S):bt P fn R X W n (.bC (.exit id)::k) S:=h
theorem amt(h:bt P fn R X W n (.bC (.cond c p q)::k) S):bt P fn R X W n (.bC (.cond c p q)::k) S:=h
end
section
variable{ρ:Option Nat}{P:Program}{Qb:Exit→Act→World→Prop}{ds:List Deferred}{fn:Func}{R:Ending→World→Prop}{X:Nat→Prop}{W:World}{n:Nat}{k:List K}{S:St}{all:Array Oper}{o:Oper}{r:List Oper}{M0:List an}{aq:Array Oper}{cg rd:List (Nat×Nat)}{a:Nat×Nat}{id:Nat}{c:Operand}{p q:Code}
theorem amu(h:RF ρ P Qb ds X W n (.aq all (o::r)::k) S):RF ρ P Qb ds X W n (.aq all (o::r)::k) S:=h
theorem amv(h:RF ρ P Qb ds X W n (.bC (.exit id)::k) S):RF ρ P Qb ds X W n (.bC (.exit id)::k) S:=h
theorem amw(h:RF ρ P Qb ds X W n (.bC (.cond c p q)::k) S):RF ρ P Qb ds X W n (.bC (.cond c p q)::k) S:=h
theorem amx{i:Nat}(h:nO P fn R X W n k M0 aq cg ((i,0)::rd) S):nO P fn R X W n k M0 aq cg ((i,0)::rd) S:=h
theorem amy{i:Nat}(h:nO P fn R X W n k M0 aq cg ((i,2)::rd) S):nO P fn R X W n k M0 aq cg ((i,2)::rd) S:=h
theorem R0{i d:Nat}{ai:List (Nat×Value)}{mem:List an}{v:Value}{op:Op}{ty:Nat}{po:String}{af:Array Edge}{gd:Option (Nat×Bool)}(hi:aq[i]?=some ⟨some d,op,ty,po,af,gd⟩)(ht:j_ cg i=0)(hw:dd aq ai ⟨some d,op,ty,po,af,gd⟩ true)(hdn:Nat.blt d n=true)(h:Q1 P X W n ⟨ai,M0⟩ ⟨some d,op,ty,po,af,gd⟩ v)
  (hk:nO P fn R X W n k M0 aq cg rd ⟨(d,v)::ai,mem⟩):nO P fn R X W n k M0 aq cg ((i,0)::rd) ⟨ai,mem⟩:=V7 hi ht hw rfl hdn h hk
end
theorem sH{A B:Prop}(g:A)(h:A→B:=by
 first
 |with_reducible exact afB|with_reducible exact afA|with_reducible exact afq|with_reducible exact aft|with_reducible exact afr|with_reducible exact afs|with_reducible exact afv|with_reducible exact agb
 |(intro g;(with_reducible apply aaj);first|exact iG (.none rfl) rfl rfl pw g|exact xa (.none rfl) (bY rfl rfl (xU rfl) rfl rfl rfl rfl rfl sZ rfl) fun _ _=>g|exact uj fA rfl rfl g|exact iG wA rfl rfl pw g|exact uj fZ rfl rfl g|exact iG wZ rfl rfl pw g|exact xa wZ (bY rfl rfl (xU rfl) rfl rfl rfl rfl rfl sZ rfl) fun _ _=>g)
 |(intro g;(with_reducible apply amq);first|exact RZ rfl rfl (.none rfl) rfl pw g|exact Vw rfl rfl fA rfl rfl g|exact RZ rfl rfl wA rfl pw g|exact Vw rfl rfl fZ rfl rfl g|exact RZ rfl rfl wZ rfl pw g)
 |(intro g;(with_reducible apply amr);exact Vy rfl rfl wZ (bY rfl rfl (xU rfl) rfl rfl rfl rfl rfl sZ rfl) fun _ _=>g)
 |(intro g;(with_reducible apply amx);first|exact R0 rfl rfl (.none rfl) rfl pw g|exact amz rfl rfl fA rfl rfl g|exact R0 rfl rfl wA rfl pw g|exact amz rfl rfl fZ rfl rfl g|exact R0 rfl rfl wZ rfl pw g)
 |(intro g;(with_reducible apply amy);exact V8 rfl rfl wZ (bY rfl rfl (xU rfl) rfl rfl rfl rfl rfl sZ rfl) fun _ _=>g)
 |with_reducible exact agA|with_reducible exact aik|with_reducible exact aij|with_reducible exact aib|with_reducible exact aie|with_reducible exact aic|with_reducible exact aid
 |(intro g;(with_reducible apply amu);first|exact cF (.none rfl) rfl rfl pw g|exact fM (.none rfl) (bY rfl rfl (xU rfl) rfl rfl rfl rfl rfl sZ rfl) fun _ _=>g|exact Xe fA rfl rfl g|exact cF wA rfl rfl pw g|exact Xe fZ rfl rfl g|exact cF wZ rfl rfl pw g)
 |(intro g;(with_reducible apply amv);exact aif rfl g)|(intro g;(with_reducible apply amw);first|exact aii rfl rfl g|exact aih rfl rfl g)
 |(intro g;(with_reducible apply ams);exact afu rfl g)|(intro g;(with_reducible apply amt);first|exact eB rfl rfl g|exact lU rfl rfl g|exact eB rfl (cw (by omega)) g|exact eB rfl (lT.2 (by omega)) g)
 |(intro g;(apply aaj);first|exact iG (.none rfl) rfl rfl pw g|exact xa (.none rfl) (bY rfl rfl (xU rfl) rfl rfl rfl rfl rfl sZ rfl) fun _ _=>g|exact uj fA rfl rfl g|exact iG wA rfl rfl pw g|exact uj fZ rfl rfl g|exact iG wZ rfl rfl pw g|exact xa wZ (bY rfl rfl (xU rfl) rfl rfl rfl rfl rfl sZ rfl) fun _ _=>g)):B:=h g
inductive Sn:Nat→Prop→Prop→Prop
 |z {A:Prop}:Sn 0 A A
 |s {n:Nat} {A B C:Prop} (h:C→B) (t:Sn n A C):Sn (n+1) A B
theorem Sn.go{n:Nat}{A B:Prop}(h:Sn n A B)(g:A):B:=by
 induction h with
 |z=>exact g
 |s h _ ih=>exact h (ih g)
theorem ab(n:Nat){A B:Prop}(h:Sn n A B:=by repeat first|exact Sn.z|(apply Sn.s;exact fun g=>sH g))(g:A):B:=h.go g
inductive Kp(ai:List (Nat×Value)):List Nat→List (Nat×Value)→Prop where
 |nil:Kp ai [] []
 |cons {s:Nat} {v:Value} {l:List Nat} {e:List (Nat×Value)} (h:dw ai s=some v) (t:Kp ai l e):Kp ai (s::l) ((s,v)::e)
theorem Kp.sub{ai e:List (Nat×Value)}{l:List Nat}(h:Kp ai l e):eo ai e:=by
 induction h with
 |nil=>exact .nil
 |cons h _ ih=>exact .cons h ih
theorem kp(n:Nat){P:Program}{fn:Func}{R:Ending→World→Prop}{X:Nat→Prop}{W:World}{N:Nat}{k:List K}{ai e:List (Nat×Value)}{m:List an}{A:Prop}(l:List Nat)
  (h:Kp ai l e:=by repeat first|exact .nil|apply Kp.cons rfl)(t:Sn n A (bt P fn R X W N k ⟨e,m⟩):=by repeat first|exact Sn.z|(apply Sn.s;exact fun g=>sH g))(g:A):bt P fn R X W N k ⟨ai,m⟩:=dI (az h.sub .refl) (t.go g)
theorem td{p q:Prop}(h:p)(e:p→q:=by
 intro h;(try simp only [jl,sT,g_,lT,yu,j7,Ey,KG,ne_eq,Int.not_lt,Int.not_le,GZ]at h);exact h):q:=e h
theorem vZ{ai:List (Nat×Value)}{xs:List (Nat×Operand)}{vs:List (Nat×Value)}(h:PV ai xs vs:=by repeat first|exact PV.nil|apply PV.cons rfl):PV ai xs vs:=h
theorem pZ{ai:List (Nat×Value)}{s i:Nat}{xs:List (Nat×Operand)}{vs:List Value}(h:vu ai s i xs vs:=by repeat first|exact vu.nil|(apply vu.cons;exact rfl;exact rfl;exact rfl;exact rfl)):vu ai s i xs vs:=h
theorem cZ{cs:List (Nat×Value)}{i:Nat}{vs:List Value}(h:my cs i vs:=by repeat first|exact my.nil|apply my.cons rfl):my cs i vs:=h
theorem nZ{ai e:List (Nat×Value)}(h:eo ai e:=by repeat first|exact eo.nil|exact eo.refl|refine eo.cons rfl ?_|refine eo.aH rfl (aP (by omega)) ?_):eo ai e:=h
theorem amA{m l l':List an}{b:Nat}{t:TypeId}{cs yy:List (Nat×Value)}(hs:ae m (.aj b t cs) l)(he:eo cs yy)(hl:ar l l'):ar m (.aj b t yy::l'):= .cons hs (.aj he) hl
theorem mZ{m m':List an}(h:ar m m':=by repeat first|exact ar.nil|exact ar.refl|refine ar.cons sZ cS.refl ?_|(apply amA;exact sZ;exact nZ)):ar m m':=h
theorem kZ{f:FuncId}(h:fw prog f:=by intro a w;kernel_rfl):fw prog f:=h
theorem zS{t s:Nat}(h:lk Dw t=some s:=by exact rfl):Sz prog t s:=xU h
theorem zO{t:Nat}(h:lk FR t=some false:=by exact rfl)(g:lk Dw t=some 1:=by exact rfl):mz prog t:=aaf h g
theorem zA{t s:Nat}(h:lk FR t=some true:=by exact rfl)(g:lk Dw t=some s:=by exact rfl):i_ prog t s:=aag h g
theorem zI{t:Nat}{zs:List Value}{s b:Nat}(h:lk MX t=some (zs,s,b):=by exact rfl):vp prog t zs s b:=ifF h
theorem zU{t e:Nat}(h:lk RY t=some e:=by exact rfl):prog.underlying t=some (.slice e):=aah h
theorem xZ{P:Program}(h:P.follows .mixedOrders=true:=by kernel_rfl):P.follows .mixedOrders=true:=h
def I1(ai:List (Nat×Value)):List Operand→Option (List Value)
 | []=>some []
 |x::xs=>match ev ai x with
  |some v=>match I1 ai xs with
   |some vs=>some (v::vs)
   |none=>none
  |none=>none
theorem aX{ai:List (Nat×Value)}:∀{xs:List Operand} {vs:List Value},I1 ai xs=some vs→lB ai xs vs
 | [],_,h=>by cases h;exact .nil
 |x::xs,vs,h=>by
  unfold I1 at h
  cases hx:ev ai x with
  |none=>rw [hx]at h;cases h
  |some v=>
   cases hs:I1 ai xs with
   |none=>rw [hx,hs]at h;cases h
   |some us=>rw [hx,hs]at h;cases h;exact .cons hx (aX hs)
def I2(ai:List (Nat×Value))(o:Oper):Option (FuncId×List Value):=match o.op with
 | .call c=>match c.callee with
  | .value (.func f)=>match I1 ai c.args.toList with
   |some vs=>some (f,vs)
   |none=>none
  |_=>none
 |_=>none
theorem R2{ai:List (Nat×Value)}{o:Oper}{f:FuncId}{vs:List Value}(h:I2 ai o=some (f,vs)):∃xs ts,o.op= .call {callee:= .value (.func f),args:=List.toArray xs,argTypes:=ts}∧lB ai xs vs:=by
 unfold I2 at h
 split at h
 ·rename_i c hc
  split at h
  ·rename_i g hg
   split at h
   ·rename_i us hu
    cases h
    obtain⟨ca,xs,ts⟩:=c
    dsimp only at hg hu
    subst hg
    exact⟨xs.toList,ts,by rw [hc],aX hu⟩
   ·cases h
  ·cases h
 ·cases h
def zC:Nat→List an→Option (an×List an)
 |_, []=>none
 |0,r::l=>some (r,l)
 |i+1,r::l=>match zC i l with
  |some (x,l')=>some (x,r::l')
  |none=>none
theorem MZ:∀{i:Nat} {m l:List an} {r:an},zC i m=some (r,l)→ae m r l
 |0,r::m,_,_,h=>by cases h;exact .ak
 |i+1,s::m,l,r,h=>by
  unfold zC at h
  cases ht:zC i m with
  |none=>rw [ht]at h;cases h
  |some p=>rw [ht]at h;obtain⟨x,l'⟩:=p;cases h;exact .ah (MZ ht)
def I3:List Nat→List an→Option (List an×List an)
 | [],m=>some ([],m)
 |i::is,m=>match zC i m with
  |some (r,l)=>match I3 is l with
   |some (cs,ls)=>some (r::cs,ls)
   |none=>none
  |none=>none
theorem M3:∀{is:List Nat} {m cs ls:List an},I3 is m=some (cs,ls)→m.Perm (cs++ls)
 | [],m,_,_,h=>by cases h;exact .refl _
 |i::is,m,cs,ls,h=>by
  unfold I3 at h
  cases ht:zC i m with
  |none=>rw [ht]at h;cases h
  |some p=>
   obtain⟨r,l⟩:=p
   rw [ht]at h
   dsimp only at h
   cases hp:I3 is l with
   |none=>rw [hp]at h;cases h
   |some q=>
    obtain⟨yy,fH⟩:=q
    rw [hp]at h;cases h
    exact((MZ ht).aK).trans (.cons _ (M3 hp))
theorem iZ(i:Nat){m l:List an}{r:an}(h:zC i m=some (r,l):=by exact rfl):ae m r l:=MZ h
section
variable{P:Program}{fn:Func}{R:Ending→World→Prop}{X:Nat→Prop}{W:World}{n:Nat}{k:List K}{S:St}{ai:List (Nat×Value)}{mem:List an}{o:Oper}{f:FuncId}{vs:List Value}{v:Value}{d:Nat}{Φ:Value→List an→Prop}
theorem Qc(h:I2 S.ai o=some (f,vs))(hc:∀w,bb X W w→Mem X W S.mem w→Calls prog f vs.toArray w (aN w v))(hf:fw prog f:=by exact kZ):Q1 prog X W n S o v:=by
 obtain⟨xs,ts,h1,h2⟩:=R2 h
 exact KR h1 hf h2 hc
theorem Hc(h:I2 ai o=some (f,vs))(hc:∀w,bb X W w→Mem X W mem w→Calls prog f vs.toArray w (bJ w nX Φ))(hf:fw prog f:=by exact kZ)(hd:o.dst=some d:=by exact rfl)(hdn:Nat.blt d n=true:=by exact rfl):
  H1 prog X W n ⟨ai,mem⟩ o (fun i:Value×List an=>Φ i.1 i.2) (fun i=>⟨(d,i.1)::ai,i.2++mem⟩):=by
 obtain⟨xs,ts,h1,h2⟩:=R2 h
 exact uo h1 hd hdn hf h2 hc
theorem Hx(is:List Nat){cs ls:List an}(h:I2 ai o=some (f,vs))(hp:I3 is mem=some (cs,ls))(hc:∀w,bb X W w→Mem X W mem w→Mem X W (cs++ls) w→Mem (bg cs) w cs w→Calls prog f vs.toArray w (bJ w (bg cs) Φ))(hf:fw prog f:=by exact kZ)(hd:o.dst=some d:=by exact rfl)(hdn:Nat.blt d n=true:=by exact rfl):
  H1 prog X W n ⟨ai,mem⟩ o (fun i:Value×List an=>Φ i.1 i.2) (fun i=>⟨(d,i.1)::ai,i.2++ls⟩):=by
 obtain⟨xs,ts,h1,h2⟩:=R2 h
 exact oz (Y:=fun _=>bg cs) cs ls h1 hd hdn hf h2 (M3 hp) (fun _ _ h=>h) (fun w hk hm=>hc w hk hm (hm.aK (M3 hp)) (hm.aK (M3 hp)).eW)
def I4(ai:List (Nat×Value))(o:Oper):Option (TypeId×Addr):=match o.op with
 | .load t x=>match ev ai x with
  |some (.pointer (some a))=>some (t,a)
  |_=>none
 |_=>none
theorem R3{ai:List (Nat×Value)}{o:Oper}{t:TypeId}{a:Addr}(h:I4 ai o=some (t,a)):∃x,o.op= .load t x∧ev ai x=some (.pointer (some a)):=by
 unfold I4 at h
 split at h
 ·rename_i u x hx
  split at h
  ·rename_i b hb;cases h;exact⟨x,hx,hb⟩
  ·cases h
 ·cases h
def R4(ai:List (Nat×Value))(o:Oper):Option (TypeId×Option Addr×Nat×Nat×IntKind×Int):=match o.op with
 | .indexAddr t x y=>match ev ai x,ev ai y with
  |some (.slice A m c),some (.int k i)=>some (t,A,m,c,k,i)
  |_,_=>none
 |_=>none
theorem amB{ai:List (Nat×Value)}{o:Oper}{t:TypeId}{A:Option Addr}{m c:Nat}{k:IntKind}{i:Int}(h:R4 ai o=some (t,A,m,c,k,i)):∃x y,o.op= .indexAddr t x y∧ev ai x=some (.slice A m c)∧ev ai y=some (.int k i):=by
 unfold R4 at h
 split at h
 ·rename_i u x y hx
  split at h
  ·rename_i h1 h2;cases h;exact⟨x,y,hx,h1,h2⟩
  ·cases h
 ·cases h
section
variable{t e:TypeId}{x y:Operand}{A:Option Addr}{sz m c:Nat}{ik:IntKind}{ix:Int}{ls:List (List Value)}
theorem Qi(q:Nat)(ho:R4 S.ai o=some (t,A,m,c,ik,ix))(hr:iH X W S A sz ls)(ht:prog.underlying t=some (.slice e):=by exact zU)(hs:Sz prog e sz:=by exact zS)(hl:ls.length=m:=by first|rfl|(simp;done)|(simp<;>omega))(hi:ix=(q:Int):=by first|rfl|omega)(hq:q<m:=by omega):
  Q1 prog X W n S o (.pointer (some ((bN A).add (q*sz)))):=by
 obtain⟨x,y,h1,h2,h3⟩:=amB ho
 exact m_ h1 ht hs h2 h3 hr hl hi hq
variable{q:Nat}{us:List Value}{u:Value}{s:Nat}
theorem Qe(ho:I4 S.ai o=some (t,(bN A).add (q*sz)))(hr:iH X W S A sz ls)(hq:ls[q]?=some us:=by exact bZ (by omega))(ht:i_ prog t s:=by exact zA)(hl:us.length=s:=by exact rfl):Q1 prog X W n S o (.agg us.toArray):=by
 obtain⟨x,h1,h2⟩:=R3 ho
 exact Hj h1 ht h2 hr hq hl
theorem Qk(ho:I4 S.ai o=some (t,(bN A).add (q*sz)))(hr:iH X W S A sz ls)(hq:ls[q]?=some [u]:=by exact bZ (by omega))(ht:mz prog t:=by exact zO):Q1 prog X W n S o u:=by
 obtain⟨x,h1,h2⟩:=R3 ho
 exact iw h1 ht h2 hr hq
theorem Qf{d:Nat}(ho:I4 S.ai o=some (t,((bN A).add (q*sz)).add d))(hr:iH X W S A sz ls)(hq:ls[q]?=some us:=by exact bZ (by omega))(ht:mz prog t:=by exact zO)(hl:us[d]?=some u:=by exact rfl):Q1 prog X W n S o u:=by
 obtain⟨x,h1,h2⟩:=R3 ho
 exact j9 h1 ht h2 hr hq hl
end
variable{A:Prop}{all:Array Oper}{aS:List Oper}{ι:Type}{φ:ι→Prop}{next:ι→St}
theorem Qq(a:Nat)(h:Q1 P X W n ⟨ai,mem⟩ o v)(g:A)(hw:dd all ai o true:=by exact wZ)(hd:o.dst=some d:=by exact rfl)(hdn:Nat.blt d n=true:=by exact rfl)(t:Sn a A (bt P fn R X W n (.aq all aS::k) ⟨(d,v)::ai,mem⟩):=by repeat first|exact Sn.z|(apply Sn.s;exact fun g=>sH g)):bt P fn R X W n (.aq all (o::aS)::k) ⟨ai,mem⟩:=iG hw hd hdn h (t.go g)
theorem Hh(h:H1 P X W n ⟨ai,mem⟩ o φ next)(g:∀i,φ i→bt P fn R X W n (.aq all aS::k) (next i))(hw:dd all ai o true:=by exact wZ):bt P fn R X W n (.aq all (o::aS)::k) ⟨ai,mem⟩:=xa hw h g
theorem Nw(a:Nat){next:Nat→St}{A:Nat→Prop}(g:∀b,A b)(h:H1 prog X W n ⟨ai,mem⟩ o (fun _:Nat=>True) next:=by first|exact yB rfl rfl rfl rfl rfl|exact dR rfl rfl rfl zI|exact ey rfl rfl rfl zU zI pZ rfl (by omega))(hw:dd all ai o true:=by exact wZ)
  (t:∀b,Sn a (A b) (bt prog fn R X W n (.aq all aS::k) (next b)):=by intro b;repeat first|exact Sn.z|(apply Sn.s;exact fun g=>sH g)):bt prog fn R X W n (.aq all (o::aS)::k) ⟨ai,mem⟩:=xa hw h fun b _=>(t b).go (g b)
theorem Ag{fv:ι→St}{μ:ι→Nat}{m:Nat}{q:Prop}(i:ι)(g:q)(hq:q→φ i:=by intro h;(try dsimp only)<;>exact h)(hs:vm X W n S (fv i):=by exact az nZ mZ)(hm:μ i<m:=by(try dsimp only);omega):bt P fn R X W n (.stop (pC X W n φ fv μ m)::k) S:=Cb i (hq g) hm hs
theorem Ap{fv:ι→St}{q:Prop}(i:ι)(g:q)(hq:q→φ i:=by intro h;(try dsimp only)<;>exact h)(hs:vm X W n S (fv i):=by exact az nZ mZ):bt P fn R X W n (.stop (yx X W n φ fv)::k) S:=Ca i (hq g) hs
end
def Bp:List Nat→List an→Option (List an)
 | [],_=>some []
 |i::is,m=>match zC i m with
  |some (r,l)=>match Bp is l with
   |some cs=>some (r::cs)
   |none=>none
  |none=>none
theorem I5:∀{is:List Nat} {m cs:List an},Bp is m=some cs→ar m cs
 | [],m,_,h=>by cases h;exact .nil
 |i::is,m,cs,h=>by
  unfold Bp at h
  cases ht:zC i m with
  |none=>rw [ht]at h;cases h
  |some p=>
   obtain⟨r,l⟩:=p
   rw [ht]at h
   dsimp only at h
   cases hp:Bp is l with
   |none=>rw [hp]at h;cases h
   |some q=>rw [hp]at h;cases h;exact .cons (MZ ht) .refl (I5 hp)
theorem dZ(is:List Nat){m cs:List an}(h:Bp is m=some cs:=by exact rfl):ar m cs:=I5 h
section
variable{P:Program}{fn:Func}{R:Ending→World→Prop}{X:Nat→Prop}{W:World}{N:Nat}{k:List K}{ai e:List (Nat×Value)}{m cs:List an}{A:Prop}
theorem Ks(n:Nat)(l is:List Nat)(h:Kp ai l e:=by repeat first|exact .nil|apply Kp.cons rfl)(hm:Bp is m=some cs:=by exact rfl)(t:Sn n A (bt P fn R X W N k ⟨e,cs⟩):=by repeat first|exact Sn.z|(apply Sn.s;exact fun g=>sH g))(g:A):bt P fn R X W N k ⟨ai,m⟩:=dI (az h.sub (I5 hm)) (t.go g)
theorem Km(n:Nat)(is:List Nat)(hm:Bp is m=some cs:=by exact rfl)(t:Sn n A (bt P fn R X W N k ⟨ai,cs⟩):=by repeat first|exact Sn.z|(apply Sn.s;exact fun g=>sH g))(g:A):bt P fn R X W N k ⟨ai,m⟩:=dI (az .refl (I5 hm)) (t.go g)
theorem Cd(a:Nat){B:Prop}{c:Operand}{x y:Code}{b:Bool}{S:St}{p q:Prop}(st:Sn a (bt P fn R X W N (.bC (.cond c x y)::k) S) B:=by repeat first|exact Sn.z|(apply Sn.s;exact fun g=>sH g))(hc:ev S.ai c=some (.bool b):=by exact rfl)(e1:b=true→p:=by intro h;(try simp only [jl,sT,g_,lT,yu,j7,Ey,KG,ne_eq,Int.not_lt,Int.not_le,GZ]at h);exact h)(e2:b=false→q:=by intro h;(try simp only [jl,sT,g_,lT,yu,j7,Ey,KG,ne_eq,Int.not_lt,Int.not_le,GZ]at h);exact h)
  (h1:p→b=true→bt P fn R X W N (.bC x::k) S)(h2:q→b=false→bt P fn R X W N (.bC y::k) S):B:=st.go (afy hc (fun h=>h1 (e1 h) h) (fun h=>h2 (e2 h) h))
theorem Sd(a:Nat)(u:Tmp){B:Prop}{b:Bool}{S:St}{p q:Prop}(st:Sn a (bt P fn R X W N k S) B:=by repeat first|exact Sn.z|(apply Sn.s;exact fun g=>sH g))(hc:dw S.ai u=some (.bool b):=by exact rfl)(e1:b=true→p:=by intro h;(try simp only [jl,sT,g_,lT,yu,j7,Ey,KG,ne_eq,Int.not_lt,Int.not_le,GZ]at h);exact h)(e2:b=false→q:=by intro h;(try simp only [jl,sT,g_,lT,yu,j7,Ey,KG,ne_eq,Int.not_lt,Int.not_le,GZ]at h);exact h)
  (h1:p→b=true→bt P fn R X W N k S)(h2:q→b=false→bt P fn R X W N k S):B:=st.go (afz u hc (fun h=>h1 (e1 h) h) (fun h=>h2 (e2 h) h))
theorem Ea{f:FuncId}{vs:List Value}{c:Code}{ms:List an}(hf:P.funcs[f]?=some fn)(hn:fn.ntmps=N)(hm:Mem X W ms W)(g:bt P fn R X W N [.bC c] ⟨bB 0 vs,ms⟩)(hb:fn.body=some c:=by exact rfl)(hz:Nat.ble vs.length N=true:=by exact rfl):Calls P f vs.toArray W R:=OU hf hn hb hz hm g
theorem En(a:Nat){A:Prop}{f:FuncId}{vs:List Value}{c:Code}(hf:P.funcs[f]?=some fn)(hn:fn.ntmps=N)(hb:fn.body=some c:=by exact rfl)(hz:Nat.ble vs.length N=true:=by exact rfl)(st:Sn a A (bt P fn R nX W N [.bC c] ⟨bB 0 vs, []⟩):=by repeat first|exact Sn.z|(apply Sn.s;exact fun g=>sH g))(g:A):Calls P f vs.toArray W R:=OU hf hn hb hz Mem.nil (st.go g)
theorem Ej(a:Nat){A:Prop}{f:FuncId}{vs:List Value}{c:Code}{v:Value}(hf:P.funcs[f]?=some fn)(hn:fn.ntmps=N)(hb:fn.body=some c:=by exact rfl)(hz:Nat.ble vs.length N=true:=by exact rfl)(st:Sn a A (bt P fn (bJ W nX fun u _=>u=v) nX W N [.bC c] ⟨bB 0 vs, []⟩):=by repeat first|exact Sn.z|(apply Sn.s;exact fun g=>sH g))(g:A):Calls P f vs.toArray W (aN W v):=aN.KL (OU hf hn hb hz Mem.nil (st.go g))
end
theorem amC{P:Program}{a:Tmp}{T tb:TypeId}{b i:Nat}{ai cs:List (Nat×Value)}{mem l:List an}{u:Value}{rs:List ResultVar}{vs:List Value}(h:dw ai a=some (.pointer (some ⟨b,i,none⟩)))(ht:mz P T)(hs:ae mem (.aj b tb cs) l)(hv:dw cs i=some u)(r:na P ai mem rs vs):na P ai mem (.cell a T::rs) (u::vs):= .Vk h ht hs hv r
theorem amD{P:Program}{a:Tmp}{T tb:TypeId}{b i s:Nat}{ai cs:List (Nat×Value)}{mem l:List an}{us:List Value}{rs:List ResultVar}{vs:List Value}(h:dw ai a=some (.pointer (some ⟨b,i,none⟩)))(ht:i_ P T s)(hs:ae mem (.aj b tb cs) l)(hv:CN cs i s us)(r:na P ai mem rs vs):na P ai mem (.cell a T::rs) (.agg us.toArray::vs):= .EK h ht hs hv.at.1 hv.at.2 r
theorem oZ{ai:List (Nat×Value)}{mem:List an}{rs:List ResultVar}{vs:List Value}(h:na prog ai mem rs vs:=by
 repeat first|exact na.nil|apply na.tmp rfl|(apply amC;exact rfl;exact zO;exact sZ;exact rfl)|(apply amD;exact rfl;exact zA;exact sZ;repeat first|exact CN.nil|apply CN.cons rfl)):na prog ai mem rs vs:=h
def Ix(_:Nat)(C B:Prop):Prop:=C→B
inductive Sx:List Nat→Prop→Prop→Prop
 |z {A:Prop}:Sx [] A A
 |s {i:Nat} {l:List Nat} {A B C:Prop} (h:Ix i C B) (t:Sx l A C):Sx (i::l) A B
theorem Sx.go{l:List Nat}{A B:Prop}(h:Sx l A B)(g:A):B:=by
 induction h with
 |z=>exact g
 |s h _ ih=>exact h (ih g)
section
variable{fn:Func}{R:Ending→World→Prop}{X:Nat→Prop}{W:World}{n m:Nat}{k:List K}{M0 mem:List an}{aq:Array Oper}{aO:Array Bool}{ai:List (Nat×Value)}{d i:Nat}{op:Op}{ty:Nat}{po:String}{af:Array Edge}{gd:Option (Nat×Bool)}{v:Value}{dz:List Nat}
theorem aak(hi:aq[i]?=some ⟨some d,op,ty,po,af,gd⟩:=by exact rfl)(hr:((Region.ready .any aq aO).contains i&&Region.free .any aq aO i)=true:=by kernel_rfl)(hw:dd aq ai ⟨some d,op,ty,po,af,gd⟩ true:=by exact wZ)(hdn:Nat.blt d n=true:=by exact rfl)
  (h:Q1 prog X W n ⟨ai,M0⟩ ⟨some d,op,ty,po,af,gd⟩ v:=by exact pw):Ix i (gx prog fn R X W n k M0 aq m (aO.setIfInBounds i true) ⟨(d,v)::ai,mem⟩) (gx prog fn R X W n k M0 aq (m+1) aO ⟨ai,mem⟩):=Pk hi hr hw rfl hdn h
theorem aal(hi:aq[i]?=some ⟨some d,op,ty,po,af,gd⟩:=by exact rfl)(hr:((Region.ready .any aq aO).contains i&&Region.free .any aq aO i)=true:=by kernel_rfl)(hw:dd aq ai ⟨some d,op,ty,po,af,gd⟩ false:=by exact fZ)(hdn:Nat.blt d n=true:=by exact rfl):
  Ix i (gx prog fn R X W n k M0 aq m (aO.setIfInBounds i true) ⟨(d,undef)::ai,mem⟩) (gx prog fn R X W n k M0 aq (m+1) aO ⟨ai,mem⟩):=agz hi hr hw rfl hdn
theorem aam(hi:aq[i]?=some ⟨some d,op,ty,po,af,gd⟩:=by exact rfl)(hr:((Region.ready .any aq aO).contains i&&Region.free .any aq aO i&&dz.all fun j=>yY aq 4 j i)=true:=by kernel_rfl)(hw:dd aq ai ⟨some d,op,ty,po,af,gd⟩ true:=by exact wZ)(hdn:Nat.blt d n=true:=by exact rfl)
  (h:Q1 prog X W n ⟨ai,M0⟩ ⟨some d,op,ty,po,af,gd⟩ v:=by exact pw):Ix i (fV prog fn R X W n k M0 dz true aq m (aO.setIfInBounds i true) ⟨(d,v)::ai,mem⟩) (fV prog fn R X W n k M0 dz true aq (m+1) aO ⟨ai,mem⟩):=Qa hi hr hw rfl hdn h
theorem aan(hi:aq[i]?=some ⟨some d,op,ty,po,af,gd⟩:=by exact rfl)(hr:((Region.ready .any aq aO).contains i&&Region.free .any aq aO i&&dz.all fun j=>yY aq 4 j i)=true:=by kernel_rfl)(hw:dd aq ai ⟨some d,op,ty,po,af,gd⟩ false:=by exact fZ)(hdn:Nat.blt d n=true:=by exact rfl):
  Ix i (fV prog fn R X W n k M0 dz true aq m (aO.setIfInBounds i true) ⟨(d,undef)::ai,mem⟩) (fV prog fn R X W n k M0 dz true aq (m+1) aO ⟨ai,mem⟩):=aiT hi hr hw rfl hdn
theorem Bs(l:List Nat){A B:Prop}(h:Sx l A B:=by repeat first|exact Sx.z|(apply Sx.s;first|exact aak (hdn:=rfl) (hw:=wA)|exact aal (hdn:=rfl) (hw:=fA)|exact aam (hdn:=rfl) (hw:=wA)|exact aan (hdn:=rfl) (hw:=fA)|exact aak (hdn:=rfl)|exact aal (hdn:=rfl)|exact aam (hdn:=rfl)|exact aan (hdn:=rfl)))(g:A):B:=h.go g
variable{P:Program}{S:St}{o:Oper}{ι:Type}{φ:ι→Prop}{next:ι→St}{c:Bool}
theorem Bq(i:Nat)(hi:aq[i]?=some o)(h:Q1 P X W n ⟨ai,M0⟩ o v)(g:gx P fn R X W n k M0 aq m (aO.setIfInBounds i true) ⟨(d,v)::ai,mem⟩)(hr:((Region.ready .any aq aO).contains i&&Region.free .any aq aO i)=true:=by kernel_rfl)(hw:dd aq ai o true:=by exact wZ)(hd:o.dst=some d:=by exact rfl)(hdn:Nat.blt d n=true:=by exact rfl):
  gx P fn R X W n k M0 aq (m+1) aO ⟨ai,mem⟩:=Pk hi hr hw hd hdn h g
theorem Lq(i:Nat)(hi:aq[i]?=some o)(h:Q1 P X W n ⟨ai,M0⟩ o v)(g:fV P fn R X W n k M0 dz true aq m (aO.setIfInBounds i true) ⟨(d,v)::ai,mem⟩)(hr:((Region.ready .any aq aO).contains i&&Region.free .any aq aO i&&dz.all fun j=>yY aq 4 j i)=true:=by kernel_rfl)(hw:dd aq ai o true:=by exact wZ)(hd:o.dst=some d:=by exact rfl)(hdn:Nat.blt d n=true:=by exact rfl):
  fV P fn R X W n k M0 dz true aq (m+1) aO ⟨ai,mem⟩:=Qa hi hr hw hd hdn h g
theorem Bh(hi:aq[i]?=some o)(h:H1 P X W n ⟨ai,mem⟩ o φ next)(g:∀j,φ j→gx P fn R X W n k M0 aq m (aO.setIfInBounds i true) (next j))(hw:dd aq ai o true:=by exact wZ)(hM:∀j,φ j→ar (next j).mem M0:=by intro _ _;first|exact .refl|(refine .sub ?_;first|exact mw _ _|(refine .trans ?_ (mw _ _);(repeat first|exact List.Sublist.refl _|exact .slnil|apply List.Sublist.cons_cons|apply List.Sublist.cons);done)|(repeat first|exact List.Sublist.refl _|exact .slnil|apply List.Sublist.cons_cons|apply List.Sublist.cons))):uu P fn R X W n k M0 aq m aO i ⟨ai,mem⟩:=AG hi hw h hM g
theorem Bg(i:Nat)(hi:aq[i]?=some o)(h:H1 P X W n ⟨ai,mem⟩ o φ next)(g:∀j,φ j→gx P fn R X W n k M0 aq m (aO.setIfInBounds i true) (next j))(hr:Region.ready .any aq aO= [i]:=by kernel_rfl)(hw:dd aq ai o true:=by exact wZ)(hM:∀j,φ j→ar (next j).mem M0:=by intro _ _;first|exact .refl|(refine .sub ?_;first|exact mw _ _|(refine .trans ?_ (mw _ _);(repeat first|exact List.Sublist.refl _|exact .slnil|apply List.Sublist.cons_cons|apply List.Sublist.cons);done)|(repeat first|exact List.Sublist.refl _|exact .slnil|apply List.Sublist.cons_cons|apply List.Sublist.cons))):gx P fn R X W n k M0 aq (m+1) aO ⟨ai,mem⟩:=Pm i hr (AG hi hw h hM g)
theorem Lh(hi:aq[i]?=some o)(h:H1 P X W n ⟨ai,mem⟩ o φ next)(g:∀j,φ j→fV P fn R X W n k M0 dz true aq m (aO.setIfInBounds i true) (next j))(hw:dd aq ai o true:=by exact wZ)(hM:∀j,φ j→ar (next j).mem M0:=by intro _ _;first|exact .refl|(refine .sub ?_;first|exact mw _ _|(refine .trans ?_ (mw _ _);(repeat first|exact List.Sublist.refl _|exact .slnil|apply List.Sublist.cons_cons|apply List.Sublist.cons);done)|(repeat first|exact List.Sublist.refl _|exact .slnil|apply List.Sublist.cons_cons|apply List.Sublist.cons))):xD P fn R X W n k M0 dz true aq m aO i ⟨ai,mem⟩:=XC hi hw h hM g
theorem Lg(i:Nat)(hi:aq[i]?=some o)(h:H1 P X W n ⟨ai,mem⟩ o φ next)(g:∀j,φ j→fV P fn R X W n k M0 dz true aq m (aO.setIfInBounds i true) (next j))(hr:Region.ready .any aq aO= [i]:=by kernel_rfl)(hw:dd aq ai o true:=by exact wZ)(hM:∀j,φ j→ar (next j).mem M0:=by intro _ _;first|exact .refl|(refine .sub ?_;first|exact mw _ _|(refine .trans ?_ (mw _ _);(repeat first|exact List.Sublist.refl _|exact .slnil|apply List.Sublist.cons_cons|apply List.Sublist.cons);done)|(repeat first|exact List.Sublist.refl _|exact .slnil|apply List.Sublist.cons_cons|apply List.Sublist.cons))):fV P fn R X W n k M0 dz true aq (m+1) aO ⟨ai,mem⟩:=XD i hr (XC hi hw h hM g)
theorem Ll(hi:aq[i]?=some o)(h:H1 P X W n ⟨ai,mem⟩ o φ next)(g:∀j,φ j→fV P fn R X W n k M0 dz false aq m (aO.setIfInBounds i true) (next j))(hl:dz.contains i=true:=by exact rfl)(hw:dd aq ai o true:=by exact wZ):xD P fn R X W n k M0 dz c aq m aO i ⟨ai,mem⟩:=Ii hi hl hw h g
variable{cg r:List (Nat×Nat)}
theorem Dq(a:Nat){A:Prop}(hi:aq[i]?=some o)(h:Q1 P X W n ⟨ai,M0⟩ o v)(g:A)(ht:j_ cg i=0:=by exact rfl)(hw:dd aq ai o true:=by exact wZ)(hd:o.dst=some d:=by exact rfl)(hdn:Nat.blt d n=true:=by exact rfl)(st:Sn a A (jb P fn R X W n k M0 aq cg r ⟨(d,v)::ai,mem⟩):=by repeat first|exact Sn.z|(apply Sn.s;exact fun g=>sH g)):jb P fn R X W n k M0 aq cg ((i,0)::r) ⟨ai,mem⟩:=yC hi ht hw hd hdn h (st.go g)
theorem Dh(hi:aq[i]?=some o)(h:H1 P X W n ⟨ai,mem⟩ o φ next)(g:∀j,φ j→jb P fn R X W n k M0 aq cg r (next j))(ht:j_ cg i=1:=by exact rfl)(hw:dd aq ai o true:=by exact wZ)(hM:∀j,φ j→ar (next j).mem M0:=by intro _ _;first|exact .refl|(refine .sub ?_;first|exact mw _ _|(refine .trans ?_ (mw _ _);(repeat first|exact List.Sublist.refl _|exact .slnil|apply List.Sublist.cons_cons|apply List.Sublist.cons);done)|(repeat first|exact List.Sublist.refl _|exact .slnil|apply List.Sublist.cons_cons|apply List.Sublist.cons))):jb P fn R X W n k M0 aq cg ((i,1)::r) ⟨ai,mem⟩:=o8 hi ht hw h hM g
theorem Dt(hi:aq[i]?=some o)(h:H1 P X W n ⟨ai,mem⟩ o φ next)(g:∀j,φ j→jb P fn R X W n k M0 aq cg r (next j))(ht:j_ cg i=2:=by exact rfl)(hw:dd aq ai o true:=by exact wZ):jb P fn R X W n k M0 aq cg ((i,2)::r) ⟨ai,mem⟩:=Vy hi ht hw h g
theorem Pq(hi:aq[i]?=some o)(h:Q1 P X W n ⟨ai,M0⟩ o v)(g:nO P fn R X W n k M0 aq cg r ⟨(d,v)::ai,mem⟩)(ht:j_ cg i=0:=by exact rfl)(hw:dd aq ai o true:=by exact wZ)(hd:o.dst=some d:=by exact rfl)(hdn:Nat.blt d n=true:=by exact rfl):nO P fn R X W n k M0 aq cg ((i,0)::r) ⟨ai,mem⟩:=V7 hi ht hw hd hdn h g
theorem Pt(hi:aq[i]?=some o)(h:H1 P X W n ⟨ai,mem⟩ o φ next)(g:∀j,φ j→nO P fn R X W n k M0 aq cg r (next j))(ht:j_ cg i=2:=by exact rfl)(hw:dd aq ai o true:=by exact wZ):nO P fn R X W n k M0 aq cg ((i,2)::r) ⟨ai,mem⟩:=V8 hi ht hw h g
theorem kJ(i:Nat)(hr:Region.ready .any aq aO= [i]:=by kernel_rfl)(g:uu P fn R X W n k M0 aq m aO i S):gx P fn R X W n k M0 aq (m+1) aO S:=Pm i hr g
theorem qP(i j:Nat)(g:uu P fn R X W n k M0 aq m aO i S)(g':uu P fn R X W n k M0 aq m aO j S)(hr:Region.ready .any aq aO= [i,j]:=by kernel_rfl):gx P fn R X W n k M0 aq (m+1) aO S:=agx i j hr g g'
theorem dH(i:Nat)(hr:Region.ready .any aq aO= [i]:=by kernel_rfl)(g:xD P fn R X W n k M0 dz c aq m aO i S):fV P fn R X W n k M0 dz c aq (m+1) aO S:=XD i hr g
theorem R5(i j:Nat)(g:xD P fn R X W n k M0 dz c aq m aO i S)(g':xD P fn R X W n k M0 dz c aq m aO j S)(hr:Region.ready .any aq aO= [i,j]:=by kernel_rfl):fV P fn R X W n k M0 dz c aq (m+1) aO S:=aiU i j hr g g'
theorem gr(a:Nat){A:Prop}(h:Region.ready .any aq aO= []:=by kernel_rfl)(st:Sn a A (bt P fn R X W n k S):=by repeat first|exact Sn.z|(apply Sn.s;exact fun g=>sH g))(g:A):gx P fn R X W n k M0 aq 0 aO S:=agw h (st.go g)
theorem fW(a:Nat){A:Prop}(h:Region.ready .any aq aO= []:=by kernel_rfl)(st:Sn a A (bt P fn R X W n k S):=by repeat first|exact Sn.z|(apply Sn.s;exact fun g=>sH g))(g:A):fV P fn R X W n k M0 dz c aq 0 aO S:=aiR h (st.go g)
theorem I6{id:Nat}{l:List Oper}(hm:P.follows .mixedOrders=true:=by kernel_rfl)(cy:Region.noSelect l.toArray=true:=by kernel_rfl)(g:gx P fn R X W n k mem l.toArray l.toArray.size (Array.replicate l.toArray.size false) ⟨ai,mem⟩):bt P fn R X W n (.bC (.region id l.toArray true)::k) ⟨ai,mem⟩:=r9 hm cy .refl g
theorem uY{id:Nat}{l:List Oper}(dz:List Nat)(hm:P.follows .mixedOrders=true:=by kernel_rfl)(cy:Region.noSelect l.toArray=true:=by kernel_rfl)(g:fV P fn R X W n k mem dz true l.toArray l.toArray.size (Array.replicate l.toArray.size false) ⟨ai,mem⟩):bt P fn R X W n (.bC (.region id l.toArray true)::k) ⟨ai,mem⟩:=mf dz hm cy .refl g
inductive Dz:List Nat→List (Nat×Nat)→Prop
 |nil:Dz [] []
 |c3 {i:Nat} {l:List Nat} {o:List (Nat×Nat)} (t:Dz l o):Dz ((i+300)::l) ((i,3)::o)
 |c2 {i:Nat} {l:List Nat} {o:List (Nat×Nat)} (t:Dz l o):Dz ((i+200)::l) ((i,2)::o)
 |c1 {i:Nat} {l:List Nat} {o:List (Nat×Nat)} (t:Dz l o):Dz ((i+100)::l) ((i,1)::o)
 |c0 {i:Nat} {l:List Nat} {o:List (Nat×Nat)} (t:Dz l o):Dz (i::l) ((i,0)::o)
theorem Dd(a:Nat){A:Prop}{id:Nat}{l:List Oper}{cg:List (Nat×Nat)}(cs:List Nat)(ho:Dz cs cg:=by repeat first|exact .nil|apply Dz.c3|apply Dz.c2|apply Dz.c1|apply Dz.c0)(hm:P.follows .mixedOrders=true:=by kernel_rfl)(cy:Hy l.toArray cg=true:=by kernel_rfl)(st:Sn a A (jb P fn R X W n k mem l.toArray cg cg ⟨ai,mem⟩):=by repeat first|exact Sn.z|(apply Sn.s;exact fun g=>sH g))(g:A):bt P fn R X W n (.bC (.region id l.toArray true)::k) ⟨ai,mem⟩:=Vu cg hm cy .refl (st.go g)
end
theorem eL(l:List Nat){ai e:List (Nat×Value)}(h:Kp ai l e:=by repeat first|exact .nil|apply Kp.cons rfl):eo ai e:=h.sub
theorem dA(is:List Nat){m0 m cs:List an}(h:Bp is m=some cs:=by exact rfl):ar (m0++m) cs:=(ar.sub (mw _ _)).trans (I5 h)
theorem Qw{fn:Func}{R:Ending→World→Prop}{X:Nat→Prop}{W:World}{n:Nat}{k:List K}{ai:List (Nat×Value)}{mem:List an}{o:Oper}{v:Value}{d:Nat}{all:Array Oper}{aS:List Oper}(hw:dd all ai o true)(h:Q1 prog X W n ⟨ai,mem⟩ o v:=by exact pw)(hd:o.dst=some d:=by exact rfl)(hdn:Nat.blt d n=true:=by exact rfl)(g:bt prog fn R X W n (.aq all aS::k) ⟨(d,v)::ai,mem⟩):bt prog fn R X W n (.aq all (o::aS)::k) ⟨ai,mem⟩:=iG hw hd hdn h g
theorem sW(S:St){P:Program}{fn:Func}{R:Ending→World→Prop}{X:Nat→Prop}{W:World}{n:Nat}{k:List K}(g:bt P fn R X W n k S):bt P fn R X W n k S:=g
theorem qa(S:St){ρ:Option Nat}{P:Program}{Qb:Exit→Act→World→Prop}{ds:List Deferred}{X:Nat→Prop}{W:World}{n:Nat}{k:List K}(g:RF ρ P Qb ds X W n k S):RF ρ P Qb ds X W n k S:=g
theorem rM{P:Program}{fn:Func}{R:Ending→World→Prop}{X:Nat→Prop}{W:World}{n:Nat}{k:List K}{ai:List (Nat×Value)}{m m':List an}(h:ar m m')(g:bt P fn R X W n k ⟨ai,m'⟩):bt P fn R X W n k ⟨ai,m⟩:=dI (az .refl h) g
abbrev Iv(x:Int):Value:= .int .i64 x
theorem Bt:Hr.Sz prog 3 1:=Hr.Sz.of (by kernel_rfl)
theorem qQ:Hr.mz prog 3:=⟨fun w=>by simp [isAgg,dM cr],Hr.Sz.of (by kernel_rfl)⟩
theorem we:prog.follows .mixedOrders=true:=by kernel_rfl
theorem R8{cJ cX fX gB mj od wg:Int}:prog.built 359 [(0,Iv cJ),(1,Iv cX),(2,Iv fX),(3,Iv gB),(4,Iv mj),(5,Iv od),(6,Iv wg)]=some #[Iv cJ,Iv cX,Iv fX,Iv gB,Iv mj,Iv od,Iv wg]:=by kernel_rfl
theorem M5:Hr.i_ prog 138 2:=⟨fun w=>by simp [isAgg,dM underlying138],Hr.Sz.of (by kernel_rfl)⟩
theorem FW:prog.stoodInHeld 147=false:=by kernel_rfl
theorem Bw:Hr.i_ prog 48 2:=⟨fun w=>by simp [isAgg,dM rX],Hr.Sz.of (by kernel_rfl)⟩
theorem Bz:Hr.i_ prog 32 6:=⟨fun w=>by simp [isAgg,dM iY],Hr.Sz.of (by kernel_rfl)⟩
theorem Nb:prog.stoodInHeld 48=false:=by kernel_rfl
theorem SE{cJ gB fX mj od:Int}:prog.built 220 [(0,Iv cJ),(3,Iv gB),(2,Iv fX),(4,Iv mj),(5,Iv od)]=some #[Iv cJ,Iv 0,Iv fX,Iv gB,Iv mj,Iv od,Iv 0]:=by kernel_rfl
theorem Jo:Hr.Sz prog 66 2:=Hr.Sz.of (by kernel_rfl)
theorem JD:prog.built 48 []=some #[Iv 0,Iv 0]:=by kernel_rfl
theorem TH:prog.eqGuardType prog.depth 147=false:=by kernel_rfl
theorem JS:prog.built 220 []=some #[Iv 0,Iv 0,Iv 0,Iv 0,Iv 0,Iv 0,Iv 0]:=by kernel_rfl
theorem Nc{a0 a1 b0 b1:Int}(w:World):(Op.equalIn 10000 48 (.agg #[Iv a0,Iv a1]) (.agg #[Iv b0,Iv b1])).run prog w= .ok (a0==b0&&(a1==b1)) w:=by
 rw [sV w 9999 48 _ _ (by simp only [Program.fieldsOf,rX]) Nb];have hz:∀(x y:Int) (w:World),(Op.equalIn 9999 3 (Iv x) (Iv y)).run prog w= .ok (x==y) w:=fun x y w=>fR w 9998 3 .i64 .i64 x y cr;cases h0:(a0==b0)<;>cases h1:(a1==b1)<;>simp [Program.fieldsOf,rX,Op.eqFields,part,qQ.1,hz,h0,h1]
theorem JR{a0 a1 a2 b0 b1 b2:Int}(w:World):(Op.equalIn 10000 147 (.agg #[Iv a0,Iv a1,Iv a2]) (.agg #[Iv b0,Iv b1,Iv b2])).run prog w= .ok (a0==b0&&(a1==b1&&(a2==b2))) w:=by
 rw [sV w 9999 147 _ _ (by simp only [Program.fieldsOf,wY]) FW];have hz:∀(x y:Int) (w:World),(Op.equalIn 9999 3 (Iv x) (Iv y)).run prog w= .ok (x==y) w:=fun x y w=>fR w 9998 3 .i64 .i64 x y cr;cases h0:(a0==b0)<;>cases h1:(a1==b1)<;>cases h2:(a2==b2)<;>simp [Program.fieldsOf,wY,Op.eqFields,part,qQ.1,hz,h0,h1,h2]
end Go.Proofs.YtjpbickffffgkaaGreat
