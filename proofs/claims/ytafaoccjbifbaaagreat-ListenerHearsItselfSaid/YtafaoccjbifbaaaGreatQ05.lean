/- Part 6 of listenerHearsItself_holds. -/
import Derived.Test.YtafaoccjbifbaaaGreatQ04
set_option linter.unusedSimpArgs false
set_option linter.unusedVariables false
set_option maxHeartbeats 40000000
set_option maxRecDepth 100000
namespace Go.Proofs.YtafaoccjbifbaaaGreat
open Go Go.RowKit Hr Go.Proofs.Tryz
theorem ek(x:List Value):([x]:List (List Value))[0]?=some x:=rfl
inductive CN(cs:List (Nat×Value)):Nat→Nat→List Value→Prop where
 |nil {i:Nat}:CN cs i 0 []
 |cons {i s:Nat} {v:Value} {vs:List Value} (h:cW cs i=some v) (t:CN cs (i+1) s vs):CN cs i (s+1) (v::vs)
theorem CN.at{cs:List (Nat×Value)}{i s:Nat}{vs:List Value}(h:CN cs i s vs):mP cs i vs∧vs.length=s:=by
 induction h with
 |nil=>exact⟨.nil,rfl⟩
 |cons h _ ih=>exact⟨.cons h ih.1,by rw [eF,ih.2]⟩
theorem sZ{m l:List an}{r:an}(h:ag m r l:=by repeat first|exact ag.ak|apply ag.ai):ag m r l:=h
theorem wA{all:Array Oper}{ah:List (Nat×Value)}{o:Oper}(h:cY all ah o true:=by first|exact .none rfl|exact .on rfl rfl rfl rfl|exact .on rfl rfl rfl (by assumption)):cY all ah o true:=h
theorem fA{all:Array Oper}{ah:List (Nat×Value)}{o:Oper}(h:cY all ah o false:=by first|exact .no rfl rfl rfl rfl|exact .off rfl rfl rfl|exact .no rfl rfl rfl (by assumption)):cY all ah o false:=h
theorem wZ{all:Array Oper}{ah:List (Nat×Value)}{o:Oper}(h:cY all ah o true:=by first|exact .none rfl|exact .on rfl rfl rfl rfl|exact .on rfl rfl rfl (by assumption)|exact .on rfl rfl rfl (by first|exact cz (by omega)|exact de (by omega)|exact kj.2 (by omega)|exact l4.2 (by omega))):cY all ah o true:=h
theorem fZ{all:Array Oper}{ah:List (Nat×Value)}{o:Oper}(h:cY all ah o false:=by first|exact .no rfl rfl rfl rfl|exact .off rfl rfl rfl|exact .no rfl rfl rfl (by assumption)|exact .no rfl rfl rfl (by first|exact cz (by omega)|exact de (by omega)|exact kj.2 (by omega)|exact l4.2 (by omega))):cY all ah o false:=h
theorem wP{all:Array Oper}{ah:List (Nat×Value)}{o:Oper}{α:Type}{l:List α}(h:l≠ [])(g:0<l.length→cY all ah o true:=by intro _;exact .on rfl rfl rfl (de (by omega))):cY all ah o true:=g (e8.2 h)
section
variable{X:Nat→Prop}{W:World}{n:Nat}{S:St}{o:Oper}{t u f b i d:Nat}{x y z:Operand}{v:Value}{ds:Option Nat}{ty:Nat}{po:String}{af:Array Edge}{gd:Option (Nat×Bool)}
theorem ai1(ho:o.op= .fieldAddr t x f)(hx:ev S.ah x=some v)(hv:v= .pointer (some ⟨b,i,none⟩))(hf:Nat.blt f 64=true)(hl:lk Kr (t*64+f)=some d):Q1 prog X W n S o (.pointer (some ⟨b,i+d,none⟩)):=by
 obtain⟨fs,y,s,h1,h2,rfl,h4⟩:=W2 (by simpa [Nat.blt_eq]using hf) hl
 exact rh ho h1 (hv▸hx) h2 h4 rfl
theorem eO{a:Addr}(ho:o.op= .fieldAddr t x f)(hx:ev S.ah x=some (.pointer (some a)))(hf:Nat.blt f 64=true)(hl:lk Kr (t*64+f)=some d):Q1 prog X W n S o (.pointer (some (a.add d))):=by
 obtain⟨fs,y,s,h1,h2,rfl,h4⟩:=W2 (by simpa [Nat.blt_eq]using hf) hl
 exact ac8 ho h1 hx h2 h4 rfl
theorem ai2{b i:Nat}{tb:TypeId}{cs:List (Nat×Value)}{l:List an}{u v:Value}{P:Program}(ho:o.op= .load t x)(ht:k9 P t)(hx:ev S.ah x=some u)(hu:u= .pointer (some ⟨b,i,none⟩))(hs:ag S.mem (.aj b tb cs) l)(hv:cW cs i=some v):Q1 P X W n S o v:=
 A0 ho ht (hu▸hx) hs hv
theorem ai3{s:Nat}{tb:TypeId}{cs:List (Nat×Value)}{l:List an}{vs:List Value}{P:Program}{u:Value}(ho:o.op= .load t x)(ht:pC P t s)(hx:ev S.ah x=some u)(hu:u= .pointer (some ⟨b,i,none⟩))(hs:ag S.mem (.aj b tb cs) l)(hv:CN cs i s vs):Q1 P X W n S o (.agg vs.toArray):=
 ac_ ho ht (hu▸hx) hs hv.at.1 hv.at.2
variable{P:Program}{w:Value}
theorem ai4(h:Q1 P X W n S ⟨ds,.move x,ty,po,af,gd⟩ w):Q1 P X W n S ⟨ds,.move x,ty,po,af,gd⟩ w:=h
theorem ai5(h:Q1 P X W n S ⟨ds,.assign x,ty,po,af,gd⟩ w):Q1 P X W n S ⟨ds,.assign x,ty,po,af,gd⟩ w:=h
theorem ai6(h:Q1 P X W n S ⟨ds,.load t x,ty,po,af,gd⟩ w):Q1 P X W n S ⟨ds,.load t x,ty,po,af,gd⟩ w:=h
theorem ai7(h:Q1 P X W n S ⟨ds,.fieldAddr t x f,ty,po,af,gd⟩ w):Q1 P X W n S ⟨ds,.fieldAddr t x f,ty,po,af,gd⟩ w:=h
theorem ai8(h:Q1 P X W n S ⟨ds,.pick x y z,ty,po,af,gd⟩ w):Q1 P X W n S ⟨ds,.pick x y z,ty,po,af,gd⟩ w:=h
theorem ai9{k:BinOp}(h:Q1 P X W n S ⟨ds,.binOp k t x y u,ty,po,af,gd⟩ w):Q1 P X W n S ⟨ds,.binOp k t x y u,ty,po,af,gd⟩ w:=h
theorem oh(h:Q1 prog X W n S o v:=by
 first
 |((with_reducible apply ai4);exact iv rfl rfl)
 |((with_reducible apply ai5);exact ko rfl rfl)
 |((with_reducible apply ai6);first|exact ai2 rfl (WY rfl rfl) rfl (by with_reducible rfl) sZ rfl|exact ai3 rfl (WZ rfl rfl) rfl (by with_reducible rfl) sZ (by repeat first|exact .nil|apply CN.cons rfl))
 |((with_reducible apply ai7);first|exact ai1 rfl rfl (by with_reducible rfl) rfl rfl|exact eO rfl rfl rfl rfl)
 |((with_reducible apply ai9);first|exact ac5 rfl rfl rfl|exact xw rfl rfl rfl (by omega)|exact AY rfl rfl rfl (by omega)|exact I3 rfl rfl rfl|exact Mj rfl rfl rfl|exact ac6 rfl rfl rfl|exact S4 rfl rfl rfl|exact ac7 rfl rfl rfl|exact vM rfl rfl rfl (by omega))
 |((with_reducible apply ai8);first|exact dX rfl rfl rfl rfl|exact kq rfl rfl rfl rfl|exact dX rfl rfl (by assumption) rfl|exact kq rfl rfl (by assumption) rfl)
 |exact ac4 rfl rfl rfl|exact I5 rfl rfl|exact I4 rfl (W1 rfl) rfl|exact S3 rfl rfl):Q1 prog X W n S o v:=h
end
section
variable{P:Program}{fn:Func}{R:Ending→World→Prop}{X:Nat→Prop}{W:World}{n:Nat}{k:List K}{S:St}{all:Array Oper}{o:Oper}{r:List Oper}{M0:List an}{aq:Array Oper}{bK rd:List (Nat×Nat)}{a:Nat×Nat}{id:Nat}{c:Operand}{p q:Code}
theorem W8(h:aW P fn R X W n (.aq all (o::r)::k) S):aW P fn R X W n (.aq all (o::r)::k) S:=h
theorem ai_{i:Nat}(h:iK P fn R X W n k M0 aq bK ((i,0)::rd) S):iK P fn R X W n k M0 aq bK ((i,0)::rd) S:=h
theorem aja{i:Nat}(h:iK P fn R X W n k M0 aq bK ((i,2)::rd) S):iK P fn R X W n k M0 aq bK ((i,2)::rd) S:=h
theorem Pf{i d:Nat}{ah:List (Nat×Value)}{mem:List an}{v:Value}{op:Op}{ty:Nat}{po:String}{af:Array Edge}{gd:Option (Nat×Bool)}(hi:aq[i]?=some ⟨some d,op,ty,po,af,gd⟩)(ht:jh bK i=0)(hw:cY aq ah ⟨some d,op,ty,po,af,gd⟩ true)(hdn:Nat.blt d n=true)(h:Q1 P X W n ⟨ah,M0⟩ ⟨some d,op,ty,po,af,gd⟩ v)
  (hk:iK P fn R X W n k M0 aq bK rd ⟨(d,v)::ah,mem⟩):iK P fn R X W n k M0 aq bK ((i,0)::rd) ⟨ah,mem⟩:=ju hi ht hw rfl hdn h hk
theorem ajb(h:aW P fn R X W n (.bn (.exit id)::k) S):aW P fn R X W n (.bn (.exit id)::k) S:=h
theorem ajc(h:aW P fn R X W n (.bn (.cond c p q)::k) S):aW P fn R X W n (.bn (.cond c p q)::k) S:=h
end
section
variable{ρ:Option Nat}{P:Program}{Qb:Exit→Act→World→Prop}{ds:List Deferred}{fn:Func}{R:Ending→World→Prop}{X:Nat→Prop}{W:World}{n:Nat}{k:List K}{S:St}{all:Array Oper}{o:Oper}{r:List Oper}{M0:List an}{aq:Array Oper}{bK rd:List (Nat×Nat)}{a:Nat×Nat}{id:Nat}{c:Operand}{p q:Code}
theorem ajd(h:RF ρ P Qb ds X W n (.aq all (o::r)::k) S):RF ρ P Qb ds X W n (.aq all (o::r)::k) S:=h
theorem aje(h:RF ρ P Qb ds X W n (.bn (.exit id)::k) S):RF ρ P Qb ds X W n (.bn (.exit id)::k) S:=h
theorem ajf(h:RF ρ P Qb ds X W n (.bn (.cond c p q)::k) S):RF ρ P Qb ds X W n (.bn (.cond c p q)::k) S:=h
theorem ajg{i:Nat}(h:kQ P fn R X W n k M0 aq bK ((i,0)::rd) S):kQ P fn R X W n k M0 aq bK ((i,0)::rd) S:=h
theorem ajh{i:Nat}(h:kQ P fn R X W n k M0 aq bK ((i,2)::rd) S):kQ P fn R X W n k M0 aq bK ((i,2)::rd) S:=h
theorem Pg{i d:Nat}{ah:List (Nat×Value)}{mem:List an}{v:Value}{op:Op}{ty:Nat}{po:String}{af:Array Edge}{gd:Option (Nat×Bool)}(hi:aq[i]?=some ⟨some d,op,ty,po,af,gd⟩)(ht:jh bK i=0)(hw:cY aq ah ⟨some d,op,ty,po,af,gd⟩ true)(hdn:Nat.blt d n=true)(h:Q1 P X W n ⟨ah,M0⟩ ⟨some d,op,ty,po,af,gd⟩ v)
  (hk:kQ P fn R X W n k M0 aq bK rd ⟨(d,v)::ah,mem⟩):kQ P fn R X W n k M0 aq bK ((i,0)::rd) ⟨ah,mem⟩:=T0 hi ht hw rfl hdn h hk
end
theorem rR{A B:Prop}(g:A)(h:A→B:=by
 first
 |with_reducible exact IY|with_reducible exact S0|with_reducible exact SV|with_reducible exact acX|with_reducible exact acV|with_reducible exact acW|with_reducible exact SX|with_reducible exact adF
 |(intro g;(with_reducible apply W8);first|exact dm (.none rfl) rfl rfl oh g|exact AW (.none rfl) (cA rfl rfl (wH rfl) rfl rfl rfl rfl rfl sZ rfl) fun _ _=>g|exact ti fA rfl rfl g|exact dm wA rfl rfl oh g|exact ti fZ rfl rfl g|exact dm wZ rfl rfl oh g|exact AW wZ (cA rfl rfl (wH rfl) rfl rfl rfl rfl rfl sZ rfl) fun _ _=>g)
 |(intro g;(with_reducible apply ai_);first|exact Pf rfl rfl (.none rfl) rfl oh g|exact Tp rfl rfl fA rfl rfl g|exact Pf rfl rfl wA rfl oh g|exact Tp rfl rfl fZ rfl rfl g|exact Pf rfl rfl wZ rfl oh g)
 |(intro g;(with_reducible apply aja);exact Tr rfl rfl wZ (cA rfl rfl (wH rfl) rfl rfl rfl rfl rfl sZ rfl) fun _ _=>g)
 |(intro g;(with_reducible apply ajg);first|exact Pg rfl rfl (.none rfl) rfl oh g|exact T1 rfl rfl fA rfl rfl g|exact Pg rfl rfl wA rfl oh g|exact T1 rfl rfl fZ rfl rfl g|exact Pg rfl rfl wZ rfl oh g)
 |(intro g;(with_reducible apply ajh);exact T3 rfl rfl wZ (cA rfl rfl (wH rfl) rfl rfl rfl rfl rfl sZ rfl) fun _ _=>g)
 |with_reducible exact ad7|with_reducible exact afI|with_reducible exact afH|with_reducible exact afB|with_reducible exact afE|with_reducible exact afC|with_reducible exact afD
 |(intro g;(with_reducible apply ajd);first|exact cD (.none rfl) rfl rfl oh g|exact gy (.none rfl) (cA rfl rfl (wH rfl) rfl rfl rfl rfl rfl sZ rfl) fun _ _=>g|exact NQ fA rfl rfl g|exact cD wA rfl rfl oh g|exact NQ fZ rfl rfl g|exact cD wZ rfl rfl oh g)
 |(intro g;(with_reducible apply aje);exact afF rfl g)|(intro g;(with_reducible apply ajf);first|exact UT rfl rfl g|exact afG rfl rfl g)
 |(intro g;(with_reducible apply ajb);exact acY rfl g)|(intro g;(with_reducible apply ajc);first|exact dM rfl rfl g|exact l7 rfl rfl g|exact dM rfl (cz (by omega)) g|exact dM rfl (kj.2 (by omega)) g)
 |(intro g;(apply W8);first|exact dm (.none rfl) rfl rfl oh g|exact AW (.none rfl) (cA rfl rfl (wH rfl) rfl rfl rfl rfl rfl sZ rfl) fun _ _=>g|exact ti fA rfl rfl g|exact dm wA rfl rfl oh g|exact ti fZ rfl rfl g|exact dm wZ rfl rfl oh g|exact AW wZ (cA rfl rfl (wH rfl) rfl rfl rfl rfl rfl sZ rfl) fun _ _=>g)):B:=h g
inductive Sn:Nat→Prop→Prop→Prop
 |z {A:Prop}:Sn 0 A A
 |s {n:Nat} {A B C:Prop} (h:C→B) (t:Sn n A C):Sn (n+1) A B
theorem Sn.go{n:Nat}{A B:Prop}(h:Sn n A B)(g:A):B:=by
 induction h with
 |z=>exact g
 |s h _ ih=>exact h (ih g)
theorem ab(n:Nat){A B:Prop}(h:Sn n A B:=by repeat first|exact Sn.z|(apply Sn.s;exact fun g=>rR g))(g:A):B:=h.go g
inductive Kp(ah:List (Nat×Value)):List Nat→List (Nat×Value)→Prop where
 |nil:Kp ah [] []
 |cons {s:Nat} {v:Value} {l:List Nat} {e:List (Nat×Value)} (h:cW ah s=some v) (t:Kp ah l e):Kp ah (s::l) ((s,v)::e)
theorem Kp.sub{ah e:List (Nat×Value)}{l:List Nat}(h:Kp ah l e):dF ah e:=by
 induction h with
 |nil=>exact .nil
 |cons h _ ih=>exact .cons h ih
theorem kp(n:Nat){P:Program}{fn:Func}{R:Ending→World→Prop}{X:Nat→Prop}{W:World}{N:Nat}{k:List K}{ah e:List (Nat×Value)}{m:List an}{A:Prop}(l:List Nat)
  (h:Kp ah l e:=by repeat first|exact .nil|apply Kp.cons rfl)(t:Sn n A (aW P fn R X W N k ⟨e,m⟩):=by repeat first|exact Sn.z|(apply Sn.s;exact fun g=>rR g))(g:A):aW P fn R X W N k ⟨ah,m⟩:=cG (ar h.sub .refl) (t.go g)
theorem td{p q:Prop}(h:p)(e:p→q:=by
 intro h;(try simp only [ir,tf,kh,kj,xm,l4,IW,Fv,ne_eq,yW,Int.not_le,Fm]at h);exact h):q:=e h
theorem vZ{ah:List (Nat×Value)}{xs:List (Nat×Operand)}{vs:List (Nat×Value)}(h:PV ah xs vs:=by repeat first|exact PV.nil|apply PV.cons rfl):PV ah xs vs:=h
theorem pZ{ah:List (Nat×Value)}{s i:Nat}{xs:List (Nat×Operand)}{vs:List Value}(h:uq ah s i xs vs:=by repeat first|exact uq.nil|(apply uq.cons;exact rfl;exact rfl;exact rfl;exact rfl)):uq ah s i xs vs:=h
theorem cZ{cs:List (Nat×Value)}{i:Nat}{vs:List Value}(h:mP cs i vs:=by repeat first|exact mP.nil|apply mP.cons rfl):mP cs i vs:=h
theorem nZ{ah e:List (Nat×Value)}(h:dF ah e:=by repeat first|exact dF.nil|exact dF.refl|refine dF.cons rfl ?_|refine dF.az rfl (aD (by omega)) ?_):dF ah e:=h
theorem aji{m l l':List an}{b:Nat}{t:TypeId}{cs xr:List (Nat×Value)}(hs:ag m (.aj b t cs) l)(he:dF cs xr)(hl:ax l l'):ax m (.aj b t xr::l'):= .cons hs (.aj he) hl
theorem mZ{m m':List an}(h:ax m m':=by repeat first|exact ax.nil|exact ax.refl|refine ax.cons sZ cm.refl ?_|(apply aji;exact sZ;exact nZ)):ax m m':=h
theorem kZ{f:FuncId}(h:fb prog f:=by intro a w;kernel_rfl):fb prog f:=h
theorem zS{t s:Nat}(h:lk B_ t=some s:=by exact rfl):Sz prog t s:=wH h
theorem zO{t:Nat}(h:lk El t=some false:=by exact rfl)(g:lk B_ t=some 1:=by exact rfl):k9 prog t:=WY h g
theorem zA{t s:Nat}(h:lk El t=some true:=by exact rfl)(g:lk B_ t=some s:=by exact rfl):pC prog t s:=WZ h g
theorem zI{t:Nat}{zs:List Value}{s b:Nat}(h:lk Kt t=some (zs,s,b):=by exact rfl):yZ prog t zs s b:=ifF h
theorem zU{t e:Nat}(h:lk O_ t=some e:=by exact rfl):prog.underlying t=some (.slice e):=W1 h
theorem xZ{P:Program}(h:P.follows .mixedOrders=true:=by kernel_rfl):P.follows .mixedOrders=true:=h
def G6(ah:List (Nat×Value)):List Operand→Option (List Value)
 | []=>some []
 |x::xs=>match ev ah x with
  |some v=>match G6 ah xs with
   |some vs=>some (v::vs)
   |none=>none
  |none=>none
theorem aT{ah:List (Nat×Value)}:∀{xs:List Operand} {vs:List Value},G6 ah xs=some vs→kL ah xs vs
 | [],_,h=>by cases h;exact .nil
 |x::xs,vs,h=>by
  unfold G6 at h
  cases hx:ev ah x with
  |none=>rw [hx]at h;cases h
  |some v=>
   cases hs:G6 ah xs with
   |none=>rw [hx,hs]at h;cases h
   |some us=>rw [hx,hs]at h;cases h;exact .cons hx (aT hs)
def G7(ah:List (Nat×Value))(o:Oper):Option (FuncId×List Value):=match o.op with
 | .call c=>match c.callee with
  | .value (.func f)=>match G6 ah c.args.toList with
   |some vs=>some (f,vs)
   |none=>none
  |_=>none
 |_=>none
theorem Ph{ah:List (Nat×Value)}{o:Oper}{f:FuncId}{vs:List Value}(h:G7 ah o=some (f,vs)):∃xs ts,o.op= .call {callee:= .value (.func f),args:=List.toArray xs,argTypes:=ts}∧kL ah xs vs:=by
 unfold G7 at h
 split at h
 ·rename_i c hc
  split at h
  ·rename_i g hg
   split at h
   ·rename_i us hu
    cases h
    obtain⟨ca,xs,ts⟩:=c
    dsimp only at hg hu
    subst hg
    exact⟨xs.toList,ts,by rw [hc],aT hu⟩
   ·cases h
  ·cases h
 ·cases h
def xY:Nat→List an→Option (an×List an)
 |_, []=>none
 |0,r::l=>some (r,l)
 |i+1,r::l=>match xY i l with
  |some (x,l')=>some (x,r::l')
  |none=>none
theorem Kw:∀{i:Nat} {m l:List an} {r:an},xY i m=some (r,l)→ag m r l
 |0,r::m,_,_,h=>by cases h;exact .ak
 |i+1,s::m,l,r,h=>by
  unfold xY at h
  cases ht:xY i m with
  |none=>rw [ht]at h;cases h
  |some p=>rw [ht]at h;obtain⟨x,l'⟩:=p;cases h;exact .ai (Kw ht)
def G8:List Nat→List an→Option (List an×List an)
 | [],m=>some ([],m)
 |i::is,m=>match xY i m with
  |some (r,l)=>match G8 is l with
   |some (cs,ls)=>some (r::cs,ls)
   |none=>none
  |none=>none
theorem Kx:∀{is:List Nat} {m cs ls:List an},G8 is m=some (cs,ls)→m.Perm (cs++ls)
 | [],m,_,_,h=>by cases h;exact .refl _
 |i::is,m,cs,ls,h=>by
  unfold G8 at h
  cases ht:xY i m with
  |none=>rw [ht]at h;cases h
  |some p=>
   obtain⟨r,l⟩:=p
   rw [ht]at h
   dsimp only at h
   cases hp:G8 is l with
   |none=>rw [hp]at h;cases h
   |some q=>
    obtain⟨xr,iw⟩:=q
    rw [hp]at h;cases h
    exact((Kw ht).aI).trans (.cons _ (Kx hp))
theorem iZ(i:Nat){m l:List an}{r:an}(h:xY i m=some (r,l):=by exact rfl):ag m r l:=Kw h
section
variable{P:Program}{fn:Func}{R:Ending→World→Prop}{X:Nat→Prop}{W:World}{n:Nat}{k:List K}{S:St}{ah:List (Nat×Value)}{mem:List an}{o:Oper}{f:FuncId}{vs:List Value}{v:Value}{d:Nat}{Φ:Value→List an→Prop}
theorem Qc(h:G7 S.ah o=some (f,vs))(hc:∀w,aS X W w→Mem X W S.mem w→Calls prog f vs.toArray w (aJ w v))(hf:fb prog f:=by exact kZ):Q1 prog X W n S o v:=by
 obtain⟨xs,ts,h1,h2⟩:=Ph h
 exact S7 h1 hf h2 hc
theorem Hc(h:G7 ah o=some (f,vs))(hc:∀w,aS X W w→Mem X W mem w→Calls prog f vs.toArray w (bk w nX Φ))(hf:fb prog f:=by exact kZ)(hd:o.dst=some d:=by exact rfl)(hdn:Nat.blt d n=true:=by exact rfl):
  H1 prog X W n ⟨ah,mem⟩ o (fun i:Value×List an=>Φ i.1 i.2) (fun i=>⟨(d,i.1)::ah,i.2++mem⟩):=by
 obtain⟨xs,ts,h1,h2⟩:=Ph h
 exact kM h1 hd hdn hf h2 hc
theorem Hx(is:List Nat){cs ls:List an}(h:G7 ah o=some (f,vs))(hp:G8 is mem=some (cs,ls))(hc:∀w,aS X W w→Mem X W mem w→Mem X W (cs++ls) w→Mem (aR cs) w cs w→Calls prog f vs.toArray w (bk w (aR cs) Φ))(hf:fb prog f:=by exact kZ)(hd:o.dst=some d:=by exact rfl)(hdn:Nat.blt d n=true:=by exact rfl):
  H1 prog X W n ⟨ah,mem⟩ o (fun i:Value×List an=>Φ i.1 i.2) (fun i=>⟨(d,i.1)::ah,i.2++ls⟩):=by
 obtain⟨xs,ts,h1,h2⟩:=Ph h
 exact pE (Y:=fun _=>aR cs) cs ls h1 hd hdn hf h2 (Kx hp) (fun _ _ h=>h) (fun w hk hm=>hc w hk hm (hm.aI (Kx hp)) (hm.aI (Kx hp)).gi)
def G9(ah:List (Nat×Value))(o:Oper):Option (TypeId×Addr):=match o.op with
 | .load t x=>match ev ah x with
  |some (.pointer (some a))=>some (t,a)
  |_=>none
 |_=>none
theorem Pj{ah:List (Nat×Value)}{o:Oper}{t:TypeId}{a:Addr}(h:G9 ah o=some (t,a)):∃x,o.op= .load t x∧ev ah x=some (.pointer (some a)):=by
 unfold G9 at h
 split at h
 ·rename_i u x hx
  split at h
  ·rename_i b hb;cases h;exact⟨x,hx,hb⟩
  ·cases h
 ·cases h
def Pk(ah:List (Nat×Value))(o:Oper):Option (TypeId×Option Addr×Nat×Nat×IntKind×Int):=match o.op with
 | .indexAddr t x y=>match ev ah x,ev ah y with
  |some (.slice A m c),some (.int k i)=>some (t,A,m,c,k,i)
  |_,_=>none
 |_=>none
theorem ajj{ah:List (Nat×Value)}{o:Oper}{t:TypeId}{A:Option Addr}{m c:Nat}{k:IntKind}{i:Int}(h:Pk ah o=some (t,A,m,c,k,i)):∃x y,o.op= .indexAddr t x y∧ev ah x=some (.slice A m c)∧ev ah y=some (.int k i):=by
 unfold Pk at h
 split at h
 ·rename_i u x y hx
  split at h
  ·rename_i h1 h2;cases h;exact⟨x,y,hx,h1,h2⟩
  ·cases h
 ·cases h
section
variable{t e:TypeId}{x y:Operand}{A:Option Addr}{sz m c:Nat}{ik:IntKind}{ix:Int}{ls:List (List Value)}
theorem Qi(q:Nat)(ho:Pk S.ah o=some (t,A,m,c,ik,ix))(hr:iT X W S A sz ls)(ht:prog.underlying t=some (.slice e):=by exact zU)(hs:Sz prog e sz:=by exact zS)(hl:ls.length=m:=by first|rfl|(simp;done)|(simp<;>omega))(hi:ix=(q:Int):=by first|rfl|omega)(hq:q<m:=by omega):
  Q1 prog X W n S o (.pointer (some ((bJ A).add (q*sz)))):=by
 obtain⟨x,y,h1,h2,h3⟩:=ajj ho
 exact k_ h1 ht hs h2 h3 hr hl hi hq
variable{q:Nat}{us:List Value}{u:Value}{s:Nat}
theorem Qe(ho:G9 S.ah o=some (t,(bJ A).add (q*sz)))(hr:iT X W S A sz ls)(hq:ls[q]?=some us:=by exact bt (by omega))(ht:pC prog t s:=by exact zA)(hl:us.length=s:=by exact rfl):Q1 prog X W n S o (.agg us.toArray):=by
 obtain⟨x,h1,h2⟩:=Pj ho
 exact FH h1 ht h2 hr hq hl
theorem Qk(ho:G9 S.ah o=some (t,(bJ A).add (q*sz)))(hr:iT X W S A sz ls)(hq:ls[q]?=some [u]:=by exact bt (by omega))(ht:k9 prog t:=by exact zO):Q1 prog X W n S o u:=by
 obtain⟨x,h1,h2⟩:=Pj ho
 exact fG h1 ht h2 hr hq
theorem Qf{d:Nat}(ho:G9 S.ah o=some (t,((bJ A).add (q*sz)).add d))(hr:iT X W S A sz ls)(hq:ls[q]?=some us:=by exact bt (by omega))(ht:k9 prog t:=by exact zO)(hl:us[d]?=some u:=by exact rfl):Q1 prog X W n S o u:=by
 obtain⟨x,h1,h2⟩:=Pj ho
 exact dG h1 ht h2 hr hq hl
end
variable{A:Prop}{all:Array Oper}{bu:List Oper}{ι:Type}{φ:ι→Prop}{next:ι→St}
theorem Qq(a:Nat)(h:Q1 P X W n ⟨ah,mem⟩ o v)(g:A)(hw:cY all ah o true:=by exact wZ)(hd:o.dst=some d:=by exact rfl)(hdn:Nat.blt d n=true:=by exact rfl)(t:Sn a A (aW P fn R X W n (.aq all bu::k) ⟨(d,v)::ah,mem⟩):=by repeat first|exact Sn.z|(apply Sn.s;exact fun g=>rR g)):aW P fn R X W n (.aq all (o::bu)::k) ⟨ah,mem⟩:=dm hw hd hdn h (t.go g)
theorem Hh(h:H1 P X W n ⟨ah,mem⟩ o φ next)(g:∀i,φ i→aW P fn R X W n (.aq all bu::k) (next i))(hw:cY all ah o true:=by exact wZ):aW P fn R X W n (.aq all (o::bu)::k) ⟨ah,mem⟩:=AW hw h g
theorem Nw(a:Nat){next:Nat→St}{A:Nat→Prop}(g:∀b,A b)(h:H1 prog X W n ⟨ah,mem⟩ o (fun _:Nat=>True) next:=by first|exact qt rfl rfl rfl rfl rfl|exact dH rfl rfl rfl zI|exact dz rfl rfl rfl zU zI pZ rfl (by omega))(hw:cY all ah o true:=by exact wZ)
  (t:∀b,Sn a (A b) (aW prog fn R X W n (.aq all bu::k) (next b)):=by intro b;repeat first|exact Sn.z|(apply Sn.s;exact fun g=>rR g)):aW prog fn R X W n (.aq all (o::bu)::k) ⟨ah,mem⟩:=AW hw h fun b _=>(t b).go (g b)
theorem Ag{dN:ι→St}{μ:ι→Nat}{m:Nat}{q:Prop}(i:ι)(g:q)(hq:q→φ i:=by intro h;(try dsimp only)<;>exact h)(hs:re X W n S (dN i):=by exact ar nZ mZ)(hm:μ i<m:=by(try dsimp only);omega):aW P fn R X W n (.stop (lJ X W n φ dN μ m)::k) S:=AV i (hq g) hm hs
theorem Ap{dN:ι→St}{q:Prop}(i:ι)(g:q)(hq:q→φ i:=by intro h;(try dsimp only)<;>exact h)(hs:re X W n S (dN i):=by exact ar nZ mZ):aW P fn R X W n (.stop (vJ X W n φ dN)::k) S:=kn i (hq g) hs
end
def zX:List Nat→List an→Option (List an)
 | [],_=>some []
 |i::is,m=>match xY i m with
  |some (r,l)=>match zX is l with
   |some cs=>some (r::cs)
   |none=>none
  |none=>none
theorem G_:∀{is:List Nat} {m cs:List an},zX is m=some cs→ax m cs
 | [],m,_,h=>by cases h;exact .nil
 |i::is,m,cs,h=>by
  unfold zX at h
  cases ht:xY i m with
  |none=>rw [ht]at h;cases h
  |some p=>
   obtain⟨r,l⟩:=p
   rw [ht]at h
   dsimp only at h
   cases hp:zX is l with
   |none=>rw [hp]at h;cases h
   |some q=>rw [hp]at h;cases h;exact .cons (Kw ht) .refl (G_ hp)
theorem dZ(is:List Nat){m cs:List an}(h:zX is m=some cs:=by exact rfl):ax m cs:=G_ h
section
variable{P:Program}{fn:Func}{R:Ending→World→Prop}{X:Nat→Prop}{W:World}{N:Nat}{k:List K}{ah e:List (Nat×Value)}{m cs:List an}{A:Prop}
theorem Ks(n:Nat)(l is:List Nat)(h:Kp ah l e:=by repeat first|exact .nil|apply Kp.cons rfl)(hm:zX is m=some cs:=by exact rfl)(t:Sn n A (aW P fn R X W N k ⟨e,cs⟩):=by repeat first|exact Sn.z|(apply Sn.s;exact fun g=>rR g))(g:A):aW P fn R X W N k ⟨ah,m⟩:=cG (ar h.sub (G_ hm)) (t.go g)
theorem Km(n:Nat)(is:List Nat)(hm:zX is m=some cs:=by exact rfl)(t:Sn n A (aW P fn R X W N k ⟨ah,cs⟩):=by repeat first|exact Sn.z|(apply Sn.s;exact fun g=>rR g))(g:A):aW P fn R X W N k ⟨ah,m⟩:=cG (ar .refl (G_ hm)) (t.go g)
theorem Cd(a:Nat){B:Prop}{c:Operand}{x y:Code}{b:Bool}{S:St}{p q:Prop}(st:Sn a (aW P fn R X W N (.bn (.cond c x y)::k) S) B:=by repeat first|exact Sn.z|(apply Sn.s;exact fun g=>rR g))(hc:ev S.ah c=some (.bool b):=by exact rfl)(e1:b=true→p:=by intro h;(try simp only [ir,tf,kh,kj,xm,l4,IW,Fv,ne_eq,yW,Int.not_le,Fm]at h);exact h)(e2:b=false→q:=by intro h;(try simp only [ir,tf,kh,kj,xm,l4,IW,Fv,ne_eq,yW,Int.not_le,Fm]at h);exact h)
  (h1:p→b=true→aW P fn R X W N (.bn x::k) S)(h2:q→b=false→aW P fn R X W N (.bn y::k) S):B:=st.go (SY hc (fun h=>h1 (e1 h) h) (fun h=>h2 (e2 h) h))
theorem Sd(a:Nat)(u:Tmp){B:Prop}{b:Bool}{S:St}{p q:Prop}(st:Sn a (aW P fn R X W N k S) B:=by repeat first|exact Sn.z|(apply Sn.s;exact fun g=>rR g))(hc:cW S.ah u=some (.bool b):=by exact rfl)(e1:b=true→p:=by intro h;(try simp only [ir,tf,kh,kj,xm,l4,IW,Fv,ne_eq,yW,Int.not_le,Fm]at h);exact h)(e2:b=false→q:=by intro h;(try simp only [ir,tf,kh,kj,xm,l4,IW,Fv,ne_eq,yW,Int.not_le,Fm]at h);exact h)
  (h1:p→b=true→aW P fn R X W N k S)(h2:q→b=false→aW P fn R X W N k S):B:=st.go (ac1 u hc (fun h=>h1 (e1 h) h) (fun h=>h2 (e2 h) h))
theorem Ea{f:FuncId}{vs:List Value}{c:Code}{ms:List an}(hf:P.funcs[f]?=some fn)(hn:fn.ntmps=N)(hm:Mem X W ms W)(g:aW P fn R X W N [.bn c] ⟨bB 0 vs,ms⟩)(hb:fn.body=some c:=by exact rfl)(hz:Nat.ble vs.length N=true:=by exact rfl):Calls P f vs.toArray W R:=MF hf hn hb hz hm g
theorem En(a:Nat){A:Prop}{f:FuncId}{vs:List Value}{c:Code}(hf:P.funcs[f]?=some fn)(hn:fn.ntmps=N)(hb:fn.body=some c:=by exact rfl)(hz:Nat.ble vs.length N=true:=by exact rfl)(st:Sn a A (aW P fn R nX W N [.bn c] ⟨bB 0 vs, []⟩):=by repeat first|exact Sn.z|(apply Sn.s;exact fun g=>rR g))(g:A):Calls P f vs.toArray W R:=MF hf hn hb hz Mem.nil (st.go g)
theorem Ej(a:Nat){A:Prop}{f:FuncId}{vs:List Value}{c:Code}{v:Value}(hf:P.funcs[f]?=some fn)(hn:fn.ntmps=N)(hb:fn.body=some c:=by exact rfl)(hz:Nat.ble vs.length N=true:=by exact rfl)(st:Sn a A (aW P fn (bk W nX fun u _=>u=v) nX W N [.bn c] ⟨bB 0 vs, []⟩):=by repeat first|exact Sn.z|(apply Sn.s;exact fun g=>rR g))(g:A):Calls P f vs.toArray W (aJ W v):=aJ.S1 (MF hf hn hb hz Mem.nil (st.go g))
end
theorem ajk{P:Program}{a:Tmp}{T tb:TypeId}{b i:Nat}{ah cs:List (Nat×Value)}{mem l:List an}{u:Value}{rs:List ResultVar}{vs:List Value}(h:cW ah a=some (.pointer (some ⟨b,i,none⟩)))(ht:k9 P T)(hs:ag mem (.aj b tb cs) l)(hv:cW cs i=some u)(r:l_ P ah mem rs vs):l_ P ah mem (.cell a T::rs) (u::vs):= .Te h ht hs hv r
theorem ajl{P:Program}{a:Tmp}{T tb:TypeId}{b i s:Nat}{ah cs:List (Nat×Value)}{mem l:List an}{us:List Value}{rs:List ResultVar}{vs:List Value}(h:cW ah a=some (.pointer (some ⟨b,i,none⟩)))(ht:pC P T s)(hs:ag mem (.aj b tb cs) l)(hv:CN cs i s us)(r:l_ P ah mem rs vs):l_ P ah mem (.cell a T::rs) (.agg us.toArray::vs):= .Di h ht hs hv.at.1 hv.at.2 r
theorem oZ{ah:List (Nat×Value)}{mem:List an}{rs:List ResultVar}{vs:List Value}(h:l_ prog ah mem rs vs:=by
 repeat first|exact l_.nil|apply l_.tmp rfl|(apply ajk;exact rfl;exact zO;exact sZ;exact rfl)|(apply ajl;exact rfl;exact zA;exact sZ;repeat first|exact CN.nil|apply CN.cons rfl)):l_ prog ah mem rs vs:=h
def Ix(_:Nat)(C B:Prop):Prop:=C→B
inductive Sx:List Nat→Prop→Prop→Prop
 |z {A:Prop}:Sx [] A A
 |s {i:Nat} {l:List Nat} {A B C:Prop} (h:Ix i C B) (t:Sx l A C):Sx (i::l) A B
theorem Sx.go{l:List Nat}{A B:Prop}(h:Sx l A B)(g:A):B:=by
 induction h with
 |z=>exact g
 |s h _ ih=>exact h (ih g)
section
variable{fn:Func}{R:Ending→World→Prop}{X:Nat→Prop}{W:World}{n m:Nat}{k:List K}{M0 mem:List an}{aq:Array Oper}{aL:Array Bool}{ah:List (Nat×Value)}{d i:Nat}{op:Op}{ty:Nat}{po:String}{af:Array Edge}{gd:Option (Nat×Bool)}{v:Value}{cM:List Nat}
theorem W9(hi:aq[i]?=some ⟨some d,op,ty,po,af,gd⟩:=by exact rfl)(hr:((Region.ready .any aq aL).contains i&&Region.free .any aq aL i)=true:=by kernel_rfl)(hw:cY aq ah ⟨some d,op,ty,po,af,gd⟩ true:=by exact wZ)(hdn:Nat.blt d n=true:=by exact rfl)
  (h:Q1 prog X W n ⟨ah,M0⟩ ⟨some d,op,ty,po,af,gd⟩ v:=by exact oh):Ix i (gp prog fn R X W n k M0 aq m (aL.setIfInBounds i true) ⟨(d,v)::ah,mem⟩) (gp prog fn R X W n k M0 aq (m+1) aL ⟨ah,mem⟩):=ss hi hr hw rfl hdn h
theorem W_(hi:aq[i]?=some ⟨some d,op,ty,po,af,gd⟩:=by exact rfl)(hr:((Region.ready .any aq aL).contains i&&Region.free .any aq aL i)=true:=by kernel_rfl)(hw:cY aq ah ⟨some d,op,ty,po,af,gd⟩ false:=by exact fZ)(hdn:Nat.blt d n=true:=by exact rfl):
  Ix i (gp prog fn R X W n k M0 aq m (aL.setIfInBounds i true) ⟨(d,undef)::ah,mem⟩) (gp prog fn R X W n k M0 aq (m+1) aL ⟨ah,mem⟩):=ad6 hi hr hw rfl hdn
theorem Xa(hi:aq[i]?=some ⟨some d,op,ty,po,af,gd⟩:=by exact rfl)(hr:((Region.ready .any aq aL).contains i&&Region.free .any aq aL i&&cM.all fun j=>xM aq 4 j i)=true:=by kernel_rfl)(hw:cY aq ah ⟨some d,op,ty,po,af,gd⟩ true:=by exact wZ)(hdn:Nat.blt d n=true:=by exact rfl)
  (h:Q1 prog X W n ⟨ah,M0⟩ ⟨some d,op,ty,po,af,gd⟩ v:=by exact oh):Ix i (ja prog fn R X W n k M0 cM true aq m (aL.setIfInBounds i true) ⟨(d,v)::ah,mem⟩) (ja prog fn R X W n k M0 cM true aq (m+1) aL ⟨ah,mem⟩):=DX hi hr hw rfl hdn h
theorem Xb(hi:aq[i]?=some ⟨some d,op,ty,po,af,gd⟩:=by exact rfl)(hr:((Region.ready .any aq aL).contains i&&Region.free .any aq aL i&&cM.all fun j=>xM aq 4 j i)=true:=by kernel_rfl)(hw:cY aq ah ⟨some d,op,ty,po,af,gd⟩ false:=by exact fZ)(hdn:Nat.blt d n=true:=by exact rfl):
  Ix i (ja prog fn R X W n k M0 cM true aq m (aL.setIfInBounds i true) ⟨(d,undef)::ah,mem⟩) (ja prog fn R X W n k M0 cM true aq (m+1) aL ⟨ah,mem⟩):=agi hi hr hw rfl hdn
theorem Bs(l:List Nat){A B:Prop}(h:Sx l A B:=by repeat first|exact Sx.z|(apply Sx.s;first|exact W9 (hdn:=rfl) (hw:=wA)|exact W_ (hdn:=rfl) (hw:=fA)|exact Xa (hdn:=rfl) (hw:=wA)|exact Xb (hdn:=rfl) (hw:=fA)|exact W9 (hdn:=rfl)|exact W_ (hdn:=rfl)|exact Xa (hdn:=rfl)|exact Xb (hdn:=rfl)))(g:A):B:=h.go g
variable{P:Program}{S:St}{o:Oper}{ι:Type}{φ:ι→Prop}{next:ι→St}{c:Bool}
theorem Bq(i:Nat)(hi:aq[i]?=some o)(h:Q1 P X W n ⟨ah,M0⟩ o v)(g:gp P fn R X W n k M0 aq m (aL.setIfInBounds i true) ⟨(d,v)::ah,mem⟩)(hr:((Region.ready .any aq aL).contains i&&Region.free .any aq aL i)=true:=by kernel_rfl)(hw:cY aq ah o true:=by exact wZ)(hd:o.dst=some d:=by exact rfl)(hdn:Nat.blt d n=true:=by exact rfl):
  gp P fn R X W n k M0 aq (m+1) aL ⟨ah,mem⟩:=ss hi hr hw hd hdn h g
theorem Lq(i:Nat)(hi:aq[i]?=some o)(h:Q1 P X W n ⟨ah,M0⟩ o v)(g:ja P fn R X W n k M0 cM true aq m (aL.setIfInBounds i true) ⟨(d,v)::ah,mem⟩)(hr:((Region.ready .any aq aL).contains i&&Region.free .any aq aL i&&cM.all fun j=>xM aq 4 j i)=true:=by kernel_rfl)(hw:cY aq ah o true:=by exact wZ)(hd:o.dst=some d:=by exact rfl)(hdn:Nat.blt d n=true:=by exact rfl):
  ja P fn R X W n k M0 cM true aq (m+1) aL ⟨ah,mem⟩:=DX hi hr hw hd hdn h g
theorem Bh(hi:aq[i]?=some o)(h:H1 P X W n ⟨ah,mem⟩ o φ next)(g:∀j,φ j→gp P fn R X W n k M0 aq m (aL.setIfInBounds i true) (next j))(hw:cY aq ah o true:=by exact wZ)(hM:∀j,φ j→ax (next j).mem M0:=by intro _ _;first|exact .refl|(refine .sub ?_;first|exact gR _ _|(refine .trans ?_ (gR _ _);(repeat first|exact List.Sublist.refl _|exact .slnil|apply List.Sublist.cons_cons|apply List.Sublist.cons);done)|(repeat first|exact List.Sublist.refl _|exact .slnil|apply List.Sublist.cons_cons|apply List.Sublist.cons))):tq P fn R X W n k M0 aq m aL i ⟨ah,mem⟩:=nS hi hw h hM g
theorem Bg(i:Nat)(hi:aq[i]?=some o)(h:H1 P X W n ⟨ah,mem⟩ o φ next)(g:∀j,φ j→gp P fn R X W n k M0 aq m (aL.setIfInBounds i true) (next j))(hr:Region.ready .any aq aL= [i]:=by kernel_rfl)(hw:cY aq ah o true:=by exact wZ)(hM:∀j,φ j→ax (next j).mem M0:=by intro _ _;first|exact .refl|(refine .sub ?_;first|exact gR _ _|(refine .trans ?_ (gR _ _);(repeat first|exact List.Sublist.refl _|exact .slnil|apply List.Sublist.cons_cons|apply List.Sublist.cons);done)|(repeat first|exact List.Sublist.refl _|exact .slnil|apply List.Sublist.cons_cons|apply List.Sublist.cons))):gp P fn R X W n k M0 aq (m+1) aL ⟨ah,mem⟩:=TX i hr (nS hi hw h hM g)
theorem Lg(i:Nat)(hi:aq[i]?=some o)(h:H1 P X W n ⟨ah,mem⟩ o φ next)(g:∀j,φ j→ja P fn R X W n k M0 cM true aq m (aL.setIfInBounds i true) (next j))(hr:Region.ready .any aq aL= [i]:=by kernel_rfl)(hw:cY aq ah o true:=by exact wZ)(hM:∀j,φ j→ax (next j).mem M0:=by intro _ _;first|exact .refl|(refine .sub ?_;first|exact gR _ _|(refine .trans ?_ (gR _ _);(repeat first|exact List.Sublist.refl _|exact .slnil|apply List.Sublist.cons_cons|apply List.Sublist.cons);done)|(repeat first|exact List.Sublist.refl _|exact .slnil|apply List.Sublist.cons_cons|apply List.Sublist.cons))):ja P fn R X W n k M0 cM true aq (m+1) aL ⟨ah,mem⟩:=Vj i hr (l_h hi hw h hM g)
theorem Ll(hi:aq[i]?=some o)(h:H1 P X W n ⟨ah,mem⟩ o φ next)(g:∀j,φ j→ja P fn R X W n k M0 cM false aq m (aL.setIfInBounds i true) (next j))(hl:cM.contains i=true:=by exact rfl)(hw:cY aq ah o true:=by exact wZ):GI P fn R X W n k M0 cM c aq m aL i ⟨ah,mem⟩:=agk hi hl hw h g
variable{bK r:List (Nat×Nat)}
theorem Dq(a:Nat){A:Prop}(hi:aq[i]?=some o)(h:Q1 P X W n ⟨ah,M0⟩ o v)(g:A)(ht:jh bK i=0:=by exact rfl)(hw:cY aq ah o true:=by exact wZ)(hd:o.dst=some d:=by exact rfl)(hdn:Nat.blt d n=true:=by exact rfl)(st:Sn a A (iK P fn R X W n k M0 aq bK r ⟨(d,v)::ah,mem⟩):=by repeat first|exact Sn.z|(apply Sn.s;exact fun g=>rR g)):iK P fn R X W n k M0 aq bK ((i,0)::r) ⟨ah,mem⟩:=ju hi ht hw hd hdn h (st.go g)
theorem Dh(hi:aq[i]?=some o)(h:H1 P X W n ⟨ah,mem⟩ o φ next)(g:∀j,φ j→iK P fn R X W n k M0 aq bK r (next j))(ht:jh bK i=1:=by exact rfl)(hw:cY aq ah o true:=by exact wZ)(hM:∀j,φ j→ax (next j).mem M0:=by intro _ _;first|exact .refl|(refine .sub ?_;first|exact gR _ _|(refine .trans ?_ (gR _ _);(repeat first|exact List.Sublist.refl _|exact .slnil|apply List.Sublist.cons_cons|apply List.Sublist.cons);done)|(repeat first|exact List.Sublist.refl _|exact .slnil|apply List.Sublist.cons_cons|apply List.Sublist.cons))):iK P fn R X W n k M0 aq bK ((i,1)::r) ⟨ah,mem⟩:=ks hi ht hw h hM g
theorem Dt(hi:aq[i]?=some o)(h:H1 P X W n ⟨ah,mem⟩ o φ next)(g:∀j,φ j→iK P fn R X W n k M0 aq bK r (next j))(ht:jh bK i=2:=by exact rfl)(hw:cY aq ah o true:=by exact wZ):iK P fn R X W n k M0 aq bK ((i,2)::r) ⟨ah,mem⟩:=Tr hi ht hw h g
theorem Pq(hi:aq[i]?=some o)(h:Q1 P X W n ⟨ah,M0⟩ o v)(g:kQ P fn R X W n k M0 aq bK r ⟨(d,v)::ah,mem⟩)(ht:jh bK i=0:=by exact rfl)(hw:cY aq ah o true:=by exact wZ)(hd:o.dst=some d:=by exact rfl)(hdn:Nat.blt d n=true:=by exact rfl):kQ P fn R X W n k M0 aq bK ((i,0)::r) ⟨ah,mem⟩:=T0 hi ht hw hd hdn h g
theorem Pt(hi:aq[i]?=some o)(h:H1 P X W n ⟨ah,mem⟩ o φ next)(g:∀j,φ j→kQ P fn R X W n k M0 aq bK r (next j))(ht:jh bK i=2:=by exact rfl)(hw:cY aq ah o true:=by exact wZ):kQ P fn R X W n k M0 aq bK ((i,2)::r) ⟨ah,mem⟩:=T3 hi ht hw h g
theorem gM(i:Nat)(hr:Region.ready .any aq aL= [i]:=by kernel_rfl)(g:tq P fn R X W n k M0 aq m aL i S):gp P fn R X W n k M0 aq (m+1) aL S:=TX i hr g
theorem o4(i j:Nat)(g:tq P fn R X W n k M0 aq m aL i S)(g':tq P fn R X W n k M0 aq m aL j S)(hr:Region.ready .any aq aL= [i,j]:=by kernel_rfl):gp P fn R X W n k M0 aq (m+1) aL S:=ad4 i j hr g g'
theorem jL(i:Nat)(hr:Region.ready .any aq aL= [i]:=by kernel_rfl)(g:GI P fn R X W n k M0 cM c aq m aL i S):ja P fn R X W n k M0 cM c aq (m+1) aL S:=Vj i hr g
theorem eE(a:Nat){A:Prop}(h:Region.ready .any aq aL= []:=by kernel_rfl)(st:Sn a A (aW P fn R X W n k S):=by repeat first|exact Sn.z|(apply Sn.s;exact fun g=>rR g))(g:A):gp P fn R X W n k M0 aq 0 aL S:=ad3 h (st.go g)
theorem j6(a:Nat){A:Prop}(h:Region.ready .any aq aL= []:=by kernel_rfl)(st:Sn a A (aW P fn R X W n k S):=by repeat first|exact Sn.z|(apply Sn.s;exact fun g=>rR g))(g:A):ja P fn R X W n k M0 cM c aq 0 aL S:=agf h (st.go g)
theorem oo{id:Nat}{l:List Oper}(hm:P.follows .mixedOrders=true:=by kernel_rfl)(bW:Region.noSelect l.toArray=true:=by kernel_rfl)(g:gp P fn R X W n k mem l.toArray l.toArray.size (Array.replicate l.toArray.size false) ⟨ah,mem⟩):aW P fn R X W n (.bn (.region id l.toArray true)::k) ⟨ah,mem⟩:=rl hm bW .refl g
theorem Pm{id:Nat}{l:List Oper}(cM:List Nat)(hm:P.follows .mixedOrders=true:=by kernel_rfl)(bW:Region.noSelect l.toArray=true:=by kernel_rfl)(g:ja P fn R X W n k mem cM true l.toArray l.toArray.size (Array.replicate l.toArray.size false) ⟨ah,mem⟩):aW P fn R X W n (.bn (.region id l.toArray true)::k) ⟨ah,mem⟩:=mv cM hm bW .refl g
inductive Dz:List Nat→List (Nat×Nat)→Prop
 |nil:Dz [] []
 |c3 {i:Nat} {l:List Nat} {o:List (Nat×Nat)} (t:Dz l o):Dz ((i+300)::l) ((i,3)::o)
 |c2 {i:Nat} {l:List Nat} {o:List (Nat×Nat)} (t:Dz l o):Dz ((i+200)::l) ((i,2)::o)
 |c1 {i:Nat} {l:List Nat} {o:List (Nat×Nat)} (t:Dz l o):Dz ((i+100)::l) ((i,1)::o)
 |c0 {i:Nat} {l:List Nat} {o:List (Nat×Nat)} (t:Dz l o):Dz (i::l) ((i,0)::o)
theorem Dd(a:Nat){A:Prop}{id:Nat}{l:List Oper}{bK:List (Nat×Nat)}(cs:List Nat)(ho:Dz cs bK:=by repeat first|exact .nil|apply Dz.c3|apply Dz.c2|apply Dz.c1|apply Dz.c0)(hm:P.follows .mixedOrders=true:=by kernel_rfl)(bW:FQ l.toArray bK=true:=by kernel_rfl)(st:Sn a A (iK P fn R X W n k mem l.toArray bK bK ⟨ah,mem⟩):=by repeat first|exact Sn.z|(apply Sn.s;exact fun g=>rR g))(g:A):aW P fn R X W n (.bn (.region id l.toArray true)::k) ⟨ah,mem⟩:=ME bK hm bW .refl (st.go g)
end
theorem eL(l:List Nat){ah e:List (Nat×Value)}(h:Kp ah l e:=by repeat first|exact .nil|apply Kp.cons rfl):dF ah e:=h.sub
theorem dA(is:List Nat){m0 m cs:List an}(h:zX is m=some cs:=by exact rfl):ax (m0++m) cs:=(ax.sub (gR _ _)).trans (G_ h)
theorem Qw{fn:Func}{R:Ending→World→Prop}{X:Nat→Prop}{W:World}{n:Nat}{k:List K}{ah:List (Nat×Value)}{mem:List an}{o:Oper}{v:Value}{d:Nat}{all:Array Oper}{bu:List Oper}(hw:cY all ah o true)(h:Q1 prog X W n ⟨ah,mem⟩ o v:=by exact oh)(hd:o.dst=some d:=by exact rfl)(hdn:Nat.blt d n=true:=by exact rfl)(g:aW prog fn R X W n (.aq all bu::k) ⟨(d,v)::ah,mem⟩):aW prog fn R X W n (.aq all (o::bu)::k) ⟨ah,mem⟩:=dm hw hd hdn h g
theorem sW(S:St){P:Program}{fn:Func}{R:Ending→World→Prop}{X:Nat→Prop}{W:World}{n:Nat}{k:List K}(g:aW P fn R X W n k S):aW P fn R X W n k S:=g
theorem rS(S:St){ρ:Option Nat}{P:Program}{Qb:Exit→Act→World→Prop}{ds:List Deferred}{X:Nat→Prop}{W:World}{n:Nat}{k:List K}(g:RF ρ P Qb ds X W n k S):RF ρ P Qb ds X W n k S:=g
theorem rM{P:Program}{fn:Func}{R:Ending→World→Prop}{X:Nat→Prop}{W:World}{n:Nat}{k:List K}{ah:List (Nat×Value)}{m m':List an}(h:ax m m')(g:aW P fn R X W n k ⟨ah,m'⟩):aW P fn R X W n k ⟨ah,m⟩:=cG (ar .refl h) g
abbrev Iv(x:Int):Value:= .int .i64 x
theorem zY:Hr.Sz prog 3 1:=Hr.Sz.of (by kernel_rfl)
theorem o5:Hr.k9 prog 3:=⟨fun w=>by simp [isAgg,fk bZ],Hr.Sz.of (by kernel_rfl)⟩
theorem qd:prog.follows .mixedOrders=true:=by kernel_rfl
theorem Ha{bH bF cN eH gr j7 rT:Int}:prog.built 366 [(0,Iv bH),(1,Iv bF),(2,Iv cN),(3,Iv eH),(4,Iv gr),(5,Iv j7),(6,Iv rT)]=some #[Iv bH,Iv bF,Iv cN,Iv eH,Iv gr,Iv j7,Iv rT]:=by kernel_rfl
theorem KB:Hr.pC prog 164 2:=⟨fun w=>by simp [isAgg,fk underlying164],Hr.Sz.of (by kernel_rfl)⟩
theorem Et:prog.stoodInHeld 184=false:=by kernel_rfl
theorem Qo:prog.stoodInHeld 53=false:=by kernel_rfl
theorem QY{bH eH cN gr j7:Int}:prog.built 307 [(0,Iv bH),(3,Iv eH),(2,Iv cN),(4,Iv gr),(5,Iv j7)]=some #[Iv bH,Iv 0,Iv cN,Iv eH,Iv gr,Iv j7,Iv 0]:=by kernel_rfl
theorem HS:prog.built 53 []=some #[Iv 0,Iv 0]:=by kernel_rfl
theorem Q_:∀w,(zeroValue 4).run prog w= .ok (.bool false) w:=Hr.zJ (by kernel_rfl)
theorem Ro:prog.eqGuardType prog.depth 184=false:=by kernel_rfl
theorem H7:prog.built 307 []=some #[Iv 0,Iv 0,Iv 0,Iv 0,Iv 0,Iv 0,Iv 0]:=by kernel_rfl
theorem CI:∀w,(zeroValue 3).run prog w= .ok (Iv 0) w:=Hr.zJ (by kernel_rfl)
theorem E3:∀w,(zeroValue 171).run prog w= .ok (.agg #[Iv 0,Iv 0,Iv 0,Iv 0,Iv 0,.slice none 0 0,.slice none 0 0,Iv 0,Iv 0,Iv 0,.slice none 0 0,Iv 0,Iv 0,Iv 0,Iv 0,Iv 0,Iv 0,Iv 0]) w:=Hr.zJ (by kernel_rfl)
theorem kg{bH bF cN:Int}:prog.built 188 [(0,Iv bH),(1,Iv bF),(2,Iv cN)]=some #[Iv bH,Iv bF,Iv cN]:=by kernel_rfl
theorem KW{a0 a1 b0 b1:Int}(w:World):(Op.equalIn 10000 53 (.agg #[Iv a0,Iv a1]) (.agg #[Iv b0,Iv b1])).run prog w= .ok (a0==b0&&(a1==b1)) w:=by
 rw [ui w 9999 53 _ _ (by simp only [Program.fieldsOf,underlying53]) Qo];have hz:∀(x y:Int) (w:World),(Op.equalIn 9999 3 (Iv x) (Iv y)).run prog w= .ok (x==y) w:=fun x y w=>km w 9998 3 .i64 .i64 x y bZ;cases h0:(a0==b0)<;>cases h1:(a1==b1)<;>simp [Program.fieldsOf,underlying53,Op.eqFields,part,o5.1,hz,h0,h1]
theorem H6{a0 a1 a2 b0 b1 b2:Int}(w:World):(Op.equalIn 10000 184 (.agg #[Iv a0,Iv a1,Iv a2]) (.agg #[Iv b0,Iv b1,Iv b2])).run prog w= .ok (a0==b0&&(a1==b1&&(a2==b2))) w:=by
 rw [ui w 9999 184 _ _ (by simp only [Program.fieldsOf,xn]) Et];have hz:∀(x y:Int) (w:World),(Op.equalIn 9999 3 (Iv x) (Iv y)).run prog w= .ok (x==y) w:=fun x y w=>km w 9998 3 .i64 .i64 x y bZ;cases h0:(a0==b0)<;>cases h1:(a1==b1)<;>cases h2:(a2==b2)<;>simp [Program.fieldsOf,xn,Op.eqFields,part,o5.1,hz,h0,h1,h2]
end Go.Proofs.YtafaoccjbifbaaaGreat
