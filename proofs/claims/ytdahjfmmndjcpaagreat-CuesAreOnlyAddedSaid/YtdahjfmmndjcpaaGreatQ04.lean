/- Part. -/
import Derived.Test.YtdahjfmmndjcpaaGreatQ03
set_option linter.unusedSimpArgs false
set_option linter.unusedVariables false
set_option maxHeartbeats 40000000
set_option maxRecDepth 100000
namespace Go.Proofs.YtdahjfmmndjcpaaGreat
open Go Go.RowKit Hr Go.Proofs.Tryz
theorem oL(x:List Value):([x]:List (List Value))[0]?=some x:=rfl
inductive CN(cs:List (Nat×Value)):Nat→Nat→List Value→Prop where
 |nil {i:Nat}:CN cs i 0 []
 |cons {i s:Nat} {v:Value} {vs:List Value} (h:dj cs i=some v) (t:CN cs (i+1) s vs):CN cs i (s+1) (v::vs)
theorem CN.at{cs:List (Nat×Value)}{i s:Nat}{vs:List Value}(h:CN cs i s vs):lj cs i vs∧vs.length=s:=by
 induction h with
 |nil=>exact⟨.nil,rfl⟩
 |cons h _ ih=>exact⟨.cons h ih.1,by rw [fW,ih.2]⟩
theorem sZ{m l:List ak}{r:ak}(h:ag m r l:=by repeat first|exact ag.ao|apply ag.aj):ag m r l:=h
theorem wA{all:Array Oper}{ah:List (Nat×Value)}{o:Oper}(h:cW all ah o true:=by first|exact .none rfl|exact .on rfl rfl rfl rfl|exact .on rfl rfl rfl (by assumption)):cW all ah o true:=h
theorem fA{all:Array Oper}{ah:List (Nat×Value)}{o:Oper}(h:cW all ah o false:=by first|exact .no rfl rfl rfl rfl|exact .off rfl rfl rfl|exact .no rfl rfl rfl (by assumption)):cW all ah o false:=h
theorem wZ{all:Array Oper}{ah:List (Nat×Value)}{o:Oper}(h:cW all ah o true:=by first|exact .none rfl|exact .on rfl rfl rfl rfl|exact .on rfl rfl rfl (by assumption)|exact .on rfl rfl rfl (by first|exact cn (by omega)|exact dz (by omega)|exact ku.2 (by omega)|exact lF.2 (by omega))):cW all ah o true:=h
theorem fZ{all:Array Oper}{ah:List (Nat×Value)}{o:Oper}(h:cW all ah o false:=by first|exact .no rfl rfl rfl rfl|exact .off rfl rfl rfl|exact .no rfl rfl rfl (by assumption)|exact .no rfl rfl rfl (by first|exact cn (by omega)|exact dz (by omega)|exact ku.2 (by omega)|exact lF.2 (by omega))):cW all ah o false:=h
theorem wP{all:Array Oper}{ah:List (Nat×Value)}{o:Oper}{α:Type}{l:List α}(h:l≠ [])(g:0<l.length→cW all ah o true:=by intro _;exact .on rfl rfl rfl (dz (by omega))):cW all ah o true:=g (eD.2 h)
section
variable{X:Nat→Prop}{W:World}{n:Nat}{S:St}{o:Oper}{t u f b i d:Nat}{x y z:Operand}{v:Value}{ds:Option Nat}{ty:Nat}{po:String}{af:Array Edge}{gd:Option (Nat×Bool)}
theorem alm(ho:o.op= .fieldAddr t x f)(hx:ev S.ah x=some v)(hv:v= .pointer (some ⟨b,i,none⟩))(hf:Nat.blt f 64=true)(hl:lk Mr (t*64+f)=some d):Q1 prog X W n S o (.pointer (some ⟨b,i+d,none⟩)):=by
 obtain⟨fs,y,s,h1,h2,rfl,h4⟩:=Zo (by simpa [Nat.blt_eq]using hf) hl
 exact kO ho h1 (hv▸hx) h2 h4 rfl
theorem my{a:Addr}(ho:o.op= .fieldAddr t x f)(hx:ev S.ah x=some (.pointer (some a)))(hf:Nat.blt f 64=true)(hl:lk Mr (t*64+f)=some d):Q1 prog X W n S o (.pointer (some (a.add d))):=by
 obtain⟨fs,y,s,h1,h2,rfl,h4⟩:=Zo (by simpa [Nat.blt_eq]using hf) hl
 exact aeo ho h1 hx h2 h4 rfl
theorem aln{b i:Nat}{tb:TypeId}{cs:List (Nat×Value)}{l:List ak}{u v:Value}{P:Program}(ho:o.op= .load t x)(ht:f_ P t)(hx:ev S.ah x=some u)(hu:u= .pointer (some ⟨b,i,none⟩))(hs:ag S.mem (.ai b tb cs) l)(hv:dj cs i=some v):Q1 P X W n S o v:=
 pR ho ht (hu▸hx) hs hv
theorem alo{s:Nat}{tb:TypeId}{cs:List (Nat×Value)}{l:List ak}{vs:List Value}{P:Program}{u:Value}(ho:o.op= .load t x)(ht:iE P t s)(hx:ev S.ah x=some u)(hu:u= .pointer (some ⟨b,i,none⟩))(hs:ag S.mem (.ai b tb cs) l)(hv:CN cs i s vs):Q1 P X W n S o (.agg vs.toArray):=
 Gy ho ht (hu▸hx) hs hv.at.1 hv.at.2
variable{P:Program}{w:Value}
theorem alp(h:Q1 P X W n S ⟨ds,.move x,ty,po,af,gd⟩ w):Q1 P X W n S ⟨ds,.move x,ty,po,af,gd⟩ w:=h
theorem alq(h:Q1 P X W n S ⟨ds,.assign x,ty,po,af,gd⟩ w):Q1 P X W n S ⟨ds,.assign x,ty,po,af,gd⟩ w:=h
theorem alr(h:Q1 P X W n S ⟨ds,.load t x,ty,po,af,gd⟩ w):Q1 P X W n S ⟨ds,.load t x,ty,po,af,gd⟩ w:=h
theorem als(h:Q1 P X W n S ⟨ds,.fieldAddr t x f,ty,po,af,gd⟩ w):Q1 P X W n S ⟨ds,.fieldAddr t x f,ty,po,af,gd⟩ w:=h
theorem alu(h:Q1 P X W n S ⟨ds,.pick x y z,ty,po,af,gd⟩ w):Q1 P X W n S ⟨ds,.pick x y z,ty,po,af,gd⟩ w:=h
theorem alv{k:BinOp}(h:Q1 P X W n S ⟨ds,.binOp k t x y u,ty,po,af,gd⟩ w):Q1 P X W n S ⟨ds,.binOp k t x y u,ty,po,af,gd⟩ w:=h
theorem oN(h:Q1 prog X W n S o v:=by
 first
 |((with_reducible apply alp);exact qE rfl rfl)
 |((with_reducible apply alq);exact oo rfl rfl)
 |((with_reducible apply alr);first|exact aln rfl (Zl rfl rfl) rfl (by with_reducible rfl) sZ rfl|exact alo rfl (Zm rfl rfl) rfl (by with_reducible rfl) sZ (by repeat first|exact .nil|apply CN.cons rfl))
 |((with_reducible apply als);first|exact alm rfl rfl (by with_reducible rfl) rfl rfl|exact my rfl rfl rfl rfl)
 |((with_reducible apply alv);first|exact aej rfl rfl rfl|exact D5 rfl rfl rfl (by omega)|exact Kf rfl rfl rfl (by omega)|exact NZ rfl rfl rfl|exact N0 rfl rfl rfl|exact ael rfl rfl rfl|exact aek rfl rfl rfl|exact aem rfl rfl rfl|exact Kg rfl rfl rfl (by omega))
 |((with_reducible apply alu);first|exact df rfl rfl rfl rfl|exact jx rfl rfl rfl rfl|exact df rfl rfl (by assumption) rfl|exact jx rfl rfl (by assumption) rfl)
 |exact NY rfl rfl rfl|exact aen rfl rfl|exact Uf rfl (Zn rfl) rfl|exact Ud rfl rfl):Q1 prog X W n S o v:=h
end
section
variable{P:Program}{fn:Func}{R:Ending→World→Prop}{X:Nat→Prop}{W:World}{n:Nat}{k:List K}{S:St}{all:Array Oper}{o:Oper}{r:List Oper}{M0:List ak}{an:Array Oper}{bJ rd:List (Nat×Nat)}{a:Nat×Nat}{id:Nat}{c:Operand}{p q:Code}
theorem Zp(h:bj P fn R X W n (.an all (o::r)::k) S):bj P fn R X W n (.an all (o::r)::k) S:=h
theorem alw{i:Nat}(h:iM P fn R X W n k M0 an bJ ((i,0)::rd) S):iM P fn R X W n k M0 an bJ ((i,0)::rd) S:=h
theorem alx{i:Nat}(h:iM P fn R X W n k M0 an bJ ((i,2)::rd) S):iM P fn R X W n k M0 an bJ ((i,2)::rd) S:=h
theorem Q7{i d:Nat}{ah:List (Nat×Value)}{mem:List ak}{v:Value}{op:Op}{ty:Nat}{po:String}{af:Array Edge}{gd:Option (Nat×Bool)}(hi:an[i]?=some ⟨some d,op,ty,po,af,gd⟩)(ht:jN bJ i=0)(hw:cW an ah ⟨some d,op,ty,po,af,gd⟩ true)(hdn:Nat.blt d n=true)(h:Q1 P X W n ⟨ah,M0⟩ ⟨some d,op,ty,po,af,gd⟩ v)
  (hk:iM P fn R X W n k M0 an bJ rd ⟨(d,v)::ah,mem⟩):iM P fn R X W n k M0 an bJ ((i,0)::rd) ⟨ah,mem⟩:=rA hi ht hw rfl hdn h hk
theorem aly(h:bj P fn R X W n (.bq (.exit id)::k) S):bj P fn R X W n (.bq (.exit id)::k) S:=h
theorem alz(h:bj P fn R X W n (.bq (.cond c p q)::k) S):bj P fn R X W n (.bq (.cond c p q)::k) S:=h
end
section
variable{ρ:Option Nat}{P:Program}{Qb:Exit→Act→World→Prop}{ds:List Deferred}{fn:Func}{R:Ending→World→Prop}{X:Nat→Prop}{W:World}{n:Nat}{k:List K}{S:St}{all:Array Oper}{o:Oper}{r:List Oper}{M0:List ak}{an:Array Oper}{bJ rd:List (Nat×Nat)}{a:Nat×Nat}{id:Nat}{c:Operand}{p q:Code}
theorem alA(h:RF ρ P Qb ds X W n (.an all (o::r)::k) S):RF ρ P Qb ds X W n (.an all (o::r)::k) S:=h
theorem alB(h:RF ρ P Qb ds X W n (.bq (.exit id)::k) S):RF ρ P Qb ds X W n (.bq (.exit id)::k) S:=h
theorem alC(h:RF ρ P Qb ds X W n (.bq (.cond c p q)::k) S):RF ρ P Qb ds X W n (.bq (.cond c p q)::k) S:=h
theorem alD{i:Nat}(h:mj P fn R X W n k M0 an bJ ((i,0)::rd) S):mj P fn R X W n k M0 an bJ ((i,0)::rd) S:=h
theorem alE{i:Nat}(h:mj P fn R X W n k M0 an bJ ((i,2)::rd) S):mj P fn R X W n k M0 an bJ ((i,2)::rd) S:=h
theorem Q8{i d:Nat}{ah:List (Nat×Value)}{mem:List ak}{v:Value}{op:Op}{ty:Nat}{po:String}{af:Array Edge}{gd:Option (Nat×Bool)}(hi:an[i]?=some ⟨some d,op,ty,po,af,gd⟩)(ht:jN bJ i=0)(hw:cW an ah ⟨some d,op,ty,po,af,gd⟩ true)(hdn:Nat.blt d n=true)(h:Q1 P X W n ⟨ah,M0⟩ ⟨some d,op,ty,po,af,gd⟩ v)
  (hk:mj P fn R X W n k M0 an bJ rd ⟨(d,v)::ah,mem⟩):mj P fn R X W n k M0 an bJ ((i,0)::rd) ⟨ah,mem⟩:=U9 hi ht hw rfl hdn h hk
end
theorem r6{A B:Prop}(g:A)(h:A→B:=by
 first
 |with_reducible exact aee|with_reducible exact aed|with_reducible exact ad4|with_reducible exact ad7|with_reducible exact ad5|with_reducible exact ad6|with_reducible exact ad9|with_reducible exact aeP
 |(intro g;(with_reducible apply Zp);first|exact dr (.none rfl) rfl rfl oN g|exact uO (.none rfl) (cC rfl rfl (xp rfl) rfl rfl rfl rfl rfl sZ rfl) fun _ _=>g|exact tI fA rfl rfl g|exact dr wA rfl rfl oN g|exact tI fZ rfl rfl g|exact dr wZ rfl rfl oN g|exact uO wZ (cC rfl rfl (xp rfl) rfl rfl rfl rfl rfl sZ rfl) fun _ _=>g)
 |(intro g;(with_reducible apply alw);first|exact Q7 rfl rfl (.none rfl) rfl oN g|exact UB rfl rfl fA rfl rfl g|exact Q7 rfl rfl wA rfl oN g|exact UB rfl rfl fZ rfl rfl g|exact Q7 rfl rfl wZ rfl oN g)
 |(intro g;(with_reducible apply alx);exact UD rfl rfl wZ (cC rfl rfl (xp rfl) rfl rfl rfl rfl rfl sZ rfl) fun _ _=>g)
 |(intro g;(with_reducible apply alD);first|exact Q8 rfl rfl (.none rfl) rfl oN g|exact U_ rfl rfl fA rfl rfl g|exact Q8 rfl rfl wA rfl oN g|exact U_ rfl rfl fZ rfl rfl g|exact Q8 rfl rfl wZ rfl oN g)
 |(intro g;(with_reducible apply alE);exact Va rfl rfl wZ (cC rfl rfl (xp rfl) rfl rfl rfl rfl rfl sZ rfl) fun _ _=>g)
 |with_reducible exact afc|with_reducible exact ag5|with_reducible exact ag4|with_reducible exact agX|with_reducible exact ag0|with_reducible exact agY|with_reducible exact agZ
 |(intro g;(with_reducible apply alA);first|exact cE (.none rfl) rfl rfl oN g|exact fw (.none rfl) (cC rfl rfl (xp rfl) rfl rfl rfl rfl rfl sZ rfl) fun _ _=>g|exact Wr fA rfl rfl g|exact cE wA rfl rfl oN g|exact Wr fZ rfl rfl g|exact cE wZ rfl rfl oN g)
 |(intro g;(with_reducible apply alB);exact ag1 rfl g)|(intro g;(with_reducible apply alC);first|exact ag3 rfl rfl g|exact ag2 rfl rfl g)
 |(intro g;(with_reducible apply aly);exact ad8 rfl g)|(intro g;(with_reducible apply alz);first|exact dB rfl rfl g|exact pP rfl rfl g|exact dB rfl (cn (by omega)) g|exact dB rfl (ku.2 (by omega)) g)
 |(intro g;(apply Zp);first|exact dr (.none rfl) rfl rfl oN g|exact uO (.none rfl) (cC rfl rfl (xp rfl) rfl rfl rfl rfl rfl sZ rfl) fun _ _=>g|exact tI fA rfl rfl g|exact dr wA rfl rfl oN g|exact tI fZ rfl rfl g|exact dr wZ rfl rfl oN g|exact uO wZ (cC rfl rfl (xp rfl) rfl rfl rfl rfl rfl sZ rfl) fun _ _=>g)):B:=h g
inductive Sn:Nat→Prop→Prop→Prop
 |z {A:Prop}:Sn 0 A A
 |s {n:Nat} {A B C:Prop} (h:C→B) (t:Sn n A C):Sn (n+1) A B
theorem Sn.go{n:Nat}{A B:Prop}(h:Sn n A B)(g:A):B:=by
 induction h with
 |z=>exact g
 |s h _ ih=>exact h (ih g)
theorem ab(n:Nat){A B:Prop}(h:Sn n A B:=by repeat first|exact Sn.z|(apply Sn.s;exact fun g=>r6 g))(g:A):B:=h.go g
inductive Kp(ah:List (Nat×Value)):List Nat→List (Nat×Value)→Prop where
 |nil:Kp ah [] []
 |cons {s:Nat} {v:Value} {l:List Nat} {e:List (Nat×Value)} (h:dj ah s=some v) (t:Kp ah l e):Kp ah (s::l) ((s,v)::e)
theorem Kp.sub{ah e:List (Nat×Value)}{l:List Nat}(h:Kp ah l e):dR ah e:=by
 induction h with
 |nil=>exact .nil
 |cons h _ ih=>exact .cons h ih
theorem kp(n:Nat){P:Program}{fn:Func}{R:Ending→World→Prop}{X:Nat→Prop}{W:World}{N:Nat}{k:List K}{ah e:List (Nat×Value)}{m:List ak}{A:Prop}(l:List Nat)
  (h:Kp ah l e:=by repeat first|exact .nil|apply Kp.cons rfl)(t:Sn n A (bj P fn R X W N k ⟨e,m⟩):=by repeat first|exact Sn.z|(apply Sn.s;exact fun g=>r6 g))(g:A):bj P fn R X W N k ⟨ah,m⟩:=eh (au h.sub .refl) (t.go g)
theorem td{p q:Prop}(h:p)(e:p→q:=by
 intro h;(try simp only [iK,wj,jr,ku,tD,lF,Ka,Kb,ne_eq,Int.not_lt,Int.not_le,Gh]at h);exact h):q:=e h
theorem vZ{ah:List (Nat×Value)}{xs:List (Nat×Operand)}{vs:List (Nat×Value)}(h:PV ah xs vs:=by repeat first|exact PV.nil|apply PV.cons rfl):PV ah xs vs:=h
theorem pZ{ah:List (Nat×Value)}{s i:Nat}{xs:List (Nat×Operand)}{vs:List Value}(h:uT ah s i xs vs:=by repeat first|exact uT.nil|(apply uT.cons;exact rfl;exact rfl;exact rfl;exact rfl)):uT ah s i xs vs:=h
theorem cZ{cs:List (Nat×Value)}{i:Nat}{vs:List Value}(h:lj cs i vs:=by repeat first|exact lj.nil|apply lj.cons rfl):lj cs i vs:=h
theorem nZ{ah e:List (Nat×Value)}(h:dR ah e:=by repeat first|exact dR.nil|exact dR.refl|refine dR.cons rfl ?_|refine dR.aF rfl (aO (by omega)) ?_):dR ah e:=h
theorem alF{m l l':List ak}{b:Nat}{t:TypeId}{cs x4:List (Nat×Value)}(hs:ag m (.ai b t cs) l)(he:dR cs x4)(hl:ar l l'):ar m (.ai b t x4::l'):= .cons hs (.ai he) hl
theorem mZ{m m':List ak}(h:ar m m':=by repeat first|exact ar.nil|exact ar.refl|refine ar.cons sZ cN.refl ?_|(apply alF;exact sZ;exact nZ)):ar m m':=h
theorem kZ{f:FuncId}(h:eG prog f:=by intro a w;kernel_rfl):eG prog f:=h
theorem zS{t s:Nat}(h:lk CY t=some s:=by exact rfl):Sz prog t s:=xp h
theorem zO{t:Nat}(h:lk Fm t=some false:=by exact rfl)(g:lk CY t=some 1:=by exact rfl):f_ prog t:=Zl h g
theorem zA{t s:Nat}(h:lk Fm t=some true:=by exact rfl)(g:lk CY t=some s:=by exact rfl):iE prog t s:=Zm h g
theorem zI{t:Nat}{zs:List Value}{s b:Nat}(h:lk Ms t=some (zs,s,b):=by exact rfl):tK prog t zs s b:=ifF h
theorem zU{t e:Nat}(h:lk Q6 t=some e:=by exact rfl):prog.underlying t=some (.slice e):=Zn h
theorem xZ{P:Program}(h:P.follows .mixedOrders=true:=by kernel_rfl):P.follows .mixedOrders=true:=h
def Ik(ah:List (Nat×Value)):List Operand→Option (List Value)
 | []=>some []
 |x::xs=>match ev ah x with
  |some v=>match Ik ah xs with
   |some vs=>some (v::vs)
   |none=>none
  |none=>none
theorem bf{ah:List (Nat×Value)}:∀{xs:List Operand} {vs:List Value},Ik ah xs=some vs→kv ah xs vs
 | [],_,h=>by cases h;exact .nil
 |x::xs,vs,h=>by
  unfold Ik at h
  cases hx:ev ah x with
  |none=>rw [hx]at h;cases h
  |some v=>
   cases hs:Ik ah xs with
   |none=>rw [hx,hs]at h;cases h
   |some us=>rw [hx,hs]at h;cases h;exact .cons hx (bf hs)
def Il(ah:List (Nat×Value))(o:Oper):Option (FuncId×List Value):=match o.op with
 | .call c=>match c.callee with
  | .value (.func f)=>match Ik ah c.args.toList with
   |some vs=>some (f,vs)
   |none=>none
  |_=>none
 |_=>none
theorem Q9{ah:List (Nat×Value)}{o:Oper}{f:FuncId}{vs:List Value}(h:Il ah o=some (f,vs)):∃xs ts,o.op= .call {callee:= .value (.func f),args:=List.toArray xs,argTypes:=ts}∧kv ah xs vs:=by
 unfold Il at h
 split at h
 ·rename_i c hc
  split at h
  ·rename_i g hg
   split at h
   ·rename_i us hu
    cases h
    obtain⟨ca,xs,ts⟩:=c
    dsimp only at hg hu
    subst hg
    exact⟨xs.toList,ts,by rw [hc],bf hu⟩
   ·cases h
  ·cases h
 ·cases h
def yW:Nat→List ak→Option (ak×List ak)
 |_, []=>none
 |0,r::l=>some (r,l)
 |i+1,r::l=>match yW i l with
  |some (x,l')=>some (x,r::l')
  |none=>none
theorem Mt:∀{i:Nat} {m l:List ak} {r:ak},yW i m=some (r,l)→ag m r l
 |0,r::m,_,_,h=>by cases h;exact .ao
 |i+1,s::m,l,r,h=>by
  unfold yW at h
  cases ht:yW i m with
  |none=>rw [ht]at h;cases h
  |some p=>rw [ht]at h;obtain⟨x,l'⟩:=p;cases h;exact .aj (Mt ht)
def Im:List Nat→List ak→Option (List ak×List ak)
 | [],m=>some ([],m)
 |i::is,m=>match yW i m with
  |some (r,l)=>match Im is l with
   |some (cs,ls)=>some (r::cs,ls)
   |none=>none
  |none=>none
theorem Mu:∀{is:List Nat} {m cs ls:List ak},Im is m=some (cs,ls)→m.Perm (cs++ls)
 | [],m,_,_,h=>by cases h;exact .refl _
 |i::is,m,cs,ls,h=>by
  unfold Im at h
  cases ht:yW i m with
  |none=>rw [ht]at h;cases h
  |some p=>
   obtain⟨r,l⟩:=p
   rw [ht]at h
   dsimp only at h
   cases hp:Im is l with
   |none=>rw [hp]at h;cases h
   |some q=>
    obtain⟨x4,gu⟩:=q
    rw [hp]at h;cases h
    exact((Mt ht).aR).trans (.cons _ (Mu hp))
theorem iZ(i:Nat){m l:List ak}{r:ak}(h:yW i m=some (r,l):=by exact rfl):ag m r l:=Mt h
section
variable{P:Program}{fn:Func}{R:Ending→World→Prop}{X:Nat→Prop}{W:World}{n:Nat}{k:List K}{S:St}{ah:List (Nat×Value)}{mem:List ak}{o:Oper}{f:FuncId}{vs:List Value}{v:Value}{d:Nat}{Φ:Value→List ak→Prop}
theorem Qc(h:Il S.ah o=some (f,vs))(hc:∀w,aU X W w→Mem X W S.mem w→Calls prog f vs.toArray w (aK w v))(hf:eG prog f:=by exact kZ):Q1 prog X W n S o v:=by
 obtain⟨xs,ts,h1,h2⟩:=Q9 h
 exact x6 h1 hf h2 hc
theorem Hc(h:Il ah o=some (f,vs))(hc:∀w,aU X W w→Mem X W mem w→Calls prog f vs.toArray w (bK w nX Φ))(hf:eG prog f:=by exact kZ)(hd:o.dst=some d:=by exact rfl)(hdn:Nat.blt d n=true:=by exact rfl):
  H1 prog X W n ⟨ah,mem⟩ o (fun i:Value×List ak=>Φ i.1 i.2) (fun i=>⟨(d,i.1)::ah,i.2++mem⟩):=by
 obtain⟨xs,ts,h1,h2⟩:=Q9 h
 exact ru h1 hd hdn hf h2 hc
theorem Hx(is:List Nat){cs ls:List ak}(h:Il ah o=some (f,vs))(hp:Im is mem=some (cs,ls))(hc:∀w,aU X W w→Mem X W mem w→Mem X W (cs++ls) w→Mem (aX cs) w cs w→Calls prog f vs.toArray w (bK w (aX cs) Φ))(hf:eG prog f:=by exact kZ)(hd:o.dst=some d:=by exact rfl)(hdn:Nat.blt d n=true:=by exact rfl):
  H1 prog X W n ⟨ah,mem⟩ o (fun i:Value×List ak=>Φ i.1 i.2) (fun i=>⟨(d,i.1)::ah,i.2++ls⟩):=by
 obtain⟨xs,ts,h1,h2⟩:=Q9 h
 exact o0 (Y:=fun _=>aX cs) cs ls h1 hd hdn hf h2 (Mu hp) (fun _ _ h=>h) (fun w hk hm=>hc w hk hm (hm.aR (Mu hp)) (hm.aR (Mu hp)).fQ)
def Io(ah:List (Nat×Value))(o:Oper):Option (TypeId×Addr):=match o.op with
 | .load t x=>match ev ah x with
  |some (.pointer (some a))=>some (t,a)
  |_=>none
 |_=>none
theorem Q_{ah:List (Nat×Value)}{o:Oper}{t:TypeId}{a:Addr}(h:Io ah o=some (t,a)):∃x,o.op= .load t x∧ev ah x=some (.pointer (some a)):=by
 unfold Io at h
 split at h
 ·rename_i u x hx
  split at h
  ·rename_i b hb;cases h;exact⟨x,hx,hb⟩
  ·cases h
 ·cases h
def Ra(ah:List (Nat×Value))(o:Oper):Option (TypeId×Option Addr×Nat×Nat×IntKind×Int):=match o.op with
 | .indexAddr t x y=>match ev ah x,ev ah y with
  |some (.slice A m c),some (.int k i)=>some (t,A,m,c,k,i)
  |_,_=>none
 |_=>none
theorem alG{ah:List (Nat×Value)}{o:Oper}{t:TypeId}{A:Option Addr}{m c:Nat}{k:IntKind}{i:Int}(h:Ra ah o=some (t,A,m,c,k,i)):∃x y,o.op= .indexAddr t x y∧ev ah x=some (.slice A m c)∧ev ah y=some (.int k i):=by
 unfold Ra at h
 split at h
 ·rename_i u x y hx
  split at h
  ·rename_i h1 h2;cases h;exact⟨x,y,hx,h1,h2⟩
  ·cases h
 ·cases h
section
variable{t e:TypeId}{x y:Operand}{A:Option Addr}{sz m c:Nat}{ik:IntKind}{ix:Int}{ls:List (List Value)}
theorem Qi(q:Nat)(ho:Ra S.ah o=some (t,A,m,c,ik,ix))(hr:ie X W S A sz ls)(ht:prog.underlying t=some (.slice e):=by exact zU)(hs:Sz prog e sz:=by exact zS)(hl:ls.length=m:=by first|rfl|(simp;done)|(simp<;>omega))(hi:ix=(q:Int):=by first|rfl|omega)(hq:q<m:=by omega):
  Q1 prog X W n S o (.pointer (some ((bI A).add (q*sz)))):=by
 obtain⟨x,y,h1,h2,h3⟩:=alG ho
 exact nC h1 ht hs h2 h3 hr hl hi hq
variable{q:Nat}{us:List Value}{u:Value}{s:Nat}
theorem Qe(ho:Io S.ah o=some (t,(bI A).add (q*sz)))(hr:ie X W S A sz ls)(hq:ls[q]?=some us:=by exact bX (by omega))(ht:iE prog t s:=by exact zA)(hl:us.length=s:=by exact rfl):Q1 prog X W n S o (.agg us.toArray):=by
 obtain⟨x,h1,h2⟩:=Q_ ho
 exact Kh h1 ht h2 hr hq hl
theorem Qk(ho:Io S.ah o=some (t,(bI A).add (q*sz)))(hr:ie X W S A sz ls)(hq:ls[q]?=some [u]:=by exact bX (by omega))(ht:f_ prog t:=by exact zO):Q1 prog X W n S o u:=by
 obtain⟨x,h1,h2⟩:=Q_ ho
 exact gV h1 ht h2 hr hq
theorem Qf{d:Nat}(ho:Io S.ah o=some (t,((bI A).add (q*sz)).add d))(hr:ie X W S A sz ls)(hq:ls[q]?=some us:=by exact bX (by omega))(ht:f_ prog t:=by exact zO)(hl:us[d]?=some u:=by exact rfl):Q1 prog X W n S o u:=by
 obtain⟨x,h1,h2⟩:=Q_ ho
 exact kP h1 ht h2 hr hq hl
end
variable{A:Prop}{all:Array Oper}{aQ:List Oper}{ι:Type}{φ:ι→Prop}{next:ι→St}
theorem Qq(a:Nat)(h:Q1 P X W n ⟨ah,mem⟩ o v)(g:A)(hw:cW all ah o true:=by exact wZ)(hd:o.dst=some d:=by exact rfl)(hdn:Nat.blt d n=true:=by exact rfl)(t:Sn a A (bj P fn R X W n (.an all aQ::k) ⟨(d,v)::ah,mem⟩):=by repeat first|exact Sn.z|(apply Sn.s;exact fun g=>r6 g)):bj P fn R X W n (.an all (o::aQ)::k) ⟨ah,mem⟩:=dr hw hd hdn h (t.go g)
theorem Hh(h:H1 P X W n ⟨ah,mem⟩ o φ next)(g:∀i,φ i→bj P fn R X W n (.an all aQ::k) (next i))(hw:cW all ah o true:=by exact wZ):bj P fn R X W n (.an all (o::aQ)::k) ⟨ah,mem⟩:=uO hw h g
theorem Nw(a:Nat){next:Nat→St}{A:Nat→Prop}(g:∀b,A b)(h:H1 prog X W n ⟨ah,mem⟩ o (fun _:Nat=>True) next:=by first|exact wx rfl rfl rfl rfl rfl|exact dU rfl rfl rfl zI|exact dV rfl rfl rfl zU zI pZ rfl (by omega))(hw:cW all ah o true:=by exact wZ)
  (t:∀b,Sn a (A b) (bj prog fn R X W n (.an all aQ::k) (next b)):=by intro b;repeat first|exact Sn.z|(apply Sn.s;exact fun g=>r6 g)):bj prog fn R X W n (.an all (o::aQ)::k) ⟨ah,mem⟩:=uO hw h fun b _=>(t b).go (g b)
theorem Ag{fm:ι→St}{μ:ι→Nat}{m:Nat}{q:Prop}(i:ι)(g:q)(hq:q→φ i:=by intro h;(try dsimp only)<;>exact h)(hs:uM X W n S (fm i):=by exact au nZ mZ)(hm:μ i<m:=by(try dsimp only);omega):bj P fn R X W n (.stop (oW X W n φ fm μ m)::k) S:=uN i (hq g) hm hs
theorem Ap{fm:ι→St}{q:Prop}(i:ι)(g:q)(hq:q→φ i:=by intro h;(try dsimp only)<;>exact h)(hs:uM X W n S (fm i):=by exact au nZ mZ):bj P fn R X W n (.stop (x0 X W n φ fm)::k) S:=jK i (hq g) hs
end
def AY:List Nat→List ak→Option (List ak)
 | [],_=>some []
 |i::is,m=>match yW i m with
  |some (r,l)=>match AY is l with
   |some cs=>some (r::cs)
   |none=>none
  |none=>none
theorem Ip:∀{is:List Nat} {m cs:List ak},AY is m=some cs→ar m cs
 | [],m,_,h=>by cases h;exact .nil
 |i::is,m,cs,h=>by
  unfold AY at h
  cases ht:yW i m with
  |none=>rw [ht]at h;cases h
  |some p=>
   obtain⟨r,l⟩:=p
   rw [ht]at h
   dsimp only at h
   cases hp:AY is l with
   |none=>rw [hp]at h;cases h
   |some q=>rw [hp]at h;cases h;exact .cons (Mt ht) .refl (Ip hp)
theorem dZ(is:List Nat){m cs:List ak}(h:AY is m=some cs:=by exact rfl):ar m cs:=Ip h
section
variable{P:Program}{fn:Func}{R:Ending→World→Prop}{X:Nat→Prop}{W:World}{N:Nat}{k:List K}{ah e:List (Nat×Value)}{m cs:List ak}{A:Prop}
theorem Ks(n:Nat)(l is:List Nat)(h:Kp ah l e:=by repeat first|exact .nil|apply Kp.cons rfl)(hm:AY is m=some cs:=by exact rfl)(t:Sn n A (bj P fn R X W N k ⟨e,cs⟩):=by repeat first|exact Sn.z|(apply Sn.s;exact fun g=>r6 g))(g:A):bj P fn R X W N k ⟨ah,m⟩:=eh (au h.sub (Ip hm)) (t.go g)
theorem Km(n:Nat)(is:List Nat)(hm:AY is m=some cs:=by exact rfl)(t:Sn n A (bj P fn R X W N k ⟨ah,cs⟩):=by repeat first|exact Sn.z|(apply Sn.s;exact fun g=>r6 g))(g:A):bj P fn R X W N k ⟨ah,m⟩:=eh (au .refl (Ip hm)) (t.go g)
theorem Cd(a:Nat){B:Prop}{c:Operand}{x y:Code}{b:Bool}{S:St}{p q:Prop}(st:Sn a (bj P fn R X W N (.bq (.cond c x y)::k) S) B:=by repeat first|exact Sn.z|(apply Sn.s;exact fun g=>r6 g))(hc:ev S.ah c=some (.bool b):=by exact rfl)(e1:b=true→p:=by intro h;(try simp only [iK,wj,jr,ku,tD,lF,Ka,Kb,ne_eq,Int.not_lt,Int.not_le,Gh]at h);exact h)(e2:b=false→q:=by intro h;(try simp only [iK,wj,jr,ku,tD,lF,Ka,Kb,ne_eq,Int.not_lt,Int.not_le,Gh]at h);exact h)
  (h1:p→b=true→bj P fn R X W N (.bq x::k) S)(h2:q→b=false→bj P fn R X W N (.bq y::k) S):B:=st.go (aeb hc (fun h=>h1 (e1 h) h) (fun h=>h2 (e2 h) h))
theorem Sd(a:Nat)(u:Tmp){B:Prop}{b:Bool}{S:St}{p q:Prop}(st:Sn a (bj P fn R X W N k S) B:=by repeat first|exact Sn.z|(apply Sn.s;exact fun g=>r6 g))(hc:dj S.ah u=some (.bool b):=by exact rfl)(e1:b=true→p:=by intro h;(try simp only [iK,wj,jr,ku,tD,lF,Ka,Kb,ne_eq,Int.not_lt,Int.not_le,Gh]at h);exact h)(e2:b=false→q:=by intro h;(try simp only [iK,wj,jr,ku,tD,lF,Ka,Kb,ne_eq,Int.not_lt,Int.not_le,Gh]at h);exact h)
  (h1:p→b=true→bj P fn R X W N k S)(h2:q→b=false→bj P fn R X W N k S):B:=st.go (aec u hc (fun h=>h1 (e1 h) h) (fun h=>h2 (e2 h) h))
theorem Ea{f:FuncId}{vs:List Value}{c:Code}{ms:List ak}(hf:P.funcs[f]?=some fn)(hn:fn.ntmps=N)(hm:Mem X W ms W)(g:bj P fn R X W N [.bq c] ⟨bm 0 vs,ms⟩)(hb:fn.body=some c:=by exact rfl)(hz:Nat.ble vs.length N=true:=by exact rfl):Calls P f vs.toArray W R:=Od hf hn hb hz hm g
theorem En(a:Nat){A:Prop}{f:FuncId}{vs:List Value}{c:Code}(hf:P.funcs[f]?=some fn)(hn:fn.ntmps=N)(hb:fn.body=some c:=by exact rfl)(hz:Nat.ble vs.length N=true:=by exact rfl)(st:Sn a A (bj P fn R nX W N [.bq c] ⟨bm 0 vs, []⟩):=by repeat first|exact Sn.z|(apply Sn.s;exact fun g=>r6 g))(g:A):Calls P f vs.toArray W R:=Od hf hn hb hz Mem.nil (st.go g)
theorem Ej(a:Nat){A:Prop}{f:FuncId}{vs:List Value}{c:Code}{v:Value}(hf:P.funcs[f]?=some fn)(hn:fn.ntmps=N)(hb:fn.body=some c:=by exact rfl)(hz:Nat.ble vs.length N=true:=by exact rfl)(st:Sn a A (bj P fn (bK W nX fun u _=>u=v) nX W N [.bq c] ⟨bm 0 vs, []⟩):=by repeat first|exact Sn.z|(apply Sn.s;exact fun g=>r6 g))(g:A):Calls P f vs.toArray W (aK W v):=aK.Uc (Od hf hn hb hz Mem.nil (st.go g))
end
theorem alH{P:Program}{a:Tmp}{T tb:TypeId}{b i:Nat}{ah cs:List (Nat×Value)}{mem l:List ak}{u:Value}{rs:List ResultVar}{vs:List Value}(h:dj ah a=some (.pointer (some ⟨b,i,none⟩)))(ht:f_ P T)(hs:ag mem (.ai b tb cs) l)(hv:dj cs i=some u)(r:mC P ah mem rs vs):mC P ah mem (.cell a T::rs) (u::vs):= .Uq h ht hs hv r
theorem alI{P:Program}{a:Tmp}{T tb:TypeId}{b i s:Nat}{ah cs:List (Nat×Value)}{mem l:List ak}{us:List Value}{rs:List ResultVar}{vs:List Value}(h:dj ah a=some (.pointer (some ⟨b,i,none⟩)))(ht:iE P T s)(hs:ag mem (.ai b tb cs) l)(hv:CN cs i s us)(r:mC P ah mem rs vs):mC P ah mem (.cell a T::rs) (.agg us.toArray::vs):= .D8 h ht hs hv.at.1 hv.at.2 r
theorem oZ{ah:List (Nat×Value)}{mem:List ak}{rs:List ResultVar}{vs:List Value}(h:mC prog ah mem rs vs:=by
 repeat first|exact mC.nil|apply mC.tmp rfl|(apply alH;exact rfl;exact zO;exact sZ;exact rfl)|(apply alI;exact rfl;exact zA;exact sZ;repeat first|exact CN.nil|apply CN.cons rfl)):mC prog ah mem rs vs:=h
def Ix(_:Nat)(C B:Prop):Prop:=C→B
inductive Sx:List Nat→Prop→Prop→Prop
 |z {A:Prop}:Sx [] A A
 |s {i:Nat} {l:List Nat} {A B C:Prop} (h:Ix i C B) (t:Sx l A C):Sx (i::l) A B
theorem Sx.go{l:List Nat}{A B:Prop}(h:Sx l A B)(g:A):B:=by
 induction h with
 |z=>exact g
 |s h _ ih=>exact h (ih g)
section
variable{fn:Func}{R:Ending→World→Prop}{X:Nat→Prop}{W:World}{n m:Nat}{k:List K}{M0 mem:List ak}{an:Array Oper}{aL:Array Bool}{ah:List (Nat×Value)}{d i:Nat}{op:Op}{ty:Nat}{po:String}{af:Array Edge}{gd:Option (Nat×Bool)}{v:Value}{dt:List Nat}
theorem Zq(hi:an[i]?=some ⟨some d,op,ty,po,af,gd⟩:=by exact rfl)(hr:((Region.ready .any an aL).contains i&&Region.free .any an aL i)=true:=by kernel_rfl)(hw:cW an ah ⟨some d,op,ty,po,af,gd⟩ true:=by exact wZ)(hdn:Nat.blt d n=true:=by exact rfl)
  (h:Q1 prog X W n ⟨ah,M0⟩ ⟨some d,op,ty,po,af,gd⟩ v:=by exact oN):Ix i (gB prog fn R X W n k M0 an m (aL.setIfInBounds i true) ⟨(d,v)::ah,mem⟩) (gB prog fn R X W n k M0 an (m+1) aL ⟨ah,mem⟩):=OE hi hr hw rfl hdn h
theorem Zr(hi:an[i]?=some ⟨some d,op,ty,po,af,gd⟩:=by exact rfl)(hr:((Region.ready .any an aL).contains i&&Region.free .any an aL i)=true:=by kernel_rfl)(hw:cW an ah ⟨some d,op,ty,po,af,gd⟩ false:=by exact fZ)(hdn:Nat.blt d n=true:=by exact rfl):
  Ix i (gB prog fn R X W n k M0 an m (aL.setIfInBounds i true) ⟨(d,undef)::ah,mem⟩) (gB prog fn R X W n k M0 an (m+1) aL ⟨ah,mem⟩):=afb hi hr hw rfl hdn
theorem Zs(hi:an[i]?=some ⟨some d,op,ty,po,af,gd⟩:=by exact rfl)(hr:((Region.ready .any an aL).contains i&&Region.free .any an aL i&&dt.all fun j=>yy an 4 j i)=true:=by kernel_rfl)(hw:cW an ah ⟨some d,op,ty,po,af,gd⟩ true:=by exact wZ)(hdn:Nat.blt d n=true:=by exact rfl)
  (h:Q1 prog X W n ⟨ah,M0⟩ ⟨some d,op,ty,po,af,gd⟩ v:=by exact oN):Ix i (gi prog fn R X W n k M0 dt true an m (aL.setIfInBounds i true) ⟨(d,v)::ah,mem⟩) (gi prog fn R X W n k M0 dt true an (m+1) aL ⟨ah,mem⟩):=Pw hi hr hw rfl hdn h
theorem Zt(hi:an[i]?=some ⟨some d,op,ty,po,af,gd⟩:=by exact rfl)(hr:((Region.ready .any an aL).contains i&&Region.free .any an aL i&&dt.all fun j=>yy an 4 j i)=true:=by kernel_rfl)(hw:cW an ah ⟨some d,op,ty,po,af,gd⟩ false:=by exact fZ)(hdn:Nat.blt d n=true:=by exact rfl):
  Ix i (gi prog fn R X W n k M0 dt true an m (aL.setIfInBounds i true) ⟨(d,undef)::ah,mem⟩) (gi prog fn R X W n k M0 dt true an (m+1) aL ⟨ah,mem⟩):=ahD hi hr hw rfl hdn
theorem Bs(l:List Nat){A B:Prop}(h:Sx l A B:=by repeat first|exact Sx.z|(apply Sx.s;first|exact Zq (hdn:=rfl) (hw:=wA)|exact Zr (hdn:=rfl) (hw:=fA)|exact Zs (hdn:=rfl) (hw:=wA)|exact Zt (hdn:=rfl) (hw:=fA)|exact Zq (hdn:=rfl)|exact Zr (hdn:=rfl)|exact Zs (hdn:=rfl)|exact Zt (hdn:=rfl)))(g:A):B:=h.go g
variable{P:Program}{S:St}{o:Oper}{ι:Type}{φ:ι→Prop}{next:ι→St}{c:Bool}
theorem Bq(i:Nat)(hi:an[i]?=some o)(h:Q1 P X W n ⟨ah,M0⟩ o v)(g:gB P fn R X W n k M0 an m (aL.setIfInBounds i true) ⟨(d,v)::ah,mem⟩)(hr:((Region.ready .any an aL).contains i&&Region.free .any an aL i)=true:=by kernel_rfl)(hw:cW an ah o true:=by exact wZ)(hd:o.dst=some d:=by exact rfl)(hdn:Nat.blt d n=true:=by exact rfl):
  gB P fn R X W n k M0 an (m+1) aL ⟨ah,mem⟩:=OE hi hr hw hd hdn h g
theorem Lq(i:Nat)(hi:an[i]?=some o)(h:Q1 P X W n ⟨ah,M0⟩ o v)(g:gi P fn R X W n k M0 dt true an m (aL.setIfInBounds i true) ⟨(d,v)::ah,mem⟩)(hr:((Region.ready .any an aL).contains i&&Region.free .any an aL i&&dt.all fun j=>yy an 4 j i)=true:=by kernel_rfl)(hw:cW an ah o true:=by exact wZ)(hd:o.dst=some d:=by exact rfl)(hdn:Nat.blt d n=true:=by exact rfl):
  gi P fn R X W n k M0 dt true an (m+1) aL ⟨ah,mem⟩:=Pw hi hr hw hd hdn h g
theorem Bh(hi:an[i]?=some o)(h:H1 P X W n ⟨ah,mem⟩ o φ next)(g:∀j,φ j→gB P fn R X W n k M0 an m (aL.setIfInBounds i true) (next j))(hw:cW an ah o true:=by exact wZ)(hM:∀j,φ j→ar (next j).mem M0:=by intro _ _;first|exact .refl|(refine .sub ?_;first|exact j3 _ _|(refine .trans ?_ (j3 _ _);(repeat first|exact List.Sublist.refl _|exact .slnil|apply List.Sublist.cons_cons|apply List.Sublist.cons);done)|(repeat first|exact List.Sublist.refl _|exact .slnil|apply List.Sublist.cons_cons|apply List.Sublist.cons))):tM P fn R X W n k M0 an m aL i ⟨ah,mem⟩:=Ef hi hw h hM g
theorem Bg(i:Nat)(hi:an[i]?=some o)(h:H1 P X W n ⟨ah,mem⟩ o φ next)(g:∀j,φ j→gB P fn R X W n k M0 an m (aL.setIfInBounds i true) (next j))(hr:Region.ready .any an aL= [i]:=by kernel_rfl)(hw:cW an ah o true:=by exact wZ)(hM:∀j,φ j→ar (next j).mem M0:=by intro _ _;first|exact .refl|(refine .sub ?_;first|exact j3 _ _|(refine .trans ?_ (j3 _ _);(repeat first|exact List.Sublist.refl _|exact .slnil|apply List.Sublist.cons_cons|apply List.Sublist.cons);done)|(repeat first|exact List.Sublist.refl _|exact .slnil|apply List.Sublist.cons_cons|apply List.Sublist.cons))):gB P fn R X W n k M0 an (m+1) aL ⟨ah,mem⟩:=U5 i hr (Ef hi hw h hM g)
theorem Lh(hi:an[i]?=some o)(h:H1 P X W n ⟨ah,mem⟩ o φ next)(g:∀j,φ j→gi P fn R X W n k M0 dt true an m (aL.setIfInBounds i true) (next j))(hw:cW an ah o true:=by exact wZ)(hM:∀j,φ j→ar (next j).mem M0:=by intro _ _;first|exact .refl|(refine .sub ?_;first|exact j3 _ _|(refine .trans ?_ (j3 _ _);(repeat first|exact List.Sublist.refl _|exact .slnil|apply List.Sublist.cons_cons|apply List.Sublist.cons);done)|(repeat first|exact List.Sublist.refl _|exact .slnil|apply List.Sublist.cons_cons|apply List.Sublist.cons))):w9 P fn R X W n k M0 dt true an m aL i ⟨ah,mem⟩:=WR hi hw h hM g
theorem Lg(i:Nat)(hi:an[i]?=some o)(h:H1 P X W n ⟨ah,mem⟩ o φ next)(g:∀j,φ j→gi P fn R X W n k M0 dt true an m (aL.setIfInBounds i true) (next j))(hr:Region.ready .any an aL= [i]:=by kernel_rfl)(hw:cW an ah o true:=by exact wZ)(hM:∀j,φ j→ar (next j).mem M0:=by intro _ _;first|exact .refl|(refine .sub ?_;first|exact j3 _ _|(refine .trans ?_ (j3 _ _);(repeat first|exact List.Sublist.refl _|exact .slnil|apply List.Sublist.cons_cons|apply List.Sublist.cons);done)|(repeat first|exact List.Sublist.refl _|exact .slnil|apply List.Sublist.cons_cons|apply List.Sublist.cons))):gi P fn R X W n k M0 dt true an (m+1) aL ⟨ah,mem⟩:=WS i hr (WR hi hw h hM g)
theorem Ll(hi:an[i]?=some o)(h:H1 P X W n ⟨ah,mem⟩ o φ next)(g:∀j,φ j→gi P fn R X W n k M0 dt false an m (aL.setIfInBounds i true) (next j))(hl:dt.contains i=true:=by exact rfl)(hw:cW an ah o true:=by exact wZ):w9 P fn R X W n k M0 dt c an m aL i ⟨ah,mem⟩:=ahE hi hl hw h g
variable{bJ r:List (Nat×Nat)}
theorem Dq(a:Nat){A:Prop}(hi:an[i]?=some o)(h:Q1 P X W n ⟨ah,M0⟩ o v)(g:A)(ht:jN bJ i=0:=by exact rfl)(hw:cW an ah o true:=by exact wZ)(hd:o.dst=some d:=by exact rfl)(hdn:Nat.blt d n=true:=by exact rfl)(st:Sn a A (iM P fn R X W n k M0 an bJ r ⟨(d,v)::ah,mem⟩):=by repeat first|exact Sn.z|(apply Sn.s;exact fun g=>r6 g)):iM P fn R X W n k M0 an bJ ((i,0)::r) ⟨ah,mem⟩:=rA hi ht hw hd hdn h (st.go g)
theorem Dh(hi:an[i]?=some o)(h:H1 P X W n ⟨ah,mem⟩ o φ next)(g:∀j,φ j→iM P fn R X W n k M0 an bJ r (next j))(ht:jN bJ i=1:=by exact rfl)(hw:cW an ah o true:=by exact wZ)(hM:∀j,φ j→ar (next j).mem M0:=by intro _ _;first|exact .refl|(refine .sub ?_;first|exact j3 _ _|(refine .trans ?_ (j3 _ _);(repeat first|exact List.Sublist.refl _|exact .slnil|apply List.Sublist.cons_cons|apply List.Sublist.cons);done)|(repeat first|exact List.Sublist.refl _|exact .slnil|apply List.Sublist.cons_cons|apply List.Sublist.cons))):iM P fn R X W n k M0 an bJ ((i,1)::r) ⟨ah,mem⟩:=kQ hi ht hw h hM g
theorem Dt(hi:an[i]?=some o)(h:H1 P X W n ⟨ah,mem⟩ o φ next)(g:∀j,φ j→iM P fn R X W n k M0 an bJ r (next j))(ht:jN bJ i=2:=by exact rfl)(hw:cW an ah o true:=by exact wZ):iM P fn R X W n k M0 an bJ ((i,2)::r) ⟨ah,mem⟩:=UD hi ht hw h g
theorem Pq(hi:an[i]?=some o)(h:Q1 P X W n ⟨ah,M0⟩ o v)(g:mj P fn R X W n k M0 an bJ r ⟨(d,v)::ah,mem⟩)(ht:jN bJ i=0:=by exact rfl)(hw:cW an ah o true:=by exact wZ)(hd:o.dst=some d:=by exact rfl)(hdn:Nat.blt d n=true:=by exact rfl):mj P fn R X W n k M0 an bJ ((i,0)::r) ⟨ah,mem⟩:=U9 hi ht hw hd hdn h g
theorem Pt(hi:an[i]?=some o)(h:H1 P X W n ⟨ah,mem⟩ o φ next)(g:∀j,φ j→mj P fn R X W n k M0 an bJ r (next j))(ht:jN bJ i=2:=by exact rfl)(hw:cW an ah o true:=by exact wZ):mj P fn R X W n k M0 an bJ ((i,2)::r) ⟨ah,mem⟩:=Va hi ht hw h g
theorem kH(i:Nat)(hr:Region.ready .any an aL= [i]:=by kernel_rfl)(g:tM P fn R X W n k M0 an m aL i S):gB P fn R X W n k M0 an (m+1) aL S:=U5 i hr g
theorem vC(i j:Nat)(g:tM P fn R X W n k M0 an m aL i S)(g':tM P fn R X W n k M0 an m aL j S)(hr:Region.ready .any an aL= [i,j]:=by kernel_rfl):gB P fn R X W n k M0 an (m+1) aL S:=ae_ i j hr g g'
theorem fH(i:Nat)(hr:Region.ready .any an aL= [i]:=by kernel_rfl)(g:w9 P fn R X W n k M0 dt c an m aL i S):gi P fn R X W n k M0 dt c an (m+1) aL S:=WS i hr g
theorem Zu(i j:Nat)(g:w9 P fn R X W n k M0 dt c an m aL i S)(g':w9 P fn R X W n k M0 dt c an m aL j S)(hr:Region.ready .any an aL= [i,j]:=by kernel_rfl):gi P fn R X W n k M0 dt c an (m+1) aL S:=ahF i j hr g g'
theorem jH(a:Nat){A:Prop}(h:Region.ready .any an aL= []:=by kernel_rfl)(st:Sn a A (bj P fn R X W n k S):=by repeat first|exact Sn.z|(apply Sn.s;exact fun g=>r6 g))(g:A):gB P fn R X W n k M0 an 0 aL S:=ae9 h (st.go g)
theorem iq(a:Nat){A:Prop}(h:Region.ready .any an aL= []:=by kernel_rfl)(st:Sn a A (bj P fn R X W n k S):=by repeat first|exact Sn.z|(apply Sn.s;exact fun g=>r6 g))(g:A):gi P fn R X W n k M0 dt c an 0 aL S:=ahB h (st.go g)
theorem Mv{id:Nat}{l:List Oper}(hm:P.follows .mixedOrders=true:=by kernel_rfl)(cu:Region.noSelect l.toArray=true:=by kernel_rfl)(g:gB P fn R X W n k mem l.toArray l.toArray.size (Array.replicate l.toArray.size false) ⟨ah,mem⟩):bj P fn R X W n (.bq (.region id l.toArray true)::k) ⟨ah,mem⟩:=uZ hm cu .refl g
theorem Fo{id:Nat}{l:List Oper}(dt:List Nat)(hm:P.follows .mixedOrders=true:=by kernel_rfl)(cu:Region.noSelect l.toArray=true:=by kernel_rfl)(g:gi P fn R X W n k mem dt true l.toArray l.toArray.size (Array.replicate l.toArray.size false) ⟨ah,mem⟩):bj P fn R X W n (.bq (.region id l.toArray true)::k) ⟨ah,mem⟩:=ly dt hm cu .refl g
inductive Dz:List Nat→List (Nat×Nat)→Prop
 |nil:Dz [] []
 |c3 {i:Nat} {l:List Nat} {o:List (Nat×Nat)} (t:Dz l o):Dz ((i+300)::l) ((i,3)::o)
 |c2 {i:Nat} {l:List Nat} {o:List (Nat×Nat)} (t:Dz l o):Dz ((i+200)::l) ((i,2)::o)
 |c1 {i:Nat} {l:List Nat} {o:List (Nat×Nat)} (t:Dz l o):Dz ((i+100)::l) ((i,1)::o)
 |c0 {i:Nat} {l:List Nat} {o:List (Nat×Nat)} (t:Dz l o):Dz (i::l) ((i,0)::o)
theorem Dd(a:Nat){A:Prop}{id:Nat}{l:List Oper}{bJ:List (Nat×Nat)}(cs:List Nat)(ho:Dz cs bJ:=by repeat first|exact .nil|apply Dz.c3|apply Dz.c2|apply Dz.c1|apply Dz.c0)(hm:P.follows .mixedOrders=true:=by kernel_rfl)(cu:GM l.toArray bJ=true:=by kernel_rfl)(st:Sn a A (iM P fn R X W n k mem l.toArray bJ bJ ⟨ah,mem⟩):=by repeat first|exact Sn.z|(apply Sn.s;exact fun g=>r6 g))(g:A):bj P fn R X W n (.bq (.region id l.toArray true)::k) ⟨ah,mem⟩:=Uz bJ hm cu .refl (st.go g)
end
theorem eL(l:List Nat){ah e:List (Nat×Value)}(h:Kp ah l e:=by repeat first|exact .nil|apply Kp.cons rfl):dR ah e:=h.sub
theorem dA(is:List Nat){m0 m cs:List ak}(h:AY is m=some cs:=by exact rfl):ar (m0++m) cs:=(ar.sub (j3 _ _)).trans (Ip h)
theorem Qw{fn:Func}{R:Ending→World→Prop}{X:Nat→Prop}{W:World}{n:Nat}{k:List K}{ah:List (Nat×Value)}{mem:List ak}{o:Oper}{v:Value}{d:Nat}{all:Array Oper}{aQ:List Oper}(hw:cW all ah o true)(h:Q1 prog X W n ⟨ah,mem⟩ o v:=by exact oN)(hd:o.dst=some d:=by exact rfl)(hdn:Nat.blt d n=true:=by exact rfl)(g:bj prog fn R X W n (.an all aQ::k) ⟨(d,v)::ah,mem⟩):bj prog fn R X W n (.an all (o::aQ)::k) ⟨ah,mem⟩:=dr hw hd hdn h g
theorem sW(S:St){P:Program}{fn:Func}{R:Ending→World→Prop}{X:Nat→Prop}{W:World}{n:Nat}{k:List K}(g:bj P fn R X W n k S):bj P fn R X W n k S:=g
theorem tf(S:St){ρ:Option Nat}{P:Program}{Qb:Exit→Act→World→Prop}{ds:List Deferred}{X:Nat→Prop}{W:World}{n:Nat}{k:List K}(g:RF ρ P Qb ds X W n k S):RF ρ P Qb ds X W n k S:=g
theorem rM{P:Program}{fn:Func}{R:Ending→World→Prop}{X:Nat→Prop}{W:World}{n:Nat}{k:List K}{ah:List (Nat×Value)}{m m':List ak}(h:ar m m')(g:bj P fn R X W n k ⟨ah,m'⟩):bj P fn R X W n k ⟨ah,m⟩:=eh (au .refl h) g
abbrev Iv(x:Int):Value:= .int .i64 x
theorem AZ:Hr.Sz prog 3 1:=Hr.Sz.of (by kernel_rfl)
theorem n3:Hr.f_ prog 3:=⟨fun w=>by simp [isAgg,cL bR],Hr.Sz.of (by kernel_rfl)⟩
theorem vD:prog.follows .mixedOrders=true:=by kernel_rfl
theorem A2:Hr.Sz prog 43 2:=Hr.Sz.of (by kernel_rfl)
theorem oO:Hr.iE prog 43 2:=⟨fun w=>by simp [isAgg,cL pN],Hr.Sz.of (by kernel_rfl)⟩
theorem Mw:Hr.Sz prog 63 2:=Hr.Sz.of (by kernel_rfl)
theorem Re:Hr.iE prog 63 2:=⟨fun w=>by simp [isAgg,cL underlying63],Hr.Sz.of (by kernel_rfl)⟩
theorem Mx:Hr.Sz prog 9 1:=Hr.Sz.of (by kernel_rfl)
theorem My:Hr.f_ prog 9:=⟨fun w=>by simp [isAgg,cL tE],Hr.Sz.of (by kernel_rfl)⟩
theorem Iq:Hr.Sz prog 27 1:=Hr.Sz.of (by kernel_rfl)
theorem Ir:Hr.f_ prog 27:=⟨fun w=>by simp [isAgg,cL underlying27],Hr.Sz.of (by kernel_rfl)⟩
theorem Is:Hr.Sz prog 65 1:=Hr.Sz.of (by kernel_rfl)
theorem It:Hr.f_ prog 65:=⟨fun w=>by simp [isAgg,cL underlying65],Hr.Sz.of (by kernel_rfl)⟩
theorem Iu:prog.built 43 []=some #[Iv 0,Iv 0]:=by kernel_rfl
theorem A5:Hr.Sz prog 4 1:=Hr.Sz.of (by kernel_rfl)
theorem C3:Hr.f_ prog 4:=⟨fun w=>by simp [isAgg,cL qC],Hr.Sz.of (by kernel_rfl)⟩
theorem Rf{cz fj eS jI l6:Int}:prog.built 150 [(0,Iv cz),(3,Iv fj),(2,Iv eS),(4,Iv jI),(5,Iv l6)]=some #[Iv cz,Iv 0,Iv eS,Iv fj,Iv jI,Iv l6,Iv 0]:=by kernel_rfl
theorem MI:prog.stoodInHeld 43=false:=by kernel_rfl
theorem Fv:Hr.iE prog 128 13:=⟨fun w=>by simp [isAgg,cL zL],Hr.Sz.of (by kernel_rfl)⟩
theorem Rp{cz cA eS fj jI l6 r8:Int}:prog.built 328 [(0,Iv cz),(1,Iv cA),(2,Iv eS),(3,Iv fj),(4,Iv jI),(5,Iv l6),(6,Iv r8)]=some #[Iv cz,Iv cA,Iv eS,Iv fj,Iv jI,Iv l6,Iv r8]:=by kernel_rfl
theorem ML:Hr.iE prog 123 2:=⟨fun w=>by simp [isAgg,cL underlying123],Hr.Sz.of (by kernel_rfl)⟩
theorem Fy:prog.stoodInHeld 170=false:=by kernel_rfl
theorem R2:prog.eqGuardType prog.depth 170=false:=by kernel_rfl
theorem I4:prog.built 150 []=some #[Iv 0,Iv 0,Iv 0,Iv 0,Iv 0,Iv 0,Iv 0]:=by kernel_rfl
theorem C5{a0 a1 b0 b1:Int}(w:World):(Op.equalIn 10000 43 (.agg #[Iv a0,Iv a1]) (.agg #[Iv b0,Iv b1])).run prog w= .ok (a0==b0&&(a1==b1)) w:=by
 rw [na w 9999 43 _ _ (by simp only [Program.fieldsOf,pN]) MI];have hz:∀(x y:Int) (w:World),(Op.equalIn 9999 3 (Iv x) (Iv y)).run prog w= .ok (x==y) w:=fun x y w=>dQ w 9998 3 .i64 .i64 x y bR;cases h0:(a0==b0)<;>cases h1:(a1==b1)<;>simp [Program.fieldsOf,pN,Op.eqFields,part,n3.1,hz,h0,h1]
theorem I3{a0 a1 a2 b0 b1 b2:Int}(w:World):(Op.equalIn 10000 170 (.agg #[Iv a0,Iv a1,Iv a2]) (.agg #[Iv b0,Iv b1,Iv b2])).run prog w= .ok (a0==b0&&(a1==b1&&(a2==b2))) w:=by
 rw [na w 9999 170 _ _ (by simp only [Program.fieldsOf,wu]) Fy];have hz:∀(x y:Int) (w:World),(Op.equalIn 9999 3 (Iv x) (Iv y)).run prog w= .ok (x==y) w:=fun x y w=>dQ w 9998 3 .i64 .i64 x y bR;cases h0:(a0==b0)<;>cases h1:(a1==b1)<;>cases h2:(a2==b2)<;>simp [Program.fieldsOf,wu,Op.eqFields,part,n3.1,hz,h0,h1,h2]
end Go.Proofs.YtdahjfmmndjcpaaGreat
