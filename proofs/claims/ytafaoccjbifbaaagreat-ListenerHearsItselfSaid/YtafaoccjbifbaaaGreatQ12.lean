/- Part 13 of listenerHearsItself_holds. -/
import Derived.Laws.Bits64b
import Derived.Lib.BitFns
import Derived.Shelf.SlSortCmp.WholeK
import Derived.Test.YtafaoccjbifbaaaGreatQ05
set_option linter.unusedSimpArgs false
set_option linter.unusedVariables false
set_option maxHeartbeats 40000000
set_option maxRecDepth 100000
namespace Go.Proofs.YtafaoccjbifbaaaGreat
open Go Go.RowKit Hr Go.Proofs.Tryz
theorem alc(a b:Int)(em:Bool)(w:World):(Instr.checkKey em 10000 53 (.agg #[.int .i64 a,.int .i64 b])).run prog w= .ok () w:=by
 have h3:∀(v:Int) (w:World),(Instr.checkKey em 9999 3 (.int .i64 v)).run prog w= .ok () w:=fun v w=>MapKept.run_checkKey (d:= .int .i64) bZ (by simp [MapKept.IsKey]) em 9998
 unfold Instr.checkKey
 simp [fk underlying53,part,o5.1,h3,Result.andThen]
def ot(v:Value):Prop:=∃i:bY,v=i.val
theorem Ab:Hr.wC prog 53 ot:=OD (by rw [underlying53]) (fun k hk em w=>by obtain⟨i,rfl⟩:=hk;exact alc i.bX i.aG em w) (fun x y hx hy w=>by
 obtain⟨i,rfl⟩:=hx
 obtain⟨j,rfl⟩:=hy
 refine⟨_,KW w,?_⟩
 cases i;cases j
 simp [bY.val,bY.enc])
theorem bY.key(i:bY):ot i.val:=⟨i,rfl⟩
theorem HF{bH bF:Int}:prog.built 53 [(0,Iv bH),(1,Iv bF)]=some #[Iv bH,Iv bF]:=by kernel_rfl
theorem X8:prog.built 89 []=some #[Iv 0,Iv 0]:=by kernel_rfl
theorem KY{bH bF:Int}:prog.built 89 [(0,Iv bH),(1,Iv bF)]=some #[Iv bH,Iv bF]:=by kernel_rfl
theorem KZ{bH bF:Int}:prog.built 101 [(0,Iv bH),(1,Iv bF)]=some #[Iv bH,Iv bF,Iv 0,Iv 0,Iv 0,Iv 0,Iv 0,Iv 0]:=by kernel_rfl
theorem alp{bH bF:Int}:prog.built 99 [(0,Iv bH),(1,Iv bF)]=some #[Iv bH,Iv bF,Iv 0,Iv 0,Iv 0,Iv 0]:=by kernel_rfl
theorem alq{bH bF j9 j_ rZ r5 vd Af:Int}:prog.built 101 [(0,Iv bH),(1,Iv bF),(2,.agg #[Iv j9,Iv j_,Iv rZ,Iv r5,Iv vd,Iv Af])]=some #[Iv bH,Iv bF,Iv j9,Iv j_,Iv rZ,Iv r5,Iv vd,Iv Af]:=by kernel_rfl
theorem mG(n:Int)(b:Nat)(W:World)(hm:Mem (aR [.aj b 85 [(0,Iv n)]]) W [.aj b 85 [(0,Iv n)]] W)(hn:0≤n∧n≤1000000):Calls prog 21 #[.pointer (some ⟨b,0,none⟩)] W (bk W (aR [.aj b 85 [(0,Iv n)]]) (fun v m=>v=bY.val ⟨1,n+1⟩∧m= [.aj b 85 [(0,Iv (n+1))]])):=by
 refine Ea (X:=_) func21 ntmps21 hm ?_;apply ab 2;refine Nw 18 fun b2=>?_;refine Qq 2 (aU rfl vZ (HF)) ?_;apply kp 1 [2];exact cX rfl oZ _ (.cons (iZ 1) (.aj (eL [0])) .nil) ⟨rfl,rfl⟩
theorem wO(n:Int)(W:World)(h0:0≤n):Calls prog 22 #[.int .u8 n] W (Hr.aJ W ((aa iC (n%6).toNat).val)):=by
 apply Ej 2 func22 ntmps22;refine Nw 3 fun b2=>?_;refine Qq 0 (aU rfl vZ (X8)) ?_;refine Qq 0 (aU rfl vZ (X8)) ?_;refine Qq 0 (aU rfl vZ (KY)) ?_;refine Qq 0 (aU rfl vZ (KY)) ?_;refine Qq 0 (aU rfl vZ (KY)) ?_;refine Qq 0 (aU rfl vZ (KY)) ?_;refine Nw 1 fun b9=>?_;refine Qq 0 (db rfl rfl rfl  oM) ?_;refine Qq 0 (Qi ((n%6).toNat) rfl (.ae sZ)) ?_;refine Qq 2 (Qe rfl (.ae sZ) (aeX  oM)) ?_;apply kp 1 [2];exact cX rfl oZ _ .nil rfl
theorem X9(n:Int)(W:World)(h0:0≤n):Calls prog 65 #[.int .u8 n] W (Hr.aJ W ((aa qy (n%5).toNat).val)):=by
 apply Ej 2 func65 ntmps65;refine Nw 3 fun b2=>?_;refine Qq 0 (aU rfl vZ (KZ)) ?_;refine Qq 0 (aU rfl vZ (KZ)) ?_;refine Qq 0 (aU rfl vZ (KZ)) ?_;refine Qq 0 (aU rfl vZ (KZ)) ?_;refine Qq 0 (aU rfl vZ (alp)) ?_;refine Qq 0 (aU rfl vZ (alq)) ?_;refine Nw 1 fun b9=>?_;refine Qq 0 (db rfl rfl rfl  oM) ?_;refine Qq 0 (Qi ((n%5).toNat) rfl (.ae sZ)) ?_;refine Qq 2 (Qe rfl (.ae sZ) (aeY  oM)) ?_;apply kp 1 [2];exact cX rfl oZ _ .nil rfl
namespace Hr
section
variable{P:Program}{X:Nat→Prop}{W:World}{n:Nat}{S:St}{o:Oper}{x y:Operand}{t t':TypeId}{k:IntKind}
theorem Yk{f:FuncId}{xs:List Operand}{ts:Array TypeId}{vs:List Value}{v:Value}(ho:o.op= .call {callee:= .value (.func f),args:=xs.toArray,argTypes:=ts})(hx:kL S.ah xs vs)
  (h:∀w,(callFunc f vs.toArray).run P w= .ok (.value v) w):Q1 P X W n S o v:=fun a w hs=> .inl (by
 have he:a.eval (.func f)= .func (.func f) #[] #[]:=rfl
 simp [execOp,ho,resolve,he,Deferred.ofValue,invoke,hx.map hs]
 exact h w)
def ES(k:IntKind)(i j:Int):Int:=k.wrap ((BitVec.ofInt k.bits i|||BitVec.ofInt k.bits j).toNat:Int)
theorem amb{i j:Int}(ho:o.op= .binOp .or t x y t')(hx:ev S.ah x=some (.int k i))(hy:ev S.ah y=some (.int k j)):Q1 P X W n S o (.int k (ES k i j)):=
 fun _ w hs=> .inl (by simp [execOp,ho,hs.eval hx,hs.eval hy,binOp,Op.intBits,ES,eqGuard_at_int])
theorem amc{f:Nat}{cs:Array Value}{fs:Array Field}{fd:Field}{v:Value}(ho:o.op= .field t x f)(hx:ev S.ah x=some (.agg cs))(ht:P.underlying t=some (.struct fs))(hf:fs[f]?=some fd)(h1:k9 P fd.type)(hv:cs[fd.offset]?=some v):Q1 P X W n S o v:=
 fun a w hs=> .inl (by simp [execOp,ho,hs.eval hx,Instr.field,fk ht,hf,asAgg,part,h1.1,hv])
theorem amd(w:World)(d:Nat)(t:TypeId){ps rs:Array TypeId}{vr:Bool}(f:Fn)(b c:Array Value)(h:P.underlying t=some (.func ps rs vr)):(Op.equalIn (d+1) t (.func f b c) .nilFunc).run P w= .ok false w:=by
 simp [Op.equalIn,fk h]
theorem ame(w:World)(d:Nat)(t:TypeId){ps rs:Array TypeId}{vr:Bool}(h:P.underlying t=some (.func ps rs vr)):(Op.equalIn (d+1) t .nilFunc .nilFunc).run P w= .ok true w:=by
 simp [Op.equalIn,fk h]
theorem amf{f:Fn}{b c:Array Value}{ps rs:Array TypeId}{vr:Bool}(ho:o.op= .binOp .eql t x y t')(hx:ev S.ah x=some (.func f b c))(hy:ev S.ah y=some .nilFunc)(h:P.underlying t=some (.func ps rs vr)):Q1 P X W n S o (.bool false):=
 fun _ w hs=> .inl (by
  have h1:(binOp .eql t (.func f b c) .nilFunc).run P w= .ok (.bool false) w:=by
   simp only [binOp]
   simp [Op.equal,Op.maxDepth,amd w 9999 t f b c h]
  simp only [execOp,ho,hs.eval hx,hs.eval hy,eqGuard_at_func,pw,uc,sf,h1])
theorem amg{ps rs:Array TypeId}{vr:Bool}(ho:o.op= .binOp .eql t x y t')(hx:ev S.ah x=some .nilFunc)(hy:ev S.ah y=some .nilFunc)(h:P.underlying t=some (.func ps rs vr)):Q1 P X W n S o (.bool true):=
 fun _ w hs=> .inl (by
  have h1:(binOp .eql t .nilFunc .nilFunc).run P w= .ok (.bool true) w:=by
   simp only [binOp]
   simp [Op.equal,Op.maxDepth,ame w 9999 t h]
  simp only [execOp,ho,hs.eval hx,hs.eval hy,eqGuard_at_nilFunc,pw,uc,sf,h1])
def Yl:Value→Bool
 | .nilFunc=>true
 |_=>false
theorem amh{v:Value}{ps rs:Array TypeId}{vr:Bool}(ho:o.op= .binOp .eql t x y t')(hx:ev S.ah x=some v)(hy:ev S.ah y=some .nilFunc)(h:P.underlying t=some (.func ps rs vr))(hv:v= .nilFunc∨∃f b c,v= .func f b c):Q1 P X W n S o (.bool (Yl v)):=by
 rcases hv with rfl|⟨f,b,c,rfl⟩
 ·exact amg ho hx hy h
 ·exact amf ho hx hy h
end
section
variable{P:Program}{X:Nat→Prop}{W:World}{n:Nat}{ah:List (Nat×Value)}{mem:List an}{o:Oper}{d:Tmp}
theorem Ym{f:FuncId}{y:Operand}{xs:List Operand}{ts:Array TypeId}{vs cap:List Value}{Φ:Value→List an→Prop}(ho:o.op= .call {callee:= .value y,args:=xs.toArray,argTypes:=ts})(hd:o.dst=some d)(hdn:Nat.blt d n=true)
  (hy:ev ah y=some (.func (.func f) #[] cap.toArray))(hf:fb P f)(hx:kL ah xs vs)(hc:∀w,aS X W w→Mem X W mem w→Calls P f (vs++cap).toArray w (bk w nX Φ)):
  H1 P X W n ⟨ah,mem⟩ o (fun i:Value×List an=>Φ i.1 i.2) (fun i=>⟨(d,i.1)::ah,i.2++mem⟩):=
 Bd (Y:=fun _=>nX) [] mem ho hd hdn hy hf hx (List.Perm.refl _) (fun _ _ h=>h.elim) hc
end
def yj(x:Int):Prop:=0≤x∧x<18446744073709551616
theorem wU{x:Int}(h:yj x):IntKind.u64.wrap x=x:=by rw [IntKind.wrap_u64];exact Int.emod_eq_of_lt h.1 h.2
theorem Cs(x:Int):yj (IntKind.u64.wrap x):=by rw [IntKind.wrap_u64];exact⟨Int.emod_nonneg _ (by decide),Int.emod_lt_of_pos _ (by decide)⟩
theorem yk(x:Int):IntKind.u64.wrap x=x%18446744073709551616:=IntKind.wrap_u64 x
theorem Yn{x:Int}(h:yj x):F7 .u64 x 4294967295=x%4294967296:=by
 obtain⟨a,rfl⟩:=AS h.1
 have h2:=h.2
 have h1:=bits_and_u64_nat a 4294967295  oM oM
 have e:a&&&4294967295=a%4294967296:=Nat.and_two_pow_sub_one_eq_mod a 32
 rw [e]at h1
 exact h1.trans  oM
theorem Yo{x y:Int}{n:Nat}(hx:0≤x∧x<2^n)(hy:0≤y∧y<2^n)(hn:n≤64):0≤ES .u64 x y∧ES .u64 x y<2^n:=by
 obtain⟨a,rfl⟩:=AS hx.1
 obtain⟨b,rfl⟩:=AS hy.1
 have ha:a<2^n:=by have:=hx.2;exact_mod_cast this
 have hb:b<2^n:=by have:=hy.2;exact_mod_cast this
 have hp:2^n≤2^64:=Nat.pow_le_pow_right (by decide) hn
 have h1:=bits_or_u64_nat a b  oM oM
 have h2:a|||b<2^n:=Nat.or_lt_two_pow ha hb
 have e:ES .u64 (a:Int) (b:Int)=((a|||b:Nat):Int):=h1
 rw [e]
 exact⟨Int.natCast_nonneg _,by exact_mod_cast h2⟩
theorem QI{n m:Int}(h:0≤n∧n<18446744073709551616)(hm:1≤m):IntKind.wrap .u64 (n/m)=n/m:=wU ⟨vE h.1  oM,Int.lt_of_le_of_lt (Ff _ h.1) h.2⟩
theorem nE{x:Int}(h:0≤x):x.fdiv (2^(min (Int.toNat 1) (IntKind.bits .u64)))=x/2:=by
 rw [show(2:Int)^(min (Int.toNat 1) (IntKind.bits .u64))=2 from by decide,Mc _ (by decide)]
theorem Yp{x:Int}(h:0≤x):x.fdiv (2^(min (Int.toNat 32) (IntKind.bits .u64)))=x/4294967296:=by
 rw [show(2:Int)^(min (Int.toNat 32) (IntKind.bits .u64))=4294967296 from by decide,Mc _ (by decide)]
theorem ami{x:Int}{s:Nat}(h:0≤x)(hs:s≤64):x.fdiv (2^(min (Int.toNat (s:Int)) (IntKind.bits .u64)))=x/2^s:=by
 rw [show min (Int.toNat (s:Int)) (IntKind.bits .u64)=s from by show min s 64=s;omega,Mc _ (AR (Int.pow_pos (by decide)))]
theorem Yq{x:Int}{s:Nat}(hs:s≤64):IntKind.u64.wrap (x*2^(min (Int.toNat (s:Int)) (IntKind.bits .u64)))=x*2^s%18446744073709551616:=by
 rw [show min (Int.toNat (s:Int)) (IntKind.bits .u64)=s from by show min s 64=s;omega,yk]
theorem Yr:∀{f x:Nat},x<2^f→(x≠0→0<Lib.bitLenAux f x∧2^(Lib.bitLenAux f x-1)≤x)∧x<2^Lib.bitLenAux f x∧Lib.bitLenAux f x≤f
 |0,x,h=>by
  have h0:x=0:=by simpa using h
  subst h0
  exact⟨fun h=>absurd rfl h,by simp [Lib.bitLenAux],ct _⟩
 |f+1,x,h=>by
  by_cases h0:x=0
  ·subst h0;simp [Lib.bitLenAux]
  ·have h1:x/2<2^f:=by rw [Nat.pow_succ]at h;omega
   obtain⟨a,b,c⟩:=Yr h1
   have e:Lib.bitLenAux (f+1) x=1+Lib.bitLenAux f (x/2):=by simp [Lib.bitLenAux,h0]
   rw [e]
   refine⟨fun _=>⟨oM,?_⟩,?_,oM⟩
   ·by_cases h2:x/2=0
    ·have:Lib.bitLenAux f (x/2)=0:=by rw [h2];cases f<;>simp [Lib.bitLenAux]
     rw [this];simp;omega
    ·obtain⟨a1,a2⟩:=a h2
     have e2:1+Lib.bitLenAux f (x/2)-1=(Lib.bitLenAux f (x/2)-1)+1:=oM
     rw [e2,Nat.pow_succ];omega
   ·rw [Nat.add_comm,Nat.pow_succ];omega
theorem Ys{x:Nat}(h0:x≠0)(h:x<18446744073709551616):Lib.bitLen x≤64∧9223372036854775808≤x*2^(64-Lib.bitLen x)∧x*2^(64-Lib.bitLen x)<18446744073709551616:=by
 obtain⟨a,b,c⟩:=Yr (f:=64) (x:=x) (by simpa using h)
 obtain⟨a1,a2⟩:=a h0
 have e1:Lib.bitLenAux 64 x=Lib.bitLen x:=rfl
 rw [e1]at a1 a2 b c
 refine⟨c,?_,?_⟩
 ·have h1:2^(Lib.bitLen x-1)*2^(64-Lib.bitLen x)=2^63:=by rw [←Nat.pow_add];congr 1;omega
  have h2:=te (2^(64-Lib.bitLen x)) a2
  rw [h1]at h2;exact h2
 ·have h1:2^Lib.bitLen x*2^(64-Lib.bitLen x)=2^64:=by rw [←Nat.pow_add];congr 1;omega
  have h2:=Nat.mul_lt_mul_of_pos_right b (Nat.pow_pos (n:=64-Lib.bitLen x) (show 0<2 by decide))
  rw [h1]at h2;exact h2
theorem amj{lo Y:Int}{s K:Nat}(hs:s≤64)(hK:((2:Int)^s)=(K:Int))(ET:(0:Int)<(K:Int))(h:lo*(K:Int)≤1073741824*Y)(hY:Y<18446744073709551616):lo/2^(64-s)<1073741824:=by
 have hp:(2:Int)^(64-s)*(K:Int)=18446744073709551616:=by rw [←hK,←Int.pow_add,show 64-s+s=64 from oM];rfl
 refine Int.ediv_lt_of_lt_mul (Int.pow_pos (by decide)) ?_
 refine Int.lt_of_mul_lt_mul_right (a:=(K:Int)) ?_ (AR ET)
 rw [C8,hp];omega
theorem amk{a b:Int}(ha:0≤a∧a<9223372036854775808)(hb:2147483648≤b):0≤a/b∧a/b<4294967296:=by
 refine⟨vE ha.1  oM,Int.ediv_lt_of_lt_mul  oM ?_⟩
 have:=yV hb (show(0:Int)≤4294967296 by decide)
 omega
theorem ap7{w w':World}(h:aS nX w w'):∃q os,w'=Go.Sort.grow (w.drewN q) os:=by
 refine⟨w'.drawn-w.drawn,w'.heap.extract w.heap.size w'.heap.size,?_⟩
 have hd:=h.drawn
 have hh:w'.heap=w.heap++w'.heap.extract w.heap.size w'.heap.size:=by
  apply Array.ext_getElem?
  intro i
  have hs:=h.size
  rw [Array.getElem?_append]
  split
  ·rename_i hi
   exact h.block i hi (fun e=>e)
  ·rename_i hi
   rw [Array.getElem?_extract]
   split
   ·congr 1;omega
   ·rename_i bN
    rw [CZ]
    omega
 have e:w.drawn+(w'.drawn-w.drawn)=w'.drawn:=oM
 obtain⟨h1,h2,h3,h4,h5⟩:=w'
 obtain⟨g1,g2,g3,g4,g5⟩:=w
 have a1:=h.os
 have a2:=h.tape
 have a3:=h.output
 simp only at a1 a2 a3 hh e hd
 subst a1;subst a2;subst a3
 simp only [Go.Sort.grow,World.drewN,e]
 rw [←hh]
theorem get!_toArray{α:Type} [Inhabited α](l:List α)(i:Nat)(h:i<l.length):(l.toArray)[i]! =aa l i:=by
 simp [aa,h]
theorem ap8{α:Type}(f:α→Int)(cf:α→α→Int)(h:∀x y,cf x y<0↔f x<f y):Go.Sort.SWO (ltOf cf) where
 irrefl x:=by simp [ltOf,h]
 trans x y z h1 h2:=by simp [ltOf,h]at*;omega
 ntrans x y z h1 h2:=by simp [ltOf,h]at*;omega
section
variable{P:Program}{ρ:Go.Shelf.Ren}{α:Type} [Inhabited α]
theorem aaS{enc:α→List Value}{k t g c m:Nat}{xs ys:List α}{w:World}{di:Array Value}{os:Array Obj}(bC:0<k)(hk:∀x,(enc x).length=k)(hg:w.heap[g]?=some (.cells di t (0,0)))(hn:xs.length≤c)(hc:c≤maxLen)(nq:di.size=c*k)(hl:ys.length=xs.length):
  aS (fun b=>b=g) w (sortWorldK enc k w g 0 m ys.toArray os)∧(an.ae t k (some ⟨g,0,none⟩) xs.length c (ys.map enc)).holds (sortWorldK enc k w g 0 m ys.toArray os):=by
 have bN:=q_ hg
 have hb:(sortWorldK enc k w g 0 m ys.toArray os).heap[g]?=some (.cells (Go.Sort.putCells id 0 (Go.Sort.flatK enc k ys.toArray) di) t (0,0)):=by
  unfold sortWorldK Go.Sort.grow Go.Sort.putRowK Go.Sort.putRow Go.Sort.mapBlock Go.Sort.ahead
  simp only
  rw [IL (by simpa using bN),Array.getElem?_modify,aH rfl,hg]
  rfl
 refine⟨⟨rfl,rfl,rfl,by simp [sortWorldK,Go.Sort.putRowK,Go.Sort.ahead],fun b l9 hx=>?_,by show w.drawn≤w.drawn+m;omega⟩,?_⟩
 ·unfold sortWorldK Go.Sort.grow Go.Sort.putRowK Go.Sort.putRow Go.Sort.mapBlock Go.Sort.ahead
  simp only
  rw [IL (by simpa using l9),Array.getElem?_modify,aB (fun e=>hx e.symm)]
 ·have A4:∀z∈ys.map enc,z.length=k:=fun z hz=>by obtain⟨y,_,rfl⟩:=eS.1 hz;exact hk y
  refine⟨⟨by rw [y7 _ A4,bG,hl],.inr ⟨g,c,_,rfl,lI _,hb,hn,hc,by simp [Go.Sort.putCells,nq],?_⟩⟩,by simp [hl],A4⟩
  have kx:xs.length*k≤di.size:=by rw [nq];exact te _ hn
  apply ud
  intro i
  rw [C1]
  split
  ·rename_i hi
   have hq:i/k<ys.length:=by rw [hl];exact Nat.div_lt_of_lt_mul (by rw [Fj];exact hi)
   have hr:i%k<k:=Nat.mod_lt _ bC
   have h2:=I1 (ys.map enc) k A4 (i/k) (enc (aa ys (i/k))) (bt hq) (i%k) ((enc (aa ys (i/k)))[i%k]'(by rw [hk];exact hr)) (kW _)
   have e:i/k*k+i%k=i:=by rw [Fj];exact Nat.div_add_mod _ _
   rw [e]at h2
   rw [h2,Array.getElem?_toList]
   simp only [Go.Sort.putCells,Array.getElem?_mapIdx]
   have A3:i<di.size:=oM
   rw [IQ A3]
   simp only [ua]
   rw [aH ⟨lI _,by rw [Go.Sort.size_flatK];simpa [hl]using hi⟩]
   simp only [Nat.sub_zero,id]
   rw [Go.Sort.get_flatK _ _ _ _ (by simpa [hl]using hi),get!_toArray _ _ hq]
   congr 1
   rw [List.getElem!_eq_getElem?_getD,kW (by rw [hk];exact hr)]
   rfl
  ·rename_i hi
   rw [Da]
   rw [y7 _ A4,bG,hl]
   omega
theorem aaT(L:SlLaysF0.n6 P ρ)(k t:Nat)(bC:0<k)(aE:∀w,(isAgg (ρ.t 24)).run P w= .ok true w)(zE:∀w,(Go.sizeOf (ρ.t 24)).run P w= .ok k w)(enc:α→List Value)(hk:∀x,(enc x).length=k)(h1:∀x,∀v∈enc x,v.oneCell'=true)(f:α→Int)(cf:α→α→Int)(rD:∀x y,cf x y<0↔f x<f y)(g:Nat)(cb:Array Value)(A:Option Addr)(c:Nat)(xs:List α)(W:World)
  (hm:Mem (aR [.ae t k A xs.length c (xs.map enc)]) W [.ae t k A xs.length c (xs.map enc)] W)(hn:0<xs.length)(gC:xs.length<4611686018427387904)(eg:fb P g)
  (ap9:∀x y w,aS (aR [.ae t k A xs.length c (xs.map enc)]) W w→Calls P g (#[.agg (enc x).toArray,.agg (enc y).toArray]++cb) w (aJ w (.int .i64 (cf x y)))):
  Calls P (ρ.f 6) #[.slice A xs.length c,.func (.func g) #[] cb] W (bk W (aR [.ae t k A xs.length c (xs.map enc)]) fun v m=>v= .tuple #[]∧∃ys:List α,ys.Perm xs∧m= [.ae t k A xs.length c (ys.map enc)]):=by
 have hh:(an.ae t k A xs.length c (xs.map enc)).holds W:=hm.holds _ sM
 obtain⟨b,di,rfl,hg,h3,h4,h5,h6⟩:=Mq hh hn
 have hY:∀q,aR [.ae t k (some ⟨b,0,none⟩) xs.length c (xs.map enc)] q↔q=b:=fun q=>by simp [aR,an.at,eq_comm]
 have ap_:=q_ hg
 have A4:∀z∈xs.map enc,z.length=k:=fun z hz=>by obtain⟨y,_,rfl⟩:=eS.1 hz;exact hk y
 have cS:=b_ hh
 have hH:Go.Sort.HoldsK enc k W b 0 xs.toArray:=by
  intro j hj
  have gU:j<xs.length*k:=by simpa using hj
  have hq:j/k<xs.length:=Nat.div_lt_of_lt_mul (by rw [Fj];exact gU)
  have hr:j%k<k:=Nat.mod_lt _ bC
  have e:j/k*k+j%k=j:=by rw [Fj];exact Nat.div_add_mod _ _
  constructor
  ·rcases cS with h|⟨ad,ha,h⟩
   ·have:xs= []:=by simpa using h
    subst this;simp at hn
   ·obtain rfl:=Option.some.inj ha
    have h2:=h (j/k) _ (bt hq) (j%k) ((enc (aa xs (j/k)))[j%k]'(by rw [hk];exact hr)) (kW _)
    have ea:(Addr.add ⟨b,0,none⟩ (j/k*k+j%k))=⟨b,0+j,none⟩:=by rw [yR,e]
    rw [ea]at h2
    rw [h2,Go.Sort.get_flatK _ _ _ _ (by simpa using gU),get!_toArray _ _ hq]
    congr 1
    simp only [id]
    rw [List.getElem!_eq_getElem?_getD,kW (by rw [hk];exact hr)]
    rfl
  ·simp [World.frozen?,hg]
 have hO:=ap8 f cf rD
 have LF:xs.toArray.size=xs.length:=by simp
 have bR:CmpLays P g cb enc k cf b 0 xs.toArray.size W:=by
  intro m os dk hdk x y
  have zM:=(aaS (m:=m) (os:=os) (ys:=dk.toList) bC hk hg h3 h4 h5 (by rw [Fh,hdk];simp)).1
  rw [Array.toArray_toList]at zM
  refine(ap9 x y _ ((aS.refl _ W).step zM fun q _ hx e=>hx ((hY q).2 e))).mono ?_
  rintro e w' ⟨he,hw⟩
  obtain⟨q,os',h⟩:=ap7 hw
  exact⟨he,q,os',h⟩
 have AA:=AnyQ.slices_SortFunc L k aE zE enc hk h1 cf hO g cb b 0 c xs.toArray W eg bR hH ap_ (by rw [LF];exact gC)
 rw [LF]at AA
 refine AA.mono ?_
 rintro e w' ⟨rfl,d',n,os,hp,_,rfl⟩
 obtain⟨dI,_,LG⟩:=hp
 rw [LF]at dI
 have e1:d'.extract 0 xs.length=d':=by rw [←dI];simp
 have e2:xs.toArray.extract 0 xs.length=xs.toArray:=by rw [←LF];simp
 rw [e1,e2]at LG
 have hw:=aaS (m:=n) (os:=os) (ys:=d'.toList) bC hk hg h3 h4 h5 (by rw [Fh,dI])
 rw [Array.toArray_toList]at hw
 refine⟨_,_,⟨rfl,d'.toList,by simpa using LG,rfl⟩,rfl,(aS.refl _ W).step hw.1 (fun q _ hx e=>hx ((hY q).2 e)),?_⟩
 exact Mem.nil.cons hw.2 (fun q hq=> .inr ((hY q).2 (by simpa [an.at,eq_comm]using hq)))  sM 
end
theorem ax.n3{r:an}{rs l:List an}:ax (r:: .aZ rs::l) (.aZ (rs++ [r])::l):= .trans .k8 (.Ny (Ma (l₁:= [r])))
end Hr
theorem asO(s:aP)(n:Int)(W:World)(hs:s.rd W)(hb:pW s n):Calls prog 26 #[s.val] W (bk W nX fun v m=>∃(ls:List n_) (O:Option Addr) (co:Nat),v= .slice O ls.length co∧m= [.ae 35 1 O ls.length co (ls.map n_.enc),.aZ (ls.map n_.ae)]∧1≤ls.length∧ls.length≤12∧∀l∈ls,l.eW.length≤400):=by
 obtain⟨hB,-⟩:=hb;have bp:eh W s.ms s.MA:=⟨hs.m,hs.mr⟩;have cO:1≤s.ms.length∧s.ms.length≤6:=hB.ml;have jc:1≤cH s.ps∧cH s.ps≤6:=hB.sn;have r9:0<s.ms.length:=oM
 have axO:(aa s.ms 0).cs.length=cH s.ps:=(hB.me r9).elim fun a h=>h.cs;apply En 2 func26 ntmps26;refine Nw 12 fun b1=>?_;refine rM (ax.cg 35 1) ?_;refine rM ax.tj ?_;apply Ks 0 [4,3,1,2] [1,0,0];refine FU (ι:=Nat×(List n_)×(Option Addr)×Nat) (fun gg=>gg.1≤cH s.ps∧gg.2.1.length=2*gg.1∧(∀l∈gg.2.1,l.eW.length≤400)) (fun gg=>Iv (gg.1:Int)) (fun gg=> .slice gg.2.2.1 gg.2.1.length gg.2.2.2) (fun gg=> .ae 35 1 gg.2.2.1 gg.2.1.length gg.2.2.2 (gg.2.1.map n_.enc)) (fun gg=> .aZ (gg.2.1.map n_.ae)) (fun gg=>cH s.ps-gg.1) (0, [],none,0) (by(try dsimp only);exact⟨oM,rfl,by simp⟩) rfl rfl .refl .refl ?_;rintro⟨c,ls,O,co⟩ hq;(try dsimp only at hq);obtain⟨yv,g_,kx⟩:=hq;refine sW ⟨(4,Iv c)::(3,.slice O ls.length co)::_,.ae 35 1 O ls.length co (ls.map n_.enc):: .aZ (ls.map n_.ae)::_⟩ ?_;have A6:c≤6:=oM
 apply ab 6;refine Qq 1 (Qi 0 rfl (.ao hs.m .no)) ?_;refine Qq 3 (Qf rfl (.ao hs.m .no)) ?_;apply kp 0 [1,2,3,4,17];apply Cd 0;intros;apply ab 8;apply Ks 0 [5,3,1,2,4] [0,0,0];refine FU (ι:=Nat×(List n_)×(Option Addr)×Nat) (fun gg=>gg.1≤2∧gg.2.1.length=2*c+gg.1∧(∀l∈gg.2.1,l.eW.length≤400)) (fun gg=>Iv (gg.1:Int)) (fun gg=> .slice gg.2.2.1 gg.2.1.length gg.2.2.2) (fun gg=> .ae 35 1 gg.2.2.1 gg.2.1.length gg.2.2.2 (gg.2.1.map n_.enc)) (fun gg=> .aZ (gg.2.1.map n_.ae)) (fun gg=>2-gg.1) (0,ls,O,co) (by(try dsimp only);exact⟨oM,oM,kx⟩) rfl rfl .refl .refl ?_;rintro⟨v,ls,O,co⟩ hq;(try dsimp only at hq);obtain⟨vm,g_,kx⟩:=hq;refine sW ⟨(5,Iv v)::(3,.slice O ls.length co)::_,.ae 35 1 O ls.length co (ls.map n_.enc):: .aZ (ls.map n_.ae)::_⟩ ?_;apply Cd 6;intros;apply ab 13;refine rM (ax.cg 53 2) ?_;apply Ks 0 [7,6,1,2,3,4,5] [0,0,0,0];refine jD (ι:=Nat×(List bY)×(Option Addr)×Nat) (fun gg=>gg.1≤s.ms.length∧gg.2.1.length≤56*gg.1) (fun gg=>Iv (gg.1:Int)) (fun gg=> .slice gg.2.2.1 gg.2.1.length gg.2.2.2) (fun gg=> .ae 53 2 gg.2.2.1 (gg.2.1).length gg.2.2.2 ((gg.2.1).map bY.enc)) (fun gg=>s.ms.length-gg.1) (0, [],none,0) (by(try dsimp only);exact⟨oM,by simp⟩) rfl rfl .refl ?_;rintro⟨i,l,A,ca⟩ hq;(try dsimp only at hq);obtain⟨kr,zi⟩:=hq;refine sW ⟨(7,Iv i)::(6,.slice A l.length ca)::_,.ae 53 2 A (l).length ca ((l).map bY.enc)::_⟩ ?_;apply ab 9;apply kp 0 [1,2,3,4,5,6,7,28];apply Cd 0;intros;have bw:i<s.ms.length:=oM
 apply ab 10;refine Qq 1 (Qi i rfl (.ao hs.m .no)) ?_;refine Qq 3 (Qf rfl (.ao hs.m .no)) ?_;apply Sd 0 40;intro _ qN;apply ab 22;apply kp 0 [1,2,3,4,5,6,7];refine Ag (i+1,l,A,ca) ?_;exact⟨oM,oM⟩;intro _ qN;apply ab 4;refine Qq 1 (Qi i rfl (.ao hs.m .no)) ?_;refine Qq 1 (Qf rfl (.ao hs.m .no)) ?_;refine Qq 1 (Qi c rfl (.ao (bp.cs bw) .no)) ?_;refine Qq 4 (Qf rfl (.ao (bp.cs bw) .no)) ?_;apply kp 0 [1,2,3,4,5,6,7,54];apply Cd 0;intros;apply ab 6;apply kp 0 [1,2,3,4,5,6,7];refine Ag (i+1,l,A,ca) ?_;exact⟨oM,oM⟩;intros;have dh:c<(aa s.ms i).cs.length:=oM
 have gQ:v<((aa (aa s.ms i).cs c)).vs.length:=oM
 have kG:((aa (aa (aa s.ms i).cs c).vs v)).es.length≤56:=((hB.cell bw dh).2.2 v gQ).elim fun a h=>h.len.2;apply ab 6;refine Qq 1 (Qi i rfl (.ao hs.m .no)) ?_;refine Qq 1 (Qf rfl (.ao hs.m .no)) ?_;refine Qq 1 (Qi c rfl (.ao (bp.cs bw) .no)) ?_;refine Qq 1 (Qf rfl (.ao (bp.cs bw) .no)) ?_;refine Qq 1 (Qi v rfl (.ao (bp.vs bw dh) .no)) ?_;refine Qq 2 (Qf rfl (.ao (bp.vs bw dh) .no)) ?_;apply kp 5 [1,2,3,4,5,6,7,8];apply Ks 0 [9,6,1,2,3,4,5,7,8] [0,0,0,0];refine jD (ι:=Nat×(List bY)×(Option Addr)×Nat) (fun gg=>gg.1≤((aa (aa (aa s.ms i).cs c).vs v)).es.length∧gg.2.1.length≤56*i+gg.1) (fun gg=>Iv (gg.1:Int)) (fun gg=> .slice gg.2.2.1 gg.2.1.length gg.2.2.2) (fun gg=> .ae 53 2 gg.2.2.1 (gg.2.1).length gg.2.2.2 ((gg.2.1).map bY.enc)) (fun gg=>((aa (aa (aa s.ms i).cs c).vs v)).es.length-gg.1) (0,l,A,ca) (by(try dsimp only);exact⟨oM,oM⟩) rfl rfl .refl ?_;rintro⟨x,l,A,ca⟩ hq;(try dsimp only at hq);obtain⟨o8,zi⟩:=hq;refine sW ⟨(9,Iv x)::(6,.slice A l.length ca)::_,.ae 53 2 A (l).length ca ((l).map bY.enc)::_⟩ ?_;apply ab 8;apply kp 0 [1,2,3,4,5,6,7,8,9,72];apply Cd 0;intros;have i_:x<((aa (aa (aa s.ms i).cs c).vs v)).es.length:=oM
 apply ab 7;refine Qq 1 (Qi x rfl (.ao (bp.es bw dh gQ) .no)) ?_;refine Qq 0 (iL rfl zA rfl (.ao (bp.es bw dh gQ) .no) (bt  oM) rfl rfl) ?_;refine Nw 0 fun b81=>?_;refine Hh (cn rfl rfl rfl zU zI rfl rfl sZ rfl (.ae sZ)  sM  (a_ rfl) (a_ rfl)  oM oM) ?_;rintro⟨A82,c82⟩-;apply ab 2;apply kp 6 [1,2,3,4,5,6,7,8,9];refine Ag (x+1,l++ [⟨((aa (aa (aa (aa s.ms i).cs c).vs v).es x)).x.n.bX,((aa (aa (aa (aa s.ms i).cs c).vs v).es x)).x.n.aG⟩],A82,c82) ?_ (hs:=ar (.az rfl (aD  oM) (.az rfl (by congr 1;simp) nZ)) (.cons (iZ 0) (.ae rfl  sM  rfl (by rw [bT];rfl)) mZ));exact⟨oM,by simp;omega⟩;intros;apply ab 1;apply kp 6 [1,2,3,4,5,6,7];refine Ag (i+1,l,A,ca) ?_;exact⟨oM,oM⟩;intros;apply ab 4;refine Nw 0 fun b85=>?_;refine Hh (cn rfl rfl rfl zU zI rfl rfl sZ rfl (.ae sZ)  sM  (a_ rfl) (a_ rfl)  oM oM) ?_;rintro⟨A86,c86⟩-;apply ab 2;apply kp 1 [1,2,3,4,5];refine rM (ax.trans (dZ [3,2,0,0,0]) (ax.trans (ax.aI (List.Perm.swap _ _ _)) ax.n3)) ?_;apply ab 5;refine Ag (v+1,ls++ [⟨l,A,ca⟩],A86,c86) ?_ (hs:=ar (.az rfl (aD  oM) (.az rfl (by congr 1;simp) nZ)) (.cons (iZ 1) (.ae rfl  sM  rfl (by rw [bT];rfl)) (.cons (iZ 0) (.eq (aY an.aZ (by rw [bT];rfl))) mZ)));exact⟨oM,by simp;omega,fun y hy=>by rcases dK.1 hy with h|h;(· exact kx y h);(· rw [c_.1 h];show l.length≤400;omega)⟩;intros;apply ab 1;apply kp 6 [1,2,3,4];refine Ag (c+1,ls,O,co) ?_;exact⟨oM,oM,kx⟩;intros;apply ab 1;apply kp 6 [2,3];apply Km 0 [0,0];exact aw rfl rfl ⟨ls,O,co,rfl,rfl,oM,oM,kx⟩
end Go.Proofs.YtafaoccjbifbaaaGreat
