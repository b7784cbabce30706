/- Part 22 of listenerHearsItself_holds. -/
import Derived.Ground.SlsfProg
import Derived.Scope
import Derived.Shelf.Bits.Mul64
import Derived.Shelf.SlGeneric
import Derived.Shelf.SlSortCmp.WholeK
import Derived.Shelf.Small.Bits
import Derived.Shelf.Spec.BitsCarry
import Derived.Test.YtafaoccjbifbaaaGreatQ09
import Derived.Test.YtafaoccjbifbaaaGreatQ10
import Derived.Test.YtafaoccjbifbaaaGreatQ14
set_option linter.unusedSimpArgs false
set_option linter.unusedVariables false
set_option maxHeartbeats 40000000
set_option maxRecDepth 100000
namespace Go.Proofs.YtafaoccjbifbaaaGreat
open Go Go.RowKit Hr Go.Proofs.Tryz
section
open Go.Shelf Go.Proofs
def Tryz.alF:Go.Shelf.Ren:=⟨fun|264=>261|n=>n,fun|53=>411|46=>342|n=>n,fun|n=>n⟩
theorem Tryz.alG:Go.Proofs.Lays.n264 prog Tryz.alF:={
 mixed:=by kernel_rfl
 f264:=func261.trans (aY some (by kernel_rfl))
 t46:=k6
 a46:=Tryz.isAgg342
 z46:=Tryz.sizeOf342
 v46:=Tryz.zeroValue342
 t53:=sj
 a53:=Tryz.isAgg411
 z53:=Tryz.sizeOf411
 v53:=Tryz.zeroValue411}
def Tryz.alH:Go.Shelf.Ren:=⟨fun|134=>314|129=>276|n=>n,fun|53=>411|3=>3|4=>4|46=>342|5=>5|9=>9|n=>n,fun|n=>n⟩
theorem Tryz.alI:Go.Proofs.Lays.n134 prog Tryz.alH:={
 mixed:=by kernel_rfl
 f129:=func276.trans (aY some (by kernel_rfl))
 f134:=func314.trans (aY some (by kernel_rfl))
 t3:=bZ
 a3:=Tryz.isAgg3
 z3:=Tryz.sizeOf3
 v3:=Tryz.zeroValue3
 t4:=xj
 a4:=Tryz.isAgg4
 z4:=Tryz.sizeOf4
 v4:=Tryz.zeroValue4
 t5:=jo
 a5:=Tryz.isAgg5
 z5:=Tryz.sizeOf5
 v5:=Tryz.zeroValue5
 t9:=vI
 a9:=Tryz.isAgg9
 z9:=Tryz.sizeOf9
 v9:=Tryz.zeroValue9
 t46:=k6
 a46:=Tryz.isAgg342
 z46:=Tryz.sizeOf342
 v46:=Tryz.zeroValue342
 t53:=sj
 a53:=Tryz.isAgg411
 z53:=Tryz.sizeOf411
 v53:=Tryz.zeroValue411}
def Tryz.alJ:Go.Shelf.Ren:=⟨fun|25=>313|n=>n,fun|22=>411|n=>n,fun|n=>n⟩
theorem Tryz.alK:Go.Proofs.Lays7.n25 prog Tryz.alJ:={
 mixed:=by kernel_rfl
 f25:=func313.trans (aY some (by kernel_rfl))
 t22:=sj
 a22:=Tryz.isAgg411
 z22:=Tryz.sizeOf411
 v22:=Tryz.zeroValue411
 i22:=by kernel_rfl}
def Tryz.alL:Go.Shelf.Ren:=⟨fun|6=>329|15=>195|14=>341|28=>275|29=>276|20=>348|21=>349|22=>350|23=>351|24=>352|25=>353|26=>354|27=>355|46=>358|47=>319|48=>320|49=>359|50=>360|57=>361|n=>n,fun|22=>291|24=>164|25=>436|3=>3|39=>342|0=>0|53=>409|55=>411|4=>4|46=>422|45=>421|50=>252|5=>5|9=>9|66=>462|70=>466|76=>479|77=>480|n=>n,fun|n=>n⟩
theorem Tryz.alM:Go.Proofs.SlLaysF0.n6 prog Tryz.alL:={
 mixed:=by kernel_rfl
 f6:=⟨Tryz.f329.name,by decide,func329.trans (aY some (by kernel_rfl))⟩
 f14:=⟨Tryz.f341.name,by decide,func341.trans (aY some (by kernel_rfl))⟩
 f15:=func195.trans (aY some (by kernel_rfl))
 f20:=⟨Tryz.f348.name,by decide,func348.trans (aY some (by kernel_rfl))⟩
 f21:=⟨Tryz.f349.name,by decide,func349.trans (aY some (by kernel_rfl))⟩
 f22:=⟨Tryz.f350.name,by decide,func350.trans (aY some (by kernel_rfl))⟩
 f23:=⟨Tryz.f351.name,by decide,func351.trans (aY some (by kernel_rfl))⟩
 f24:=⟨Tryz.f352.name,by decide,func352.trans (aY some (by kernel_rfl))⟩
 f25:=⟨Tryz.f353.name,by decide,func353.trans (aY some (by kernel_rfl))⟩
 f26:=⟨Tryz.f354.name,by decide,func354.trans (aY some (by kernel_rfl))⟩
 f27:=⟨Tryz.f355.name,by decide,func355.trans (aY some (by kernel_rfl))⟩
 f28:=func275.trans (aY some (by kernel_rfl))
 f29:=func276.trans (aY some (by kernel_rfl))
 f46:=⟨Tryz.f358.name,by decide,func358.trans (aY some (by kernel_rfl))⟩
 f47:=func319.trans (aY some (by kernel_rfl))
 f48:=func320.trans (aY some (by kernel_rfl))
 f49:=⟨Tryz.f359.name,by decide,func359.trans (aY some (by kernel_rfl))⟩
 f50:=⟨Tryz.f360.name,by decide,func360.trans (aY some (by kernel_rfl))⟩
 f57:=⟨Tryz.f361.name,by decide,func361.trans (aY some (by kernel_rfl))⟩
 t0:=underlying0
 a0:=Tryz.isAgg0
 z0:=Tryz.sizeOf0
 v0:=Tryz.zeroValue0
 t3:=bZ
 a3:=Tryz.isAgg3
 z3:=Tryz.sizeOf3
 v3:=Tryz.zeroValue3
 t4:=xj
 a4:=Tryz.isAgg4
 z4:=Tryz.sizeOf4
 v4:=Tryz.zeroValue4
 t5:=jo
 a5:=Tryz.isAgg5
 z5:=Tryz.sizeOf5
 v5:=Tryz.zeroValue5
 t9:=vI
 a9:=Tryz.isAgg9
 z9:=Tryz.sizeOf9
 v9:=Tryz.zeroValue9
 t22:=underlying291
 a22:=Tryz.isAgg291
 z22:=Tryz.sizeOf291
 v22:=Tryz.zeroValue291
 t25:=underlying436
 a25:=Tryz.isAgg436
 z25:=Tryz.sizeOf436
 v25:=Tryz.zeroValue436
 t39:=k6
 a39:=Tryz.isAgg342
 z39:=Tryz.sizeOf342
 v39:=Tryz.zeroValue342
 t45:=underlying421
 a45:=Tryz.isAgg421
 z45:=Tryz.sizeOf421
 v45:=Tryz.zeroValue421
 t46:=underlying422
 a46:=Tryz.isAgg422
 z46:=Tryz.sizeOf422
 v46:=Tryz.zeroValue422
 t50:=underlying252
 a50:=Tryz.isAgg252
 z50:=Tryz.sizeOf252
 v50:=Tryz.zeroValue252
 t53:=underlying409
 a53:=Tryz.isAgg409
 z53:=Tryz.sizeOf409
 v53:=Tryz.zeroValue409
 t55:=sj
 a55:=Tryz.isAgg411
 z55:=Tryz.sizeOf411
 v55:=Tryz.zeroValue411
 t66:=underlying462
 a66:=Tryz.isAgg462
 z66:=Tryz.sizeOf462
 v66:=Tryz.zeroValue462
 t70:=underlying466
 a70:=Tryz.isAgg466
 z70:=Tryz.sizeOf466
 v70:=Tryz.zeroValue466
 t76:=underlying479
 a76:=Tryz.isAgg479
 z76:=Tryz.sizeOf479
 v76:=Tryz.zeroValue479
 t77:=underlying480
 a77:=Tryz.isAgg480
 z77:=Tryz.sizeOf480
 v77:=Tryz.zeroValue480}
def Tryz.al_:Go.Shelf.Ren:=⟨fun|6=>109|15=>195|14=>194|28=>275|29=>276|20=>267|21=>268|22=>269|23=>270|24=>271|25=>272|26=>273|27=>274|46=>318|47=>319|48=>320|49=>321|50=>322|57=>337|n=>n,fun|22=>251|24=>171|25=>257|3=>3|39=>342|0=>0|53=>409|55=>411|4=>4|46=>422|45=>421|50=>252|5=>5|9=>9|66=>462|70=>466|76=>479|77=>480|n=>n,fun|n=>n⟩
theorem Tryz.ama:Go.Proofs.SlLaysF0.n6 prog Tryz.al_:={
 mixed:=by kernel_rfl
 f6:=⟨Tryz.f109.name,by decide,func109.trans (aY some (by kernel_rfl))⟩
 f14:=⟨Tryz.f194.name,by decide,func194.trans (aY some (by kernel_rfl))⟩
 f15:=func195.trans (aY some (by kernel_rfl))
 f20:=⟨Tryz.f267.name,by decide,func267.trans (aY some (by kernel_rfl))⟩
 f21:=⟨Tryz.f268.name,by decide,func268.trans (aY some (by kernel_rfl))⟩
 f22:=⟨Tryz.f269.name,by decide,func269.trans (aY some (by kernel_rfl))⟩
 f23:=⟨Tryz.f270.name,by decide,func270.trans (aY some (by kernel_rfl))⟩
 f24:=⟨Tryz.f271.name,by decide,func271.trans (aY some (by kernel_rfl))⟩
 f25:=⟨Tryz.f272.name,by decide,func272.trans (aY some (by kernel_rfl))⟩
 f26:=⟨Tryz.f273.name,by decide,func273.trans (aY some (by kernel_rfl))⟩
 f27:=⟨Tryz.f274.name,by decide,func274.trans (aY some (by kernel_rfl))⟩
 f28:=func275.trans (aY some (by kernel_rfl))
 f29:=func276.trans (aY some (by kernel_rfl))
 f46:=⟨Tryz.f318.name,by decide,func318.trans (aY some (by kernel_rfl))⟩
 f47:=func319.trans (aY some (by kernel_rfl))
 f48:=func320.trans (aY some (by kernel_rfl))
 f49:=⟨Tryz.f321.name,by decide,func321.trans (aY some (by kernel_rfl))⟩
 f50:=⟨Tryz.f322.name,by decide,func322.trans (aY some (by kernel_rfl))⟩
 f57:=⟨Tryz.f337.name,by decide,func337.trans (aY some (by kernel_rfl))⟩
 t0:=underlying0
 a0:=Tryz.isAgg0
 z0:=Tryz.sizeOf0
 v0:=Tryz.zeroValue0
 t3:=bZ
 a3:=Tryz.isAgg3
 z3:=Tryz.sizeOf3
 v3:=Tryz.zeroValue3
 t4:=xj
 a4:=Tryz.isAgg4
 z4:=Tryz.sizeOf4
 v4:=Tryz.zeroValue4
 t5:=jo
 a5:=Tryz.isAgg5
 z5:=Tryz.sizeOf5
 v5:=Tryz.zeroValue5
 t9:=vI
 a9:=Tryz.isAgg9
 z9:=Tryz.sizeOf9
 v9:=Tryz.zeroValue9
 t22:=underlying251
 a22:=Tryz.isAgg251
 z22:=Tryz.sizeOf251
 v22:=Tryz.zeroValue251
 t25:=underlying257
 a25:=Tryz.isAgg257
 z25:=Tryz.sizeOf257
 v25:=Tryz.zeroValue257
 t39:=k6
 a39:=Tryz.isAgg342
 z39:=Tryz.sizeOf342
 v39:=Tryz.zeroValue342
 t45:=underlying421
 a45:=Tryz.isAgg421
 z45:=Tryz.sizeOf421
 v45:=Tryz.zeroValue421
 t46:=underlying422
 a46:=Tryz.isAgg422
 z46:=Tryz.sizeOf422
 v46:=Tryz.zeroValue422
 t50:=underlying252
 a50:=Tryz.isAgg252
 z50:=Tryz.sizeOf252
 v50:=Tryz.zeroValue252
 t53:=underlying409
 a53:=Tryz.isAgg409
 z53:=Tryz.sizeOf409
 v53:=Tryz.zeroValue409
 t55:=sj
 a55:=Tryz.isAgg411
 z55:=Tryz.sizeOf411
 v55:=Tryz.zeroValue411
 t66:=underlying462
 a66:=Tryz.isAgg462
 z66:=Tryz.sizeOf462
 v66:=Tryz.zeroValue462
 t70:=underlying466
 a70:=Tryz.isAgg466
 z70:=Tryz.sizeOf466
 v70:=Tryz.zeroValue466
 t76:=underlying479
 a76:=Tryz.isAgg479
 z76:=Tryz.sizeOf479
 v76:=Tryz.zeroValue479
 t77:=underlying480
 a77:=Tryz.isAgg480
 z77:=Tryz.sizeOf480
 v77:=Tryz.zeroValue480}
end
theorem QK(x y:Int)(hx:yj x)(hy:yj y)(W:World):Calls prog 261 #[.int .u64 x,.int .u64 y] W (Hr.aJ W (.tuple #[.int .u64 (x*y/18446744073709551616),.int .u64 (x*y%18446744073709551616)])):=by
 obtain⟨a,rfl⟩:=AS hx.1;obtain⟨b,rfl⟩:=AS hy.1;have h:=Any.bits_Mul64 Tryz.alG a b (by have:=hx.2;omega) (by have:=hy.2;omega) W;change Calls prog 261 _ _ _ at h;refine h.mono ?_;rintro e w' ⟨rfl,rfl⟩;refine⟨?_,aS.refl _ _⟩;rw [Int.natCast_ediv,Int.natCast_emod,yS];rfl
theorem amp(x:Nat)(h0:x≠0)(hx:x<18446744073709551616)(W:World):Calls prog 314 #[.int .u64 (x:Int)] W (Hr.aJ W (Iv ((64-Lib.bitLen x:Nat):Int))):=by
 have h:=Any.bits_LeadingZeros64 Tryz.alI (x:Int) W  oM oM ;change Calls prog 314 _ _ _ at h;refine h.mono ?_;rintro e w' ⟨rfl,rfl⟩;refine⟨?_,aS.refl _ _⟩;have:=(Ys h0 hx).1;rw [show((x:Int)).toNat=x from oM];congr 2;omega
theorem Yt(x y c:Int)(hx:0≤x)(hy:0≤y)(hc:0≤c∧c≤1)(w:World):(callFunc 313 #[.int .u64 x,.int .u64 y,.int .u64 c]).run prog w= .ok (.value (.tuple #[.int .u64 ((x+y+c)%18446744073709551616),.int .u64 ((x+y+c)/18446744073709551616)])) w:=by
 obtain⟨x,rfl⟩:=AS hx;obtain⟨y,rfl⟩:=AS hy;obtain⟨c,rfl⟩:=AS hc.1;refine(Any7.bits_Add64 Tryz.alK x y c  oM w).trans ?_;congr 5<;>omega
theorem amq(hi lo:Int)(yn:Nat)(W:World)(h1:yj hi)(h2:yj lo)(h3:yj (yn:Int))(h4:604800≤yn)(hb:hi*18446744073709551616+lo≤1073741824*(yn:Int)):Calls prog 262 #[.int .u64 hi,.int .u64 lo,.int .u64 (yn:Int)] W (bk W nX fun v m=>∃q r:Int,v= .tuple #[.int .u64 q,.int .u64 r]∧m= []∧0≤q∧q≤4294967296):=by
 obtain⟨h1a,h1b⟩:=h1;obtain⟨QL,h2b⟩:=h2;obtain⟨h3a,h3b⟩:=h3;obtain⟨ym,EU,dC⟩:=Ys (x:=yn)  oM oM ;obtain⟨s,hs⟩:∃s,s=64-Lib.bitLen yn:=⟨_,rfl⟩;rw [←hs]at EU dC;have QM:s≤64:=oM
 obtain⟨K,hK⟩:∃K,K=2^s:=⟨_,rfl⟩;rw [←hK]at EU dC;have QN:((2:Int)^s)=(K:Int):=by rw [hK];push_cast;rfl
 have hKp:0<K:=by rw [hK];exact Nat.pow_pos (by decide)
 obtain⟨ys,pf⟩:∃ys,ys=yn*K:=⟨_,rfl⟩;rw [←pf]at EU dC;apply En 20 func262 ntmps262;apply kp 8 [0,1,2,6,7,24];apply Cd 0;intros;apply ab 1;apply Dd 2 [0,1,2,3,4,5,6,7];refine Dq 2 rfl (lz rfl rfl rfl ⟨oM,oM⟩ (QI ⟨oM,oM⟩  oM)) ?_;refine Dq 3 rfl (db rfl rfl rfl  oM) ?_;apply kp 1 [0,1,2,6,7];exact c6 rfl rfl rfl ⟨_,_,rfl,rfl,vE QL  oM,AR (Int.ediv_lt_of_lt_mul  oM oM)⟩;intros;apply ab 4;refine Qq 0 (Qc rfl fun w _ _=>amp yn  oM oM w) ?_;refine Qq 2 (dT rfl rfl bZ k6 (wU ⟨oM,oM⟩)) ?_;apply kp 1 [0,1,2,6,7,8];refine cG (ar (.cons (s:=0) rfl (.cons (s:=1) rfl (.cons (s:=2) rfl (.cons (s:=6) rfl (.cons (s:=7) rfl (.az (s:=8) (v':= .int .u64 (s:Int)) rfl (aD (by rw [hs])) .nil)))))) .refl) ?_;apply ab 3;refine Qq 2 (Nc rfl rfl rfl  oM) ?_;apply kp 1 [0,1,2,6,7,8];refine cG (ar (.cons (s:=0) rfl (.cons (s:=1) rfl (.az (s:=2) (v':= .int .u64 (ys:Int)) rfl (aD (by rw [Yq QM,QN,←yS,←pf];omega)) (eL [6,7,8])))) .refl) ?_;apply ab 2;refine Qq 3 (oI rfl rfl rfl (by decide)) ?_;obtain⟨Yu,ams⟩:∃z:Int,z=(ys:Int)/4294967296:=⟨_,rfl⟩;refine cG (ar (.cons (s:=0) rfl (.cons (s:=1) rfl (.cons (s:=2) rfl (.cons (s:=6) rfl (.cons (s:=7) rfl (.cons (s:=8) rfl (.cons (s:=40) rfl (.cons (s:=41) rfl (.az (s:=9) (v':= .int .u64 Yu) rfl (aD (by rw [Yp  oM,ams])) .nil))))))))) .refl) ?_;apply ab 2;refine Qq 2 (sy rfl rfl rfl) ?_;apply kp 1 [0,1,2,6,7,8,9,10];obtain⟨Yv,amt⟩:∃z:Int,z=(ys:Int)%4294967296:=⟨_,rfl⟩;refine cG (ar (.cons (s:=0) rfl (.cons (s:=1) rfl (.cons (s:=2) rfl (.cons (s:=6) rfl (.cons (s:=7) rfl (.cons (s:=8) rfl (.cons (s:=9) rfl (.az (s:=10) (v':= .int .u64 Yv) rfl (aD (by rw [Yn ⟨oM,oM⟩,amt])) .nil)))))))) .refl) ?_;apply ab 3;refine Qq 2 (Nc rfl rfl rfl  oM) ?_;refine Qq 0 (AZ rfl rfl rfl) ?_;refine Qq 0 (oI rfl rfl rfl (Cs _).1) ?_;refine Qq 2 (amb rfl rfl rfl) ?_;apply kp 1 [1,2,6,7,8,9,10,11];have ET:(0:Int)<(K:Int):=oM
 have e1:hi*(K:Int)*18446744073709551616≤1073741824*(ys:Int):=by have:=nk (show hi*18446744073709551616≤1073741824*(yn:Int) by omega) (AR ET);rw [pf,yS];rw [C8,C8]at this;rw [C8,Int.mul_comm (K:Int)];exact this
 have e2:lo*(K:Int)≤1073741824*(ys:Int):=by have:=nk (show lo≤1073741824*(yn:Int) by omega) (AR ET);rw [pf,yS];rw [C8]at this;exact this
 have e3:0≤hi*(K:Int):=py h1a (AR ET);have e4:lo/2^(64-s)<1073741824:=amj QM QN ET e2  oM ;have e5:0≤lo/2^(64-s):=vE QL (AR (Int.pow_pos (by decide)));obtain⟨u32,amu,hu0,qT⟩:∃u:Int,ES .u64 (hi*(K:Int)) (lo/2^(64-s))=u∧0≤u∧u<1073741824:=⟨_,rfl,(Yo (n:=30) ⟨e3,oM⟩ ⟨e5,oM⟩ (by decide)).1,(Yo (n:=30) ⟨e3,oM⟩ ⟨e5,oM⟩ (by decide)).2⟩;refine cG (ar (.cons (s:=1) rfl (.cons (s:=2) rfl (.cons (s:=6) rfl (.cons (s:=7) rfl (.cons (s:=8) rfl (.cons (s:=9) rfl (.cons (s:=10) rfl (.az (s:=11) (v':= .int .u64 u32) rfl (aD (by rw [Yq QM,QN,Int.emod_eq_of_lt e3  oM,wU ⟨oM,oM⟩,show(64:Int)-(s:Int)=((64-s:Nat):Int)from oM,ami QL  oM];exact amu)) .nil)))))))) .refl) ?_;apply ab 3;refine Qq 2 (Nc rfl rfl rfl  oM) ?_;apply kp 1 [2,6,7,8,9,10,11,12];obtain⟨QO,amw,Yw,amx⟩:∃z:Int,IntKind.u64.wrap (lo*2^(min (Int.toNat (s:Int)) (IntKind.bits .u64)))=z∧0≤z∧z<18446744073709551616:=⟨_,rfl,(Cs _).1,(Cs _).2⟩;refine cG (ar (.cons (s:=2) rfl (.cons (s:=6) rfl (.cons (s:=7) rfl (.cons (s:=8) rfl (.cons (s:=9) rfl (.cons (s:=10) rfl (.cons (s:=11) rfl (.az (s:=12) (v':= .int .u64 QO) rfl (aD amw) .nil)))))))) .refl) ?_;apply ab 2;refine Qq 3 (oI rfl rfl rfl (by decide)) ?_;obtain⟨Yx,amy⟩:∃z:Int,z=QO/4294967296:=⟨_,rfl⟩;refine cG (ar (.cons (s:=2) rfl (.cons (s:=6) rfl (.cons (s:=7) rfl (.cons (s:=8) rfl (.cons (s:=9) rfl (.cons (s:=10) rfl (.cons (s:=11) rfl (.cons (s:=12) rfl (.cons (s:=55) rfl (.cons (s:=56) rfl (.az (s:=13) (v':= .int .u64 Yx) rfl (aD (by rw [Yp Yw,amy])) .nil))))))))))) .refl) ?_;apply ab 2;refine Qq 2 (sy rfl rfl rfl) ?_;apply kp 1 [2,6,7,8,9,10,11,13,14];obtain⟨Yy,amz⟩:∃z:Int,z=QO%4294967296:=⟨_,rfl⟩;refine cG (ar (.cons (s:=2) rfl (.cons (s:=6) rfl (.cons (s:=7) rfl (.cons (s:=8) rfl (.cons (s:=9) rfl (.cons (s:=10) rfl (.cons (s:=11) rfl (.cons (s:=13) rfl (.az (s:=14) (v':= .int .u64 Yy) rfl (aD (by rw [Yn ⟨Yw,amx⟩,amz])) .nil))))))))) .refl) ?_;apply ab 3;refine Qq 2 (lz rfl rfl rfl ⟨oM,oM⟩ (QI ⟨oM,oM⟩  oM)) ?_;apply kp 1 [2,6,7,8,9,10,11,13,14,15];refine cG (ar (.cons (s:=2) rfl (.cons (s:=6) rfl (.cons (s:=7) rfl (.cons (s:=8) rfl (.cons (s:=9) rfl (.cons (s:=10) rfl (.cons (s:=11) rfl (.cons (s:=13) rfl (.cons (s:=14) rfl (.az (s:=15) (v':= .int .u64 0) rfl (aD (Int.ediv_eq_zero_of_lt hu0  oM)) .nil)))))))))) .refl) ?_;apply ab 4;refine Qq 0 (pD rfl rfl rfl) ?_;refine Qq 2 (AZ rfl rfl rfl) ?_;apply kp 2 [2,6,7,8,9,10,11,13,14,15,16];apply Ks 0 [2,6,7,8,9,10,11,13,14,15,16] [];refine Ba (ι:=Unit) (fun _=>True) (fun _=>0) () trivial ?_;rintro- -;apply ab 8;refine Qq 1 (pD rfl rfl rfl) ?_;refine Qq 1 (pD rfl rfl rfl) ?_;refine Qq 3 (vO rfl rfl rfl) ?_;refine dM rfl (cz (yW.2 (vG (Int.le_of_eq (show IntKind.u64.wrap (0*Yv)=0 from by rw [AQ];rfl)) (Cs _).1))) ?_;apply ab 4;refine Qq 1 (pD rfl rfl rfl) ?_;refine Qq 2 (vO rfl rfl rfl) ?_;refine Qq 0 (pD rfl rfl rfl) ?_;refine Qq 2 (AZ rfl rfl rfl) ?_;apply kp 1 [2,6,7,8,9,10,14,15,16,17];obtain⟨QP,avu,gQ,vm⟩:∃z:Int,z=u32*4294967296+Yx∧0≤z∧z<9223372036854775808:=⟨_,rfl,oM,oM⟩;refine cG (ar (.cons (s:=2) rfl (.cons (s:=6) rfl (.cons (s:=7) rfl (.cons (s:=8) rfl (.cons (s:=9) rfl (.cons (s:=10) rfl (.cons (s:=14) rfl (.cons (s:=15) rfl (.cons (s:=16) rfl (.az (s:=17) (v':= .int .u64 QP) rfl (aD (by rw [show(0:Int)*(ys:Int)=0 from AQ _];simp only [yk];omega)) .nil)))))))))) .refl) ?_;apply ab 3;refine Qq 2 (lz rfl rfl rfl ⟨oM,oM⟩ (QI ⟨oM,oM⟩  oM)) ?_;apply kp 1 [2,6,7,8,9,10,14,15,16,17,18];obtain⟨q0,jA⟩:∃z:Int,z=QP/Yu:=⟨_,rfl⟩;have Yz:0≤q0∧q0<4294967296:=by rw [jA];exact amk ⟨gQ,vm⟩  oM
 refine cG (ar (.cons (s:=2) rfl (.cons (s:=6) rfl (.cons (s:=7) rfl (.cons (s:=8) rfl (.cons (s:=9) rfl (.cons (s:=10) rfl (.cons (s:=14) rfl (.cons (s:=15) rfl (.cons (s:=16) rfl (.cons (s:=17) rfl (.az (s:=18) (v':= .int .u64 q0) rfl (aD jA.symm) .nil))))))))))) .refl) ?_;apply ab 4;refine Qq 0 (pD rfl rfl rfl) ?_;refine Qq 2 (AZ rfl rfl rfl) ?_;apply kp 2 [2,6,7,8,9,10,14,15,16,17,18];apply Ks 0 [18,16,2,6,7,8,9,10,14,15,17] [];refine kv (ι:=Int×Int) (fun gg=>0≤gg.1∧gg.1<4294967296∧yj gg.2) (fun gg=> .int .u64 gg.1) (fun gg=> .int .u64 gg.2) (fun gg=>gg.1.toNat) (q0,_) (by(try dsimp only);exact⟨Yz.1,Yz.2,Cs _⟩) rfl rfl ?_;rintro⟨q,r⟩ hq;(try dsimp only at hq);obtain⟨hqa,hqz,hr⟩:=hq;refine sW ⟨(18,.int .u64 q)::(16,.int .u64 r)::_,_⟩ ?_;apply ab 8;refine Qq 1 (pD rfl rfl rfl) ?_;refine Qq 1 (pD rfl rfl rfl) ?_;refine Qq 1 (vO rfl rfl rfl) ?_;refine Qq 1 (dX rfl rfl (cz  oM) rfl) ?_;apply kp 0 [2,6,7,8,9,10,14,15,16,17,18,113];apply Cd 0;intro amA _;have EV:1≤q:=yW.1 fun bN=>by rw [show q=0 from oM,AQ,show IntKind.u64.wrap 0=0 from rfl]at amA;have:=(Cs (IntKind.u64.wrap (4294967296*r)+Yy)).1;omega
 apply ab 5;refine Qq 6 (AZ rfl rfl rfl) ?_;refine Qq 2 (vO rfl rfl rfl) ?_;apply kp 5 [2,6,7,8,9,10,14,15,16,17,18];apply Cd 0;intros;apply ab 4;refine Qq 1 (pD rfl rfl rfl) ?_;refine Qq 1 (vO rfl rfl rfl) ?_;refine Qq 1 (pD rfl rfl rfl) ?_;refine Qq 2 (vO rfl rfl rfl) ?_;refine Qq 0 (pD rfl rfl rfl) ?_;refine Qq 1 (AZ rfl rfl rfl) ?_;refine Qq 3 (oI rfl rfl rfl  oM) ?_;apply kp 1 [6,7];exact c6 rfl rfl rfl ⟨_,_,rfl,rfl,by simp only [yk];omega,by simp only [yk];omega⟩;intros;apply ab 2;refine Ag (q-1,_) ?_ (hs:=ar (.az rfl (aD (by rw [wU ⟨oM,oM⟩])) nZ) .nil);exact⟨oM,oM,Cs _⟩;intros;apply ab 4;refine Qq 1 (pD rfl rfl rfl) ?_;refine Qq 1 (vO rfl rfl rfl) ?_;refine Qq 1 (pD rfl rfl rfl) ?_;refine Qq 2 (vO rfl rfl rfl) ?_;refine Qq 0 (pD rfl rfl rfl) ?_;refine Qq 1 (AZ rfl rfl rfl) ?_;refine Qq 3 (oI rfl rfl rfl  oM) ?_;apply kp 1 [6,7];exact c6 rfl rfl rfl ⟨_,_,rfl,rfl,by simp only [yk];omega,by simp only [yk];omega⟩
theorem Bi{a x:Int}(ha:0≤a∧a≤2850000)(hx:0≤x∧x≤268435456):0≤a*x∧a*x≤2850000*x:=⟨py ha.1 hx.1,nk ha.2 hx.1⟩
theorem amB(a x b y:Int)(W:World)(ha:0≤a∧a≤2850000)(hx:0≤x∧x≤268435456)(hb:0≤b∧b≤2850000)(hy:0≤y∧y≤268435456):Calls prog 260 #[Iv a,Iv x,Iv b,Iv y] W (Hr.aJ W (.tuple #[.int .u64 0,.int .u64 (a*x+b*y)])):=by
 have h1:=Bi ha hx;have h2:=Bi hb hy;apply Ej 8 func260 ntmps260;refine Qq 1 (dT rfl rfl bZ sj (wU ⟨oM,oM⟩)) ?_;refine Qq 0 (dT rfl rfl bZ sj (wU ⟨oM,oM⟩)) ?_;refine Qq 6 (Qc rfl fun w _ _=>QK (a) (x) ⟨oM,oM⟩ ⟨oM,oM⟩ w) ?_;apply kp 1 [2,3,8,9,10,11];refine cG (ar (.cons (s:=2) rfl (.cons (s:=3) rfl (.cons (s:=8) rfl (.cons (s:=9) rfl (.az (s:=10) (v':= .int .u64 0) rfl (aD  oM) (.az (s:=11) (v':= .int .u64 (a*x)) rfl (aD  oM) .nil)))))) .refl) ?_;apply ab 2;refine Qq 1 (dT rfl rfl bZ sj (wU ⟨oM,oM⟩)) ?_;refine Qq 0 (dT rfl rfl bZ sj (wU ⟨oM,oM⟩)) ?_;refine Qq 6 (Qc rfl fun w _ _=>QK (b) (y) ⟨oM,oM⟩ ⟨oM,oM⟩ w) ?_;apply kp 1 [8,9,10,11,12,13];refine cG (ar (.cons (s:=8) rfl (.cons (s:=9) rfl (.cons (s:=10) rfl (.cons (s:=11) rfl (.az (s:=12) (v':= .int .u64 0) rfl (aD  oM) (.az (s:=13) (v':= .int .u64 (b*y)) rfl (aD  oM) .nil)))))) .refl) ?_;apply ab 3;refine Qq 6 (Yk rfl (aT rfl) (fun w=>Yt _ _ _  oM oM ⟨oM,oM⟩ w)) ?_;apply kp 1 [8,9,10,12,14];refine cG (ar (.cons (s:=8) rfl (.az (s:=9) (v':= .int .u64 (a*x+b*y)) rfl (aD  oM) (.cons (s:=10) rfl (.cons (s:=12) rfl (.az (s:=14) (v':= .int .u64 0) rfl (aD  oM) .nil))))) .refl) ?_;apply ab 4;refine Qq 5 (Yk rfl (aT rfl) (fun w=>Yt _ _ _  oM oM ⟨oM,oM⟩ w)) ?_;apply kp 8 [8,9];exact c6 rfl rfl rfl rfl
theorem amC(f t L k:Int)(W:World)(hf:r7 f)(ht:r7 t)(hL:1≤L∧L≤80000000)(bC:0≤k∧k≤L):Calls prog 189 #[Iv f,Iv t,Iv L,Iv k] W (bk W nX fun v m=>∃z:Int,v=Iv z∧m= []∧0≤z∧z≤4294967296):=by
 obtain⟨hf1,Kz⟩:=hf;obtain⟨Qz,QQ⟩:=ht;have h1:=Bi (a:=f) (x:=2*L-k) ⟨oM,Kz⟩ ⟨oM,oM⟩;have h2:=Bi (a:=t) (x:=k) ⟨oM,QQ⟩ ⟨oM,oM⟩;obtain⟨N,hN⟩:∃N,N=f*(2*L-k)+t*k:=⟨_,rfl⟩;have QR:0≤N∧N≤5700000*L:=oM
 have hM:0≤N*k∧N*k≤5700000*L*80000000:=⟨py QR.1 bC.1,vG (yV (show k≤80000000 by omega) QR.1) (nk QR.2 (by decide))⟩;obtain⟨y,hy⟩:∃y:Nat,(y:Int)=2*L*483840:=⟨(2*L*483840).toNat,oM⟩;apply En 13 func189 ntmps189;refine Qq 6 (Qc rfl fun w _ _=>amB f (2*L-k) t k w ⟨oM,Kz⟩ ⟨oM,oM⟩ ⟨oM,QQ⟩ ⟨oM,oM⟩) ?_;apply kp 1 [2,3,8,9,10];refine cG (ar (.cons (s:=2) rfl (.cons (s:=3) rfl (.cons (s:=8) rfl (.cons (s:=9) rfl (.az (s:=10) (v':= .int .u64 N) rfl (aD hN.symm) .nil))))) .refl) ?_;apply ab 3;refine Qq 0 (dT rfl rfl bZ sj (wU ⟨oM,oM⟩)) ?_;refine Qq 11 (Qc rfl fun w _ _=>QK (N) (k) ⟨oM,oM⟩ ⟨oM,oM⟩ w) ?_;refine Qq 0 (dT rfl rfl bZ sj (wU ⟨oM,oM⟩)) ?_;refine Qq 0 (pD rfl rfl rfl) ?_;refine Qq 2 (vO rfl rfl rfl) ?_;apply kp 1 [2,8,11,12];refine cG (ar (.cons (s:=2) rfl (.cons (s:=8) rfl (.az (s:=11) (v':= .int .u64 (N*k/18446744073709551616)) rfl (aD (by rw [AQ,yk,yk];omega)) (eL [12])))) .refl) ?_;apply ab 5;refine Qq 0 (dT rfl rfl bZ sj (wU ⟨oM,oM⟩)) ?_;refine Qq 0 (pD rfl rfl rfl) ?_;refine cG (ar (.cons (s:=2) rfl (.cons (s:=8) rfl (.cons (s:=11) rfl (.cons (s:=12) rfl (.cons (s:=40) rfl (.cons (s:=41) rfl (.cons (s:=42) rfl (.cons (s:=43) rfl (.cons (s:=44) rfl (.az (s:=45) (v':= .int .u64 (y:Int)) rfl (aD (by rw [yk];omega)) .nil)))))))))) .refl) ?_;refine Hh (Hc rfl fun w _ _=>amq (N*k/18446744073709551616) (N*k%18446744073709551616) y w ⟨oM,oM⟩ ⟨oM,oM⟩ ⟨oM,oM⟩  oM oM) ?_;rintro⟨v46,m46⟩ ⟨q,r,rfl,rfl,jA,EV⟩;apply ab 9;refine Qq 2 (dT rfl rfl sj bZ (by rw [fF];omega)) ?_;apply kp 1 [8];exact aw rfl rfl ⟨_,rfl,rfl,jA,EV⟩
theorem YB(x:cT)(bq:Int)(W:World)(hf:r7 x.f)(ht:r7 x.t)(h0:0≤x.b∧x.b≤bq∧bq≤x.e∧x.b<x.e∧x.e≤80000000)(r9:0≤x.cC∧x.cC≤1099511627776):Calls prog 104 #[x.val,Iv bq] W (bk W nX fun v m=>∃z:Int,v=Iv z∧m= []∧x.cC≤z∧z≤x.cC+4294967296):=by
 apply En 2 func104 ntmps104;refine Nw 3 fun b2=>?_;apply Dd 15 [0,1,2,3,4,5,6,7,8,9,10,11,12,13,14,115,16,17];refine ks rfl rfl (.none rfl) (kM rfl rfl rfl kZ (aT rfl) (fun w hk hm=>amC x.f x.t (x.e-x.b) (bq-x.b) w hf ht ⟨oM,oM⟩ ⟨oM,oM⟩)) (fun _ _=>(.sub (gR _ _))) ?_;rintro⟨v20,m20⟩ ⟨z,rfl,rfl,jq,ba⟩;apply ab 3;apply kp 1 [4];apply Km 0 [];exact aw rfl rfl ⟨_,rfl,rfl,oM,oM⟩
theorem K1(n g:Nat)(cap:List Value)(p:Nat→Bool)(W:World)(hn:n≤1000000)(eZ:Hr.fb prog g)(hf:∀k,k<n→∀w,aS nX W w→Calls prog g ([Value.int .i64 (k:Int)]++cap).toArray w (aJ w (.bool (p k)))):Calls prog 101 #[Iv n,.func (.func g) #[] cap.toArray] W (bk W nX fun v m=>∃r:Nat,v=Iv r∧m= []∧HC p n r):=by
 apply En 12 func101 ntmps101;apply Ks 0 [5,6,1,4] [];refine kv (ι:=Nat×Nat) (fun gg=>gg.1≤gg.2∧gg.2≤n∧(0<gg.1→p (gg.1-1)=false)∧(gg.2<n→p gg.2=true)) (fun gg=>Iv (gg.1:Int)) (fun gg=>Iv (gg.2:Int)) (fun gg=>gg.2-gg.1) (0,n) (by(try dsimp only);exact⟨oM,oM,fun h=>oM,fun h=>oM⟩) rfl rfl ?_;rintro⟨i,j⟩ hq;(try dsimp only at hq);obtain⟨pF,hj,s4,Ct⟩:=hq;refine sW ⟨(5,Iv i)::(6,Iv j)::_,_⟩ ?_;apply Cd 7;intros;apply ab 7;refine Qq 0 (dT rfl rfl bZ k6 (wU ⟨oM,oM⟩)) ?_;refine Qq 0 (oI rfl rfl rfl (by decide)) ?_;refine Qq 2 (dT rfl rfl k6 bZ (by rw [nE  oM,fF];omega)) ?_;apply kp 1 [1,4,5,6,7];obtain⟨h,hh⟩:∃h,h=(i+j)/2:=⟨_,rfl⟩;refine cG (ar (.cons (s:=1) rfl (.cons (s:=4) rfl (.cons (s:=5) rfl (.cons (s:=6) rfl (.az (s:=7) (v':=Iv h) rfl (aD (by rw [nE  oM,hh];omega)) .nil))))) .refl) ?_;apply ab 3;refine Qq 2 (gm rfl rfl eZ (aT rfl) (fun w hk hm=>hf h  oM w hk)) ?_;apply kp 0 [1,4,5,6,7,21];apply Cd 0;intro x7 _;apply ab 5;apply kp 1 [1,4,5,6];refine Ag (h+1,j) ?_;exact⟨oM,hj,fun _=>by rw [Fo];simpa using x7,Ct⟩;intro x7 _;apply ab 4;apply kp 1 [1,4,5,6];refine Ag (i,h) ?_;exact⟨oM,oM,s4,fun _=>by simpa using x7⟩;intros;apply ab 1;apply kp 6 [4,5];exact aw rfl rfl ⟨i,rfl,rfl,oM,s4,fun h=>by rw [show i=j from oM]at h⊢;exact Ct h⟩
theorem K2{bH bF:Int}:prog.built 221 [(0,Iv bH),(1,Iv bF)]=some #[Iv bH,Iv bF]:=by kernel_rfl
theorem K3{fC fe cN:Int}:prog.built 224 [(0,.agg #[Iv fC,Iv fe]),(2,Iv cN)]=some #[Iv fC,Iv fe,zq,Iv cN]:=by kernel_rfl
theorem amY(s:aP)(W:World)(hs:s.rd W)(hB:bO s):Calls prog 90 #[s.val] W (bk W nX fun v m=>∃(gs:List fR) (O:Option Addr) (co:Nat),v= .slice O gs.length co∧m= [.ae 224 4 O gs.length co (gs.map fR.enc)]∧oa 0 gs s.ms.length):=by
 have cO:=hB.ml;apply En 2 func90 ntmps90;refine Nw 16 fun b1=>?_;refine rM (ax.cg 224 4) ?_;apply Ks 0 [5,4,3,1,2] [0,0];refine Jh (ι:=Nat×Nat×(List fR)×(Option Addr)×Nat) (fun gg=>gg.1≤s.ms.length∧gg.2.1≤gg.1∧oa 0 gg.2.2.1 gg.2.1) (fun gg=>Iv (gg.1:Int)) (fun gg=>Iv (gg.2.1:Int)) (fun gg=> .slice gg.2.2.2.1 gg.2.2.1.length gg.2.2.2.2) (fun gg=> .ae 224 4 gg.2.2.2.1 gg.2.2.1.length gg.2.2.2.2 (gg.2.2.1.map fR.enc)) (fun gg=>2*(s.ms.length-gg.1)+(if gg.2.1<gg.1 then 1 else 0)) (0,0, [],none,0) (by(try dsimp only);exact⟨oM,oM,rfl⟩) rfl rfl rfl .refl ?_;rintro⟨i,b,gs,O,co⟩ hq;(try dsimp only at hq);obtain⟨hi,r_,mH⟩:=hq;refine sW ⟨(5,Iv i)::(4,Iv b)::(3,.slice O gs.length co)::_,.ae 224 4 O gs.length co (gs.map fR.enc)::_⟩ ?_;have HK:=mH.le;apply ab 9;apply kp 0 [1,2,3,4,5,14];apply Cd 0;intros;have bw:i<s.ms.length:=oM
 have Cu:=(hB.me bw).elim fun a h=>h.fz;obtain⟨QU,HL,-⟩:=Cu;apply ab 8;refine Qq 0 (Qi i rfl (.ao hs.m .no)) ?_;refine Qq 0 (Qe rfl (.ao hs.m .no)) ?_;refine Nw 10 fun b6=>?_;apply kp 0 [1,2,3,4,5,6,22];refine dM rfl (l4.2 HL) ?_;apply Sd 5 107;intro _ HM;apply ab 6;apply kp 0 [1,2,3,4,5,6,104];apply Cd 0;intros;apply ab 5;refine Qq 0 (aU rfl vZ (K2)) ?_;refine Qq 0 (aU rfl vZ (K3)) ?_;refine Nw 0 fun amZ=>?_;refine Hh (cn rfl rfl rfl zU zI rfl rfl sZ rfl (.ae sZ)  sM  (a_ rfl) (a_ rfl)  oM oM) ?_;rintro⟨K4,K5⟩-;apply ab 12;apply kp 7 [1,2,3,4,5];refine Ag (i,i,gs++ [⟨b,i,1⟩],K4,K5) ?_ (hs:=ar (.az rfl (aD  oM) (.az rfl rfl (.az rfl (by congr 1;simp) nZ))) (.cons (iZ 0) (.ae rfl  sM  rfl (by rw [bT];rfl)) mZ)) (hm:=(by(try dsimp only);(split<;>split<;>omega)));exact⟨oM,oM,mH.eN rfl (by show b<i;omega) (show 1≤1∧1≤3 by decide)⟩;intros;apply ab 7;apply kp 0 [1,2,3,4,5,6,122];apply Cd 0;intros;apply ab 6;refine Qq 2 (aU rfl vZ (K2)) ?_;refine Qq 0 (aU rfl vZ (K3)) ?_;refine Nw 0 fun am0=>?_;refine Hh (cn rfl rfl rfl zU zI rfl rfl sZ rfl (.ae sZ)  sM  (a_ rfl) (a_ rfl)  oM oM) ?_;rintro⟨QV,QW⟩-;apply ab 14;apply kp 0 [1,2,3,4,5];refine Ag (i+1,i+1,gs++ [⟨b,i+1,(aa s.ms i).n.cy.toNat⟩],QV,QW) ?_ (hs:=ar (.az rfl (aD (by dsimp only;omega)) (.az rfl (aD (by dsimp only;omega)) (.az rfl (by congr 1;simp) nZ))) (.cons (iZ 0) (.ae rfl  sM  rfl (by rw [bT];simp [fR.enc,dW];omega)) mZ)) (hm:=(by(try dsimp only);(split<;>split<;>omega)));exact⟨oM,oM,mH.eN rfl (by show b<i+1;omega) (by show 1≤(aa s.ms i).n.cy.toNat∧(aa s.ms i).n.cy.toNat≤3;omega)⟩;intros;apply ab 8;apply kp 0 [1,2,3,4,5];refine Ag (i+1,b,gs,O,co) ?_ (hm:=(by(try dsimp only);(split<;>split<;>omega)));exact⟨oM,oM,mH⟩;intro _ HM;apply ab 14;apply kp 0 [1,2,3,4,5,6,122];apply Cd 0;intros;apply ab 6;refine Qq 2 (aU rfl vZ (K2)) ?_;refine Qq 0 (aU rfl vZ (K3)) ?_;refine Nw 0 fun am0=>?_;refine Hh (cn rfl rfl rfl zU zI rfl rfl sZ rfl (.ae sZ)  sM  (a_ rfl) (a_ rfl)  oM oM) ?_;rintro⟨QV,QW⟩-;apply ab 14;apply kp 0 [1,2,3,4,5];refine Ag (i+1,i+1,gs++ [⟨b,i+1,(aa s.ms i).n.cy.toNat⟩],QV,QW) ?_ (hs:=ar (.az rfl (aD (by dsimp only;omega)) (.az rfl (aD (by dsimp only;omega)) (.az rfl (by congr 1;simp) nZ))) (.cons (iZ 0) (.ae rfl  sM  rfl (by rw [bT];simp [fR.enc,dW];omega)) mZ)) (hm:=(by(try dsimp only);(split<;>split<;>omega)));exact⟨oM,oM,mH.eN rfl (by show b<i+1;omega) (by show 1≤(aa s.ms i).n.cy.toNat∧(aa s.ms i).n.cy.toNat≤3;omega)⟩;intros;apply ab 8;apply kp 0 [1,2,3,4,5];refine Ag (i+1,b,gs,O,co) ?_ (hm:=(by(try dsimp only);(split<;>split<;>omega)));exact⟨oM,oM,mH⟩;intros;apply ab 10;apply kp 0 [1,2,3,4,142];apply Cd 0;intros;apply ab 6;refine Qq 0 (aU rfl vZ (K2)) ?_;refine Qq 0 (aU rfl vZ (K3)) ?_;refine Nw 0 fun avz=>?_;refine Hh (cn rfl rfl rfl zU zI rfl rfl sZ rfl (.ae sZ)  sM  (a_ rfl) (a_ rfl)  oM oM) ?_;rintro⟨avA,avB⟩-;apply ab 2;apply kp 6 [2,3];refine rM (.cons (iZ 0) (.ae (m':=(gs++ [fR.mk b s.ms.length 1]).length) (cw:=(gs++ [fR.mk b s.ms.length 1]).map fR.enc) rfl  sM  rfl (by rw [bT];rfl)) .nil) ?_;exact aw rfl rfl ⟨gs++ [⟨b,s.ms.length,1⟩],_,_,by congr 1;simp,rfl,mH.eN rfl (by show b<s.ms.length;omega) (show 1≤1∧1≤3 by decide)⟩;intros;apply ab 6;apply kp 1 [2];apply Km 0 [0];exact aw rfl rfl ⟨gs,_,_,rfl,rfl,by rw [show b=s.ms.length from oM]at mH;exact mH⟩
theorem anf(g:fR)(W:World):Calls prog 91 #[.agg #[Iv (g.fst:Int),Iv (g.cy:Int),.slice none 0 0,Iv (g.hZ:Int)]] W (bk W nX fun v m=>∃b1:Nat,v= .func (.func 180) #[] #[.pointer (some ⟨b1,0,none⟩)]∧m= [.aj b1 224 (bB 0 g.enc)]):=by
 apply En 2 func91 ntmps91;refine Nw 4 fun b1=>?_;refine Qq 2 (hG rfl (aT rfl)) ?_;apply kp 1 [2];refine rM (.cons (iZ 0) (.eq rfl) .nil) ?_;exact aw rfl rfl ⟨b1,rfl,rfl⟩
theorem ang(s:aP)(b1 l:Nat){W0:World}(J Jx:List Nat→List an→Prop)(bQ:List an)(h0:J [] bQ)(W:World)(r9:Mem (aR bQ) W bQ W)(eY:aS nX W0 W)(fh:∀b,aR bQ b→W0.heap.size≤b)(hY:YR prog l V6 J Jx 32 W0)(fD:Rd W (some ⟨b1,0,none⟩) 6 [s.enc])(gv:vK (aR bQ) (some ⟨b1,0,none⟩))(hs:s.rd W0)(hB:bO s):CallsIn Fence.wide 0 prog 89 #[.func (.yield l) #[] #[],.pointer (some ((bJ (some ⟨b1,0,none⟩)).add (0*6)))] W (zj J Jx (fun xs=>∃gs,oa 0 gs s.ms.length∧xs=eG gs) (fun _=>True) bQ W):=by
 have cO:=hB.ml;refine DT (X:=(aR bQ)) (vs:= [.func (.yield l) #[] #[],.pointer (some ((bJ (some ⟨b1,0,none⟩)).add (0*6)))]) func89 ntmps89 rfl rfl (Gv r9) ?_;apply ab 2;refine gy (.none rfl) (qt rfl rfl rfl rfl rfl) ?_;rintro b2-;apply ab 3;refine cD (.none rfl) rfl rfl (FH rfl zA rfl (.ao fD gv) (ek [.string s.dR,.bool s.e9,.slice s.PA s.ps.length s.pc,.slice s.MA s.ms.length s.mc,.slice s.SA s.sp.length s.sc,.slice s.LA s.cL.length s.lc]) rfl) ?_;refine gy (.none rfl) (kM rfl rfl rfl kZ (aT rfl) (fun w hk hm=>amY s w (hs.aC (BD eY fh hk)) hB)) ?_;rintro⟨Q8,YX⟩ ⟨gs,O,co,rfl,rfl,mH⟩;have tB:=OM mH;have HK:=mH.le;refine gy (.none rfl) (dH rfl rfl rfl zI) ?_;rintro b3-;apply ab 2;refine bU (ar (eL [1,2,3]) .refl) ?_;apply ab 7;refine bU (ar .refl ax.aiW) ?_;refine bU (ar (eL [13,1,2,3,11,12]) (dZ [0,3,0,0,0])) ?_;refine aiY (ι:=(List Nat)×Nat×(List an)) (fun gg=>(gg.1).map sG) (fun gg=>J (eG (gs.take gg.2.1)) gg.2.2∧gg.2.1≤gs.length) (fun gg=> [(13,Iv (gg.2.1:Int))]) (fun gg=> [df gg.1,.aZ gg.2.2]) (fun gg=>gs.length-gg.2.1) ([],0,bQ) (by(try dsimp only);exact⟨h0,oM⟩) (.az (s:=13) rfl rfl (eL [1,2,3,11,12])) (dZ [0,0,0,0,0]) ?_;rintro⟨Ds,k,js⟩ hq;(try dsimp only at hq);obtain⟨hj,hk⟩:=hq;refine rS ⟨(13,Iv k)::_,df Ds:: .aZ js::_⟩ ?_;apply ab 5;refine pM rfl (fun u6=>?_) (fun u6=>?_);have PJ:=td u6;apply ab 5;refine cD (.none rfl) rfl rfl (k_ (q:=k) rfl zU zS rfl rfl (.ae (.ai (.ai (.ai ag.ak))))  sM  rfl  oM) ?_;refine cD (.none rfl) rfl rfl (FH rfl zA rfl (.ae (.ai (.ai (.ai ag.ak)))) (bt  oM) rfl) ?_;refine gy (.none rfl) (dH rfl rfl rfl zI) ?_;rintro b5-;apply ab 2;refine bU (ar (eL [1,2,3,5,11,12,13]) .refl) ?_;apply ab 1;have EX:=mH.at (k:=k)  oM ;have anh:(aa gs k).fst<(aa gs k).cy∧(aa gs k).cy≤6∧1≤(aa gs k).hZ∧(aa gs k).hZ≤3:=oM
 apply ab 2;refine gy (.none rfl) (kM rfl rfl rfl kZ (aT rfl) (fun w hk hm=>anf (aa gs k) w)) ?_;rintro⟨v18,m18⟩ ⟨bv,rfl,rfl⟩;apply ab 2;refine bU (ar (eL [1,2,3,11,12,13,18]) (dZ [3,5,0,0,0,0,0])) ?_;refine ai0 (N:=((aa gs k).hZ*((aa gs k).cy-(aa gs k).fst))) (encs:=V8) (Sd:=(fun xs=>xs.map (·.1)=Kd (aa gs k))) (Sp:=(fun _=>True)) (fun(cd:List (wE (aa gs k).cy)) rs=>∃js,rs= [.aZ js,.aj b2 217 [(0,.func (.yield l) #[] #[])]]∧J (eG (gs.take k)++cd.map fun x=>x.1.1) js) (fun c cd rs=>c= .ret∧∃js,rs= [.aZ js,.aj b2 217 [(0,.func (.yield l) #[] #[])]]∧∃q,Jx q js) [_,_] _ (Cb (aR bQ) W) (fun _ _ h1 h2=>⟨h1,h2⟩) rfl kZ (fun _=>rfl) (by decide) .refl ⟨js,rfl,by simpa using hj⟩ (fun r w hk hm yt l J' vn vp vq=>ana (aa gs k) bv l J' vn [r,_,_] vp w (Mem.gi (rs:= [r,_,_]) hm) (fun _ _ h1 h2=>yt.trans h1 h2) vq (gY rfl ((ag.ai (ag.ai (ag.ai ag.ak))).holds hm)) (fun ad e=>by cases e;exact Mem.BU (rs:= [r,_,_]) hm (fi ..) rfl) anh) ?_ ?_ ?_;rintro l r w cd x rs eJ jk hJ hN hm yt;obtain⟨js,rfl,hj⟩:=hJ;apply ab 4;refine bU (ar (eL [1,2,3,6,20]) .refl) ?_;apply ab 3;refine DU eJ ag.ak ?_;apply ab 6;refine zk x.1.1 rfl rfl rfl rfl rfl (aT rfl) rfl (.ai ag.ak) (BD eY fh yt.1) (Gq eY fh yt.2) hY hj (by have h1:(eG (gs.take (k+1))).length≤(eG gs).length:=aic;rw [V_  oM,ay,OL]at h1;rw [ay,bG];omega) (fun qV jN=>?_) (fun qV jN=>?_);apply ab 2;refine bU (ar (eL [1,2,3,6,7,24]) .refl) ?_;apply ab 5;refine cD (.none rfl) rfl rfl (dG rfl zO rfl (Cb.rd fD gv yt) (ek [.string s.dR,.bool s.e9,.slice s.PA s.ps.length s.pc,.slice s.MA s.ms.length s.mc,.slice s.SA s.sp.length s.sc,.slice s.LA s.cL.length s.lc]) rfl) ?_;apply ab 1;refine cD (.none rfl) rfl rfl (k_ (q:=x.1.1) rfl zU zS rfl rfl (.fY hs.m (BD eY fh yt.1) (Gq eY fh yt.2))  sM  rfl (by have:=x.2;omega)) ?_;apply ab 1;refine cD (.none rfl) rfl rfl (dG rfl zO rfl (.fY hs.m (BD eY fh yt.1) (Gq eY fh yt.2)) (bt (by have:=x.2;omega)) rfl) ?_;apply ab 2;refine bU (ar (eL [1,2,3,7,8]) .refl) ?_;apply ab 5;refine NQ (.no rfl rfl rfl (l4.2 ((hB.me (by have:=x.2;omega)).elim fun a h=>h.fz.2.2.1))) rfl rfl ?_;refine cD (.none rfl) rfl rfl (dX rfl rfl (l4.2 ((hB.me (by have:=x.2;omega)).elim fun a h=>h.fz.2.2.1)) rfl) ?_;apply ab 1;refine bU (ar (eL [1,2,3,8,35]) .refl) ?_;apply ab 3;exact DV eJ jk (.cons (iZ 1) .refl (.cons (iZ 0) .refl (.cons (iZ 0) (.aj (eL [0])) .nil))) ⟨qV,rfl,by rw [bT,←bj];exact jN⟩;apply ab 2;refine bU (ar (eL [1,2,3,6,7,24]) .refl) ?_;apply ab 1;exact UZ (.cons (iZ 1) .refl (.cons (iZ 0) .refl (.cons (iZ 0) (.aj (eL [0])) .nil))) ⟨rfl,qV,rfl,_,jN⟩;rintro D xs rs hS hJ;obtain⟨js',rfl,gU⟩:=hJ;rw [show(xs.map fun x=>x.1.1)=sR (aa gs k)from by rw [sR,←hS,pz];rfl]at gU;refine bU (ar .refl (ax.trans (dZ [0,4,0,0,0,0,0,0]) ax.W7)) ?_;apply ab 6;exact aiX (D::Ds,k+1,js') (by(try dsimp only);exact⟨by rw [V_  oM];exact gU,oM⟩) (by(try dsimp only);omega) (ar (.az (s:=13) rfl (aD (by dsimp only;omega)) (eL [1,2,3,11,12])) (dZ [0,0,3,3,0])) rfl;rintro D c xs rs hS hJ;obtain⟨rfl,js,rfl,q,PQ⟩:=hJ;refine bU (ar .refl (ax.trans (dZ [0,4,0,0,0,0,0,0]) ax.W7)) ?_;refine pN ?_;refine zl (D::Ds) ?_;exact rC _ rfl ag.ak (.inr ⟨trivial,PQ⟩);have PJ:=td u6;apply ab 1;refine bU (ar .nil .refl) ?_;refine zl Ds ?_;exact rC (eG gs) rfl ag.ak (.inl ⟨⟨gs,mH,rfl⟩,by rw [show k=gs.length from oM,px]at hj;exact hj⟩)
theorem ant(s:aP)(i b2:Nat)(W:World)(bp:eh W s.ms s.MA)(hB:bO s)(hi:i<s.ms.length)(jK:Rd W (some ⟨b2,0,none⟩) 1 [[Iv (cH s.ps:Int)]]):Calls prog 145 #[Iv i,(aa s.ms i).val,.pointer (some ((bJ (some ⟨b2,0,none⟩)).add (0*1)))] W (Hr.aJ W (.bool false)):=by
 obtain⟨aM,gb⟩:=hB.me hi;have wR:=gb.cs;have jc:=hB.sn;have cO:=hB.ml;apply Ej 2 func145 ntmps145;refine Nw 7 fun b4=>?_;refine Qq 3 (Qk rfl (.ao jK .no) rfl) ?_;apply kp 2 [4,5,6];refine cG (ar (.cons (s:=4) rfl (.cons (s:=5) rfl (.az (s:=6) (v':= .bool false) rfl (aY Value.bool (l4.2  oM)) .nil))) .refl) ?_;apply ab 7;apply Ks 0 [20,6,5,18,19] [0];refine kv (ι:=Nat) (fun c=>c≤(aa s.ms i).cs.length) (fun c=>Iv c) (fun c=> .bool false) (fun c=>(aa s.ms i).cs.length-c) 0 dO rfl rfl ?_;rintro c yv;(try dsimp only at yv);apply Cd 5;intros;have dh:c<(aa s.ms i).cs.length:=oM
 obtain⟨bR,HQ,EY⟩:=hB.cell hi dh;have gQ:0<((aa (aa s.ms i).cs c)).vs.length:=oM
 have kG:((aa (aa s.ms i).cs c)).vs.length-1<((aa (aa s.ms i).cs c)).vs.length:=oM
 have Cw:=(EY 0 gQ).elim fun a h=>h.len;have QU:=(EY _ kG).elim fun a h=>h.len;apply ab 5;refine Qq 0 (Qi c rfl (.ao (bp.cs hi) .no)) ?_;refine Qq 0 (Qe rfl (.ao (bp.cs hi) .no)) ?_;refine Nw 8 fun b8=>?_;apply kp 10 [5,6,9,18,19,20];refine Qq 1 (Qi 0 rfl (.ao (bp.vs hi dh) .no)) ?_;refine Qq 2 (Qf rfl (.ao (bp.vs hi dh) .no)) ?_;refine Qq 5 (dX rfl rfl (kj.2  oM) rfl) ?_;refine Qq 1 (Qi (((aa (aa s.ms i).cs c)).vs.length-1) rfl (.ao (bp.vs hi dh) .no)) ?_;refine Qq 2 (Qf rfl (.ao (bp.vs hi dh) .no)) ?_;refine Qq 2 (dX rfl rfl (kj.2  oM) rfl) ?_;apply kp 7 [5,6,9,18,19,20];apply Ks 0 [53,6,5,18,19,20,51,52] [0,0];refine kv (ι:=Nat) (fun v=>v≤((aa (aa s.ms i).cs c)).vs.length) (fun v=>Iv v) (fun v=> .bool false) (fun v=>((aa (aa s.ms i).cs c)).vs.length-v) 0 dO rfl (aY Value.bool (kj.2  oM)) ?_;rintro v vm;(try dsimp only at vm);apply Cd 5;intros;have hvk:v<((aa (aa s.ms i).cs c)).vs.length:=oM
 have Lb:=(EY v hvk).elim fun a h=>h.len;apply ab 5;refine Qq 0 (Qi v rfl (.ao (bp.vs hi dh) .no)) ?_;refine Qq 0 (Qe rfl (.ao (bp.vs hi dh) .no)) ?_;refine Nw 14 fun pe=>?_;refine Qq 3 (dX rfl rfl (kj.2  oM) rfl) ?_;apply kp 5 [5,6,18,19,20,51,52,53];refine Ag (v+1) ?_;omega;intros;apply ab 1;apply kp 5 [5,6,18,19,20];refine Ag (c+1) ?_;omega;intros;apply ab 1;apply kp 6 [5,6];exact aw rfl rfl rfl
theorem anv(s:aP)(aO:Int)(L:Value)(b:Nat)(W:World)(hb:Rd W (some ⟨b,0,none⟩) 8 [bD s aO L])(hs:s.rd W)(hB:bO s):Calls prog 74 #[.pointer (some ((bJ (some ⟨b,0,none⟩)).add (0*8)))] W (Hr.aJ W (.tuple #[])):=by
 have bp:eh W s.ms s.MA:=⟨hs.m,hs.mr⟩;have cO:=hB.ml;have jn:=hB.pl;have jc:=hB.sn;have gS:=hB.sl;have g_:=hB.ll;apply Ej 5 func74 ntmps74;refine Qq 0 (iL rfl zA rfl (.ao hb .no) (show([bD s aO L]:List (List Value))[0]?=some (bD s aO L)from rfl) rfl rfl) ?_;refine Qq 0 (Qc rfl fun w hk _=>QX s w (hs.p.aC hk) (fun x hx=>(hs.pr x hx).aC hk) ⟨jn.2,fun p hp=>by have:=(hB.ps p hp).st;omega⟩) ?_;refine Nw 2 fun b2=>?_;apply kp 0 [0,2];refine rM (.cons (iZ 0) (.aj (.az (s:=0) (v':=Iv (cH s.ps:Int)) rfl rfl .nil)) .nil) ?_;apply ab 2;refine Qq 0 (hG rfl (aT rfl)) ?_;refine Qq 1 (Qc rfl fun w hk hm=>Cv s aO L b 145 [.pointer (some ⟨b2,0,none⟩)] w (hb.aC hk) (hs.aC hk) hB kZ (fun i hi w' bI=>ant s i b2 w' (bp.aC (hk.fa bI)) hB hi ((fP (ag.ak.holds hm)).aC bI))) ?_;apply kp 0 [];exact bM rfl rfl
theorem yw{bH:ByteArray}{bF cN eH gr j7 rT:Int}:prog.built 384 [(0,.string bH),(1,.int .u8 bF),(2,Iv cN),(3,Iv eH),(4,Iv gr),(5,Iv j7),(6,Iv rT)]=some #[.string bH,.int .u8 bF,Iv cN,Iv eH,Iv gr,Iv j7,Iv rT]:=by kernel_rfl
theorem anw{fC:ByteArray}{fe vu Y0 Y3 HU HV:Int}{vw:ByteArray}{vx HW HX Y4 Y5 Y6:Int}{j9:ByteArray}{j_ rZ r5 vd Af Y7:Int}{HY:ByteArray}{Ai Y8 Y9 Y_ HZ H0:Int}{Za:ByteArray}{Zb Zc Zd Ze Zf Zg:Int}{H3:ByteArray}{H4 Zh Zi Zj Zk Zl:Int}{Zm:ByteArray}{Zn Zo Zp Zq Zr Zs:Int}{Zt:ByteArray}{Zu Zv Zw Zx Zy Zz:Int}{ZA:ByteArray}{ZB ZC ZD ZE ZF ZG:Int}:prog.built 439 [(0,.agg #[.string fC,.int .u8 fe,Iv vu,Iv Y0,Iv Y3,Iv HU,Iv HV]),(1,.agg #[.string vw,.int .u8 vx,Iv HW,Iv HX,Iv Y4,Iv Y5,Iv Y6]),(2,.agg #[.string j9,.int .u8 j_,Iv rZ,Iv r5,Iv vd,Iv Af,Iv Y7]),(3,.agg #[.string HY,.int .u8 Ai,Iv Y8,Iv Y9,Iv Y_,Iv HZ,Iv H0]),(4,.agg #[.string Za,.int .u8 Zb,Iv Zc,Iv Zd,Iv Ze,Iv Zf,Iv Zg]),(5,.agg #[.string H3,.int .u8 H4,Iv Zh,Iv Zi,Iv Zj,Iv Zk,Iv Zl]),(6,.agg #[.string Zm,.int .u8 Zn,Iv Zo,Iv Zp,Iv Zq,Iv Zr,Iv Zs]),(7,.agg #[.string Zt,.int .u8 Zu,Iv Zv,Iv Zw,Iv Zx,Iv Zy,Iv Zz]),(8,.agg #[.string ZA,.int .u8 ZB,Iv ZC,Iv ZD,Iv ZE,Iv ZF,Iv ZG])]=some #[.string fC,.int .u8 fe,Iv vu,Iv Y0,Iv Y3,Iv HU,Iv HV,.string vw,.int .u8 vx,Iv HW,Iv HX,Iv Y4,Iv Y5,Iv Y6,.string j9,.int .u8 j_,Iv rZ,Iv r5,Iv vd,Iv Af,Iv Y7,.string HY,.int .u8 Ai,Iv Y8,Iv Y9,Iv Y_,Iv HZ,Iv H0,.string Za,.int .u8 Zb,Iv Zc,Iv Zd,Iv Ze,Iv Zf,Iv Zg,.string H3,.int .u8 H4,Iv Zh,Iv Zi,Iv Zj,Iv Zk,Iv Zl,.string Zm,.int .u8 Zn,Iv Zo,Iv Zp,Iv Zq,Iv Zr,Iv Zs,.string Zt,.int .u8 Zu,Iv Zv,Iv Zw,Iv Zx,Iv Zy,Iv Zz,.string ZA,.int .u8 ZB,Iv ZC,Iv ZD,Iv ZE,Iv ZF,Iv ZG]:=by kernel_rfl
theorem Ld(W:World):Calls prog 290 #[] W (Hr.aJ W (.agg #[.string (ByteArray.mk #[116,114,101,98,108,101]),.int .u8 71,Iv (-2),Iv 0,Iv 34,Iv (-1),Iv (-3),.string (ByteArray.mk #[98,97,115,115]),.int .u8 70,Iv 2,Iv 0,Iv 22,Iv (-3),Iv (-5),.string (ByteArray.mk #[97,108,116,111]),.int .u8 67,Iv 0,Iv 0,Iv 28,Iv (-2),Iv (-4),.string (ByteArray.mk #[116,101,110,111,114]),.int .u8 67,Iv 2,Iv 0,Iv 26,Iv (-2),Iv (-2),.string (ByteArray.mk #[115,111,112,114,97,110,111]),.int .u8 67,Iv (-4),Iv 0,Iv 32,Iv (-2),Iv (-3),.string (ByteArray.mk #[109,101,122,122,111,115,111,112,114,97,110,111]),.int .u8 67,Iv (-2),Iv 0,Iv 30,Iv (-2),Iv (-3),.string (ByteArray.mk #[98,97,114,105,116,111,110,101]),.int .u8 70,Iv 0,Iv 0,Iv 24,Iv (-2),Iv (-3),.string (ByteArray.mk #[116,114,101,98,108,101,56]),.int .u8 71,Iv (-2),Iv (-1),Iv 27,Iv (-1),Iv (-3),.string (ByteArray.mk #[98,97,115,115,56]),.int .u8 70,Iv 2,Iv (-1),Iv 15,Iv (-3),Iv (-5)])):=by
 apply Ej 2 func290 ntmps290;refine Nw 3 fun b0=>?_;refine Qq 0 (aU rfl vZ (yw)) ?_;refine Qq 0 (aU rfl vZ (yw)) ?_;refine Qq 0 (aU rfl vZ (yw)) ?_;refine Qq 0 (aU rfl vZ (yw)) ?_;refine Qq 0 (aU rfl vZ (yw)) ?_;refine Qq 0 (aU rfl vZ (yw)) ?_;refine Qq 0 (aU rfl vZ (yw)) ?_;refine Qq 0 (aU rfl vZ (yw)) ?_;refine Qq 0 (aU rfl vZ (yw)) ?_;refine Qq 2 (aU rfl vZ (anw)) ?_;apply kp 1 [0];exact cX rfl oZ _ .nil rfl
theorem anx(W:World):Calls prog 217 #[Iv 1] W (Hr.aJ W (.tuple #[.agg #[.string (ByteArray.mk #[116,114,101,98,108,101]),.int .u8 71,Iv (-2),Iv 0,Iv 34,Iv (-1),Iv (-3)],Iv 0])):=by
 apply Ej 2 func217 ntmps217;refine Nw 16 fun b2=>?_;refine Qq 2 (Qc rfl fun w _ _=>Ld w) ?_;refine Qq 3 (Lc (q:=0) rfl underlying439 zA rfl rfl rfl (by decide) rfl) ?_;apply kp 1 [2,3];exact cX rfl oZ _ .nil rfl
theorem anz(W:World):Calls prog 146 #[Iv 1] W (Hr.aJ W (Iv 0)):=by
 apply Ej 7 func146 ntmps146;refine Qq 3 (Qc rfl fun w _ _=>anx w) ?_;refine Nw 3 fun b3=>?_;apply kp 6 [2,4];exact aw rfl rfl rfl
theorem anA(W:World):Calls prog 217 #[Iv 2] W (Hr.aJ W (.tuple #[.agg #[.string (ByteArray.mk #[98,97,115,115]),.int .u8 70,Iv 2,Iv 0,Iv 22,Iv (-3),Iv (-5)],Iv 0])):=by
 apply Ej 2 func217 ntmps217;refine Nw 16 fun b2=>?_;refine Qq 2 (Qc rfl fun w _ _=>Ld w) ?_;refine Qq 3 (Lc (q:=1) rfl underlying439 zA rfl rfl rfl (by decide) rfl) ?_;apply kp 1 [2,3];exact cX rfl oZ _ .nil rfl
theorem anB(W:World):Calls prog 146 #[Iv 2] W (Hr.aJ W (Iv 0)):=by
 apply Ej 7 func146 ntmps146;refine Qq 3 (Qc rfl fun w _ _=>anA w) ?_;refine Nw 3 fun b3=>?_;apply kp 6 [2,4];exact aw rfl rfl rfl
theorem anC(W:World):Calls prog 217 #[Iv 3] W (Hr.aJ W (.tuple #[.agg #[.string (ByteArray.mk #[97,108,116,111]),.int .u8 67,Iv 0,Iv 0,Iv 28,Iv (-2),Iv (-4)],Iv 0])):=by
 apply Ej 2 func217 ntmps217;refine Nw 16 fun b2=>?_;refine Qq 2 (Qc rfl fun w _ _=>Ld w) ?_;refine Qq 3 (Lc (q:=2) rfl underlying439 zA rfl rfl rfl (by decide) rfl) ?_;apply kp 1 [2,3];exact cX rfl oZ _ .nil rfl
theorem anD(W:World):Calls prog 146 #[Iv 3] W (Hr.aJ W (Iv 0)):=by
 apply Ej 7 func146 ntmps146;refine Qq 3 (Qc rfl fun w _ _=>anC w) ?_;refine Nw 3 fun b3=>?_;apply kp 6 [2,4];exact aw rfl rfl rfl
theorem anE(W:World):Calls prog 217 #[Iv 4] W (Hr.aJ W (.tuple #[.agg #[.string (ByteArray.mk #[116,101,110,111,114]),.int .u8 67,Iv 2,Iv 0,Iv 26,Iv (-2),Iv (-2)],Iv 0])):=by
 apply Ej 2 func217 ntmps217;refine Nw 16 fun b2=>?_;refine Qq 2 (Qc rfl fun w _ _=>Ld w) ?_;refine Qq 3 (Lc (q:=3) rfl underlying439 zA rfl rfl rfl (by decide) rfl) ?_;apply kp 1 [2,3];exact cX rfl oZ _ .nil rfl
theorem anF(W:World):Calls prog 146 #[Iv 4] W (Hr.aJ W (Iv 0)):=by
 apply Ej 7 func146 ntmps146;refine Qq 3 (Qc rfl fun w _ _=>anE w) ?_;refine Nw 3 fun b3=>?_;apply kp 6 [2,4];exact aw rfl rfl rfl
theorem ZH(c:Int)(W:World)(h:1≤c∧c≤4):Calls prog 146 #[Iv c] W (aJ W (Iv 0)):=by
 have:c=1∨c=2∨c=3∨c=4:=oM
 rcases this with rfl|rfl|rfl|rfl
 exact anz W;exact anB W;exact anD W;exact anF W
theorem anG(s:aP)(i:Nat)(W:World)(bp:eh W s.ms s.MA)(hB:bO s)(hi:i<s.ms.length):Calls prog 147 #[Iv i,(aa s.ms i).val] W (Hr.aJ W (.bool false)):=by
 obtain⟨aM,gb⟩:=hB.me hi;have wR:=gb.cs;have jc:=hB.sn;have cO:=hB.ml;apply Ej 2 func147 ntmps147;refine Nw 5 fun b3=>?_;refine Qq 6 (Qc rfl fun w _ _=>tT (aa s.ms i) w gb.met gb.xL) ?_;apply kp 13 [3,4,5,6];apply Ks 0 [20,4,5,6,7,18,19] [0];refine eP (ι:=Nat) (fun c=>c≤(aa s.ms i).cs.length) (fun c=>Iv c) (fun c=>(aa s.ms i).cs.length-c) 0 dO rfl ?_;rintro c yv;(try dsimp only at yv);apply Cd 5;intros;have dh:c<(aa s.ms i).cs.length:=oM
 obtain⟨bR,HQ,EY⟩:=hB.cell hi dh;have Q9:((aa (aa s.ms i).cs c)).cl.length=0:=by rw [bR];rfl
 apply ab 5;refine Qq 0 (Qi c rfl (.ao (bp.cs hi) .no)) ?_;refine Qq 0 (Qe rfl (.ao (bp.cs hi) .no)) ?_;refine Nw 2 fun b9=>?_;apply kp 8 [4,5,6,7,9,18,19,20];refine EC 1 ?_;refine fT ?_;apply ab 7;apply kp 5 [4,5,6,7,18,19,20];refine Ag (c+1) ?_;omega;intros;apply ab 10;apply kp 1 [4];exact aw rfl rfl rfl
theorem anH(s:aP)(aO:Int)(L:Value)(b:Nat)(W:World)(hb:Rd W (some ⟨b,0,none⟩) 8 [bD s aO L])(hs:s.rd W)(hB:bO s):Calls prog 75 #[.pointer (some ((bJ (some ⟨b,0,none⟩)).add (0*8)))] W (Hr.aJ W (.tuple #[])):=by
 have bp:eh W s.ms s.MA:=⟨hs.m,hs.mr⟩;have cO:=hB.ml;have jn:=hB.pl;have jc:=hB.sn;have gS:=hB.sl;have g_:=hB.ll;apply Ej 6 func75 ntmps75;refine Qq 0 (jE (d2:=2) rfl k7 rfl rfl zS rfl) ?_;refine Qq 3 (Qf rfl (.ao hb .no) rfl) ?_;apply kp 1 [0,10,11,12];apply Ks 0 [12,0,10,11] [];refine eP (ι:=Nat) (fun k=>k≤s.ps.length) (fun k=>Iv k) (fun k=>s.ps.length-k) 0 dO rfl ?_;rintro k cB;(try dsimp only at cB);apply Cd 5;intros;have bC:k<s.ps.length:=oM
 have yu:=hB.ps _ (aN bC);have ank:=yu.st;apply ab 5;refine Qq 0 (Qi k rfl (.ao hs.p .no)) ?_;refine Qq 0 (Qe rfl (.ao hs.p .no)) ?_;refine Nw 2 fun b3=>?_;apply kp 8 [0,3,10,11,12];apply Ks 0 [19,0,10,11,12,17,18] [0];refine eP (ι:=Nat) (fun j=>j≤(aa s.ps k).st.length) (fun j=>Iv j) (fun j=>(aa s.ps k).st.length-j) 0 dO rfl ?_;rintro j jN;(try dsimp only at jN);apply Cd 5;intros;have Ta:=(yu.cl _ (aN (l:=(aa s.ps k).st) (q:=j)  oM)).2;apply ab 5;refine Qq 0 (Qi j rfl (.ao (hs.pr _ (aN bC)) .no)) ?_;refine Qq 0 (Qe rfl (.ao (hs.pr _ (aN bC)) .no)) ?_;refine Nw 2 fun b5=>?_;apply Dd 3 [0,1,2,3,4,5,6,7];refine Dq 3 rfl (Qc rfl fun w _ _=>ZH (aa (aa s.ps k).st j).uE w Ta) ?_;refine Dq 1 rfl (Qc rfl fun w _ _=>Ah _ _ _ _ w rfl) ?_;apply kp 5 [0,10,11,12,17,18,19];refine Ag (j+1) ?_;omega;intros;apply ab 1;apply kp 5 [0,10,11,12];refine Ag (k+1) ?_;omega;intros;apply ab 3;refine Qq 1 (Qc rfl fun w hk _=>Cv s aO L b 147 [] w (hb.aC hk) (hs.aC hk) hB kZ (fun i hi w' bI=>anG s i w' (bp.aC (hk.fa bI)) hB hi)) ?_;apply kp 0 [];exact bM rfl rfl
theorem api(s:aP)(i:Nat)(W:World)(bp:eh W s.ms s.MA)(hB:bO s)(hi:i<s.ms.length):Calls prog 177 #[Iv i,(aa s.ms i).val] W (Hr.aJ W (.bool false)):=by
 obtain⟨aM,gb⟩:=hB.me hi
 have wR:=gb.cs
 have jc:=hB.sn
 have cO:=hB.ml
 have fD:=gb.fz
 have qJ:=gb.met.ln.1
 have wm:(aa s.ms i).tm.length≤1∧∀j,j<(aa s.ms i).tm.length→(aa (aa s.ms i).tm j).fJ=0∧300000≤(aa (aa s.ms i).tm j).cC∧(aa (aa s.ms i).tm j).cC≤2850000:=by
   rcases gb.tm with e|⟨t,e,h1,h2,h3⟩
   ·rw [e];exact⟨by simp,fun j hj=>absurd hj sM⟩
   ·rw [e];exact⟨by simp,fun j hj=>by
    obtain rfl:j=0:=by simpa using hj
    exact⟨h1,h2,h3⟩⟩
 apply Ej 2 func177 ntmps177
 refine Nw 5 fun b3=>?_
 refine Qq 6 (Qc rfl fun w _ _=>tT (aa s.ms i) w gb.met gb.xL) ?_
 apply kp 6 [3,4,5]
 apply Sd 0 18
 ·intro _ o7
  apply ab 2
  refine Qq 5 (Qc rfl fun w _ _=>nH _ _ _ w  oM) ?_
  refine Qq 4 (Qc rfl fun w _ _=>nH _ _ _ w  oM) ?_
  apply kp 9 [3,4,5,7]
  apply Ks 0 [33,7,3,4,5,31,32] [0]
  refine kv (ι:=Nat) (fun j=>j≤(aa s.ms i).tm.length) (fun j=>Iv j) (fun j=> .bool false) (fun j=>(aa s.ms i).tm.length-j) 0 dO rfl rfl ?_
  rintro j jN
  (try dsimp only at jN)
  apply Cd 5
  ·intros
   have kP:j<(aa s.ms i).tm.length:=oM
   have hjt:=wm.2 j kP
   apply ab 6
   refine Qq 0 (Qi j rfl (.ao (bp.r _ (aN hi)).t .no)) ?_
   refine Qq 0 (Qe rfl (.ao (bp.r _ (aN hi)).t .no)) ?_
   refine Nw 3 fun b9=>?_
   apply kp 0 [3,4,5,7,8,9,31,32,33]
   apply Dd 6 [0,1,2,3,4,5,6,7,8,9,10,11,12,13,14,15,16,17,18,19,20,21,22,23,24,25,26,27,28,29,30,31]
   refine Dq 5 rfl (Qc rfl fun w _ _=>nH _ _ _ w  oM) ?_
   refine Dq 16 rfl (Qc rfl fun w _ _=>nH _ _ _ w  oM) ?_
   refine Dq 3 rfl (dX rfl rfl (cz  oM) rfl) ?_
   apply kp 5 [3,4,5,7,31,32,33]
   refine Ag (j+1) ?_
   omega
  ·intros
   apply ab 1
   apply kp 6 [4,7]
   exact aw rfl rfl rfl
 ·intro _ o7
  apply ab 8
  refine Qq 4 (Qc rfl fun w _ _=>nH _ _ _ w  oM) ?_
  apply kp 9 [3,4,5,7]
  apply Ks 0 [33,7,3,4,5,31,32] [0]
  refine kv (ι:=Nat) (fun j=>j≤(aa s.ms i).tm.length) (fun j=>Iv j) (fun j=> .bool false) (fun j=>(aa s.ms i).tm.length-j) 0 dO rfl rfl ?_
  rintro j jN
  (try dsimp only at jN)
  apply Cd 5
  ·intros
   have kP:j<(aa s.ms i).tm.length:=oM
   have hjt:=wm.2 j kP
   apply ab 6
   refine Qq 0 (Qi j rfl (.ao (bp.r _ (aN hi)).t .no)) ?_
   refine Qq 0 (Qe rfl (.ao (bp.r _ (aN hi)).t .no)) ?_
   refine Nw 3 fun b9=>?_
   apply kp 0 [3,4,5,7,8,9,31,32,33]
   apply Dd 6 [0,1,2,3,4,5,6,7,8,9,10,11,12,13,14,15,16,17,18,19,20,21,22,23,24,25,26,27,28,29,30,31]
   refine Dq 5 rfl (Qc rfl fun w _ _=>nH _ _ _ w  oM) ?_
   refine Dq 16 rfl (Qc rfl fun w _ _=>nH _ _ _ w  oM) ?_
   refine Dq 3 rfl (dX rfl rfl (cz  oM) rfl) ?_
   apply kp 5 [3,4,5,7,31,32,33]
   refine Ag (j+1) ?_
   omega
  ·intros
   apply ab 1
   apply kp 6 [4,7]
   exact aw rfl rfl rfl
theorem Lt(s:aP)(aO:Int)(L:Value)(b:Nat)(W:World)(hb:Rd W (some ⟨b,0,none⟩) 8 [bD s aO L])(hs:s.rd W)(hB:bO s):Calls prog 87 #[.pointer (some ((bJ (some ⟨b,0,none⟩)).add (0*8)))] W (Hr.aJ W (.tuple #[])):=by
 have bp:eh W s.ms s.MA:=⟨hs.m,hs.mr⟩;have cO:=hB.ml;have jn:=hB.pl;have jc:=hB.sn;have gS:=hB.sl;have g_:=hB.ll;apply Ej 2 func87 ntmps87;refine Qq 1 (Qc rfl fun w hk _=>Cv s aO L b 177 [] w (hb.aC hk) (hs.aC hk) hB kZ (fun i hi w' bI=>api s i w' (bp.aC (hk.fa bI)) hB hi)) ?_;apply kp 0 [];exact bM rfl rfl
namespace Hr
theorem ID{P:Program}{fn:Func}{R:Ending→World→Prop}{l:Nat}{a:Act}{w:World}:∀{k:List K},post P fn R k (.goto l) a w→False
 | [],h=>by simp [post,bodyPost]at h
 | .bn _::k,h=>ID (k:=k) (by simpa [post,Exit.then]using h)
 | .aq _ _::k,h=>ID (k:=k) (by simpa [post,Exit.then]using h)
 | .aj _::k,h=>ID (k:=k) (by simpa [post,Exit.inBlock]using h)
 | .stop _::k,h=>ID (k:=k) (by simpa [post,Exit.then]using h)
theorem asc{P:Program}{fn:Func}{R:Ending→World→Prop}{X:Nat→Prop}{W:World}{n l:Nat}{k:List K}{S:St}(h:aW P fn R X W n k S):aW P fn R X W n (.bn (.label l)::k) S:=fun a w hs=>wp_label (h a w hs)
theorem asd{P:Program}{fn:Func}{R:Ending→World→Prop}{X:Nat→Prop}{W:World}{n:Nat}{k:List K}{S:St}{c:Code}(h:aW P fn R X W n (.bn c::k) S):aW P fn R X W n (.bn (.scope c)::k) S:=fun a w hs=>by
 refine wp_scope_straight (AJ ?_ (h a w hs))
 intro e a' w' q
 cases e with
 |goto l=>exact(ID q).elim
 |_=>exact q
end Hr
end Go.Proofs.YtafaoccjbifbaaaGreat
