/- Part 7 of listenerHearsItself_holds. -/
import Derived.LoopN
import Derived.Test.YtafaoccjbifbaaaGreatQ05
set_option linter.unusedSimpArgs false
set_option linter.unusedVariables false
set_option maxHeartbeats 40000000
set_option maxRecDepth 100000
namespace Go.Proofs.YtafaoccjbifbaaaGreat
open Go Go.RowKit Hr Go.Proofs.Tryz
theorem aam:Hr.pC prog 184 3:=⟨fun w=>by simp [isAgg,fk xn],Hr.Sz.of (by kernel_rfl)⟩
theorem im(n m:Int)(W:World):Calls prog 227 #[Iv n,Iv m] W (Hr.aJ W (Iv (if n<0∨m<n then 2 else 0))):=by
 apply Ej 10 func227 ntmps227;apply Sd 0 7;intro _ g7;apply ab 5;apply kp 6 [4,11];exact aw rfl rfl (by rw [aH  oM]);intro _ g7;apply ab 5;apply kp 0 [4,11];apply Cd 0;intros;apply ab 5;exact aw rfl rfl (by rw [aH  oM]);intros;apply ab 6;exact aw rfl rfl (by rw [aB  oM])
theorem Xc(k:Int)(W:World):Calls prog 228 #[Iv k] W (Hr.aJ W (.bool (decide (1≤k∧k≤4)))):=by
 apply Ej 9 func228 ntmps228;apply Sd 0 5;intro _ g5;apply ab 5;apply kp 1 [2];exact aw rfl rfl (aY Value.bool (by rw [C_];(try simp only [ir,yU,false_iff,true_iff]);omega));intro _ g5;apply ab 5;apply kp 1 [2];exact aw rfl rfl (aY Value.bool (by rw [C_];(try simp only [ir,yU,false_iff,true_iff]);omega))
theorem rU(l:List Int)(A:Option Addr)(ca:Nat)(W:World)(hr:Rd W A 1 (l.map bP))(hl:l.length≤1000):Calls prog 226 #[.slice A l.length ca] W (Hr.aJ W (Iv (Ky.ky l))):=by
 apply Ej 12 func226 ntmps226;apply Ks 0 [7,2,5,6] [];refine eP (ι:=Nat) (fun k=>k≤l.length∧Ky.ky l=Ky.ky (l.drop k)) (fun k=>Iv k) (fun k=>l.length-k) 0 (by(try dsimp only);exact⟨oM,rfl⟩) rfl ?_;rintro k hq;(try dsimp only at hq);obtain⟨hk,hE⟩:=hq;apply Cd 5;intros;have cE:k<l.length:=oM
 apply ab 5;refine Qq 0 (Qi k rfl (.ao hr .no)) ?_;refine Qq 2 (Qk rfl (.ao hr .no)) ?_;apply kp 5 [2,4,5,6,7];apply Cd 0;intro rV _;apply ab 5;apply kp 1 [2,5,6,7];exact aw rfl rfl (by rw [hE,Ky.aed cE rV]);intros;have h0:aa l k=0:=oM
 apply ab 6;apply kp 0 [2,5,6,7];refine Ag (k+1) ?_;exact⟨oM,by rw [hE,Ky.aec cE h0]⟩;intros;apply ab 1;apply kp 5 [2];exact aw rfl rfl (by rw [hE,ox  oM];rfl)
theorem Xd(W:World):Calls prog 281 #[] W (Hr.aJ W (.agg #[Iv 0,Iv 2,Iv 4,Iv 5,Iv 7,Iv 9,Iv 11])):=by
 apply Ej 2 func281 ntmps281;refine Nw 3 fun b0=>?_;refine Qq 3 (aU rfl vZ (Ha)) ?_;exact cX rfl oZ _ .nil rfl
theorem Xe(s a o:Int)(W:World)(cU:nT s a o):Calls prog 202 #[.agg #[Iv s,Iv a,Iv o]] W (Hr.aJ W (Iv (oK s+a+12*(o+1)))):=by
 unfold nT at cU;have hs:=Uc (s:=s)  oM ;apply Ej 2 func202 ntmps202;refine Nw 3 fun b1=>?_;apply Dd 4 [0,1,2,3,4,5,6,7,8,9,10,11,12];refine Dq 2 rfl (Qc rfl fun w _ _=>Xd w) ?_;refine Dq 6 rfl (A1 (q:=s.toNat) rfl underlying366 zO rfl rfl  oM oM (Nh  oM)) ?_;apply kp 1 [2];exact aw rfl rfl (aD  oM)
theorem Pn(s a o:Int)(W:World):Calls prog 201 #[.agg #[Iv s,Iv a,Iv o]] W (Hr.aJ W (Iv (if gj s a o<0 then 18 else 0))):=by
 apply Ej 2 func201 ntmps201;refine Nw 9 fun b1=>?_;apply Sd 0 7;intro _ g7;apply ab 25;apply kp 6 [1,2,31];exact aw rfl rfl (by rw [DC (by unfold nT;omega)];rfl);intro _ g7;apply Sd 5 12;intro _ Hb;apply ab 20;apply kp 6 [1,2,31];exact aw rfl rfl (by rw [DC (by unfold nT;omega)];rfl);intro _ Hb;apply Sd 5 17;intro _ jx;apply ab 15;apply kp 6 [1,2,31];exact aw rfl rfl (by rw [DC (by unfold nT;omega)];rfl);intro _ jx;apply Sd 5 22;intro _ rW;apply ab 10;apply kp 6 [1,2,31];exact aw rfl rfl (by rw [DC (by unfold nT;omega)];rfl);intro _ rW;apply Sd 5 27;intro _ mA;apply ab 5;apply kp 6 [1,2,31];exact aw rfl rfl (by rw [DC (by unfold nT;omega)];rfl);intro _ mA;apply ab 5;apply kp 0 [1,2,31];apply Cd 0;intros;apply ab 5;exact aw rfl rfl (by rw [DC (by unfold nT;omega)];rfl);intros;have cU:nT s a o:=by unfold nT;omega
 apply ab 5;refine Qq 2 (Qc rfl fun w _ _=>Xe s a o w cU) ?_;apply kp 5 [2,3];apply Sd 0 36;intro _ g36;apply ab 4;apply kp 6 [2,39];exact aw rfl rfl (by rw [Ud cU  oM];rfl);intro _ g36;apply ab 4;apply kp 0 [2,39];apply Cd 0;intros;apply ab 5;exact aw rfl rfl (by rw [Ud cU  oM];rfl);intros;apply ab 6;exact aw rfl rfl (by rw [aeh cU  oM,aB  oM])
theorem Er(s a o:Int)(W:World):Calls prog 125 #[.agg #[Iv s,Iv a,Iv o]] W (Hr.aJ W (.tuple #[Iv (if gj s a o<0 then 0 else gj s a o),Iv (if gj s a o<0 then 18 else 0)])):=by
 apply Ej 2 func125 ntmps125;refine Nw 7 fun b1=>?_;refine Qq 2 (Qc rfl fun w _ _=>Pn s a o w) ?_;apply kp 5 [1,2,3,4];apply Cd 0;intro uZ _;have hp:gj s a o<0:=by by_cases h:gj s a o<0;(· exact h);(· rw [aB h]at uZ;exact absurd rfl uZ)
 apply ab 6;apply kp 1 [1,2,3];exact c6 rfl rfl rfl (by rw [aH hp,aH hp]);intro uZ _;have hp:0≤gj s a o:=by by_cases h:gj s a o<0;(· rw [aH h]at uZ;cases uZ);(· omega)
 apply ab 4;refine Qq 3 (Qc rfl fun w _ _=>Xe s a o w (Js hp).1) ?_;apply kp 1 [2,3];exact c6 rfl rfl rfl (by rw [aB  oM,aB  oM,(Js hp).2])
theorem Po(s a o:Int)(W:World):Calls prog 200 #[.agg #[Iv s,Iv a,Iv o]] W (Hr.aJ W (.tuple #[Iv (if gj s a o<0 then 0 else gj s a o),Iv (if gj s a o<0 then 18 else 0)])):=by
 have Es:=Ng s a o;apply Ej 2 func200 ntmps200;refine Nw 6 fun b1=>?_;refine Qq 6 (Qc rfl fun w _ _=>Er s a o w) ?_;apply kp 6 [2,3,4,5];apply Sd 0 13;intro _ x0;apply ab 8;apply kp 7 [2,3,4,20];exact c6 rfl rfl rfl (by rw [aH  oM,aH  oM]<;>rfl);intro _ x0;apply Sd 4 17;intro _ jx;apply ab 4;apply kp 7 [2,3,4,20];exact c6 rfl rfl rfl (by rw [aH  oM,aH  oM]<;>rfl);intro _ jx;apply ab 4;apply kp 0 [2,3,4,20];apply Cd 0;intros;apply ab 6;exact c6 rfl rfl rfl (by rw [aH  oM,aH  oM]<;>rfl);intros;apply ab 7;apply kp 1 [2,3];exact c6 rfl rfl rfl (by rw [aB  oM,aB  oM]<;>rfl)
theorem ajn(h:Hd)(W:World):Calls prog 298 #[h.val] W (Hr.aJ W (Iv (nw h))):=by
 apply Ej 2 func298 ntmps298;refine Nw 6 fun b1=>?_;refine Qq 11 (Qc rfl fun w _ _=>Po h.step h.dw h.eK w) ?_;refine Qq 0 (Qc rfl fun w _ _=>im _ _ w) ?_;refine Nw 0 fun wI=>?_;refine Qq 2 (Qc rfl fun w _ hm=>rU [if h.aG<0 then 18 else 0,if h.uA<0∨2<h.uA then 2 else 0] (some ⟨wI,0,none⟩) 2 w (b_ (ag.ak.holds hm)) sM) ?_;apply kp 1 [2];exact aw rfl rfl (aD (by rw [nw,Ky.ky];split<;>(try simp)<;>split<;>simp [Ky.ky]))
namespace Hr
section
variable{P:Program}{fn:Func}{R:Ending→World→Prop}{X:Nat→Prop}{W:World}{n:Nat}{k:List K}{S:St}
theorem EC{c:Code}(m:Nat)(h:aW P fn R X W n (.stop (Code.rounds P c (post P fn R k) m)::k) S):aW P fn R X W n (.bn (.loop c)::k) S:=
 fun a w hs=>wp_loop_rounds m (h a w hs)
theorem fT{c:Code}{m:Nat}(h:aW P fn R X W n (.bn c:: .stop (Code.rounds P c (post P fn R k) m)::k) S):aW P fn R X W n (.stop (Code.rounds P c (post P fn R k) (m+1))::k) S:=fun a w hs=>by
 show Code.rounds P c (post P fn R k) (m+1) a w
 rw [rounds_succ]
 refine AJ ?_ (h a w hs)
 intro e a' w' q
 cases e with
 |normal=>exact q
 |_=>exact q
end
end Hr
namespace Ls
theorem P5{c:cJ}(hc:sU c)(x:aF):o3 c x x=0:=by
 have h:=hc.l
 have e:min c.cM (max (x.on-x.on) (x.on-x.on))=0:=oM
 rw [o3,e,aH rfl];simp
theorem Hq{c:cJ}(hc:sU c):∀(a:List aF),a7 c a a=0
 | []=>by simp [a7]
 |x::a=>by
  have h1:=Hq hc a
  have h2:=(qL hc a (x::a)).1
  have h3:=(qL hc (x::a) a).1
  have hm:=hc.m;have he:=hc.e
  rw [a7,P5 hc,h1]
  omega
def x9(n:Nat):Nat→List qK:=fun i=>(List.range n).map fun j=>⟨1,((i+j:Nat):Int),((i+j:Nat):Int)⟩
theorem akE(n i:Nat):x9 (n+1) i=⟨1,(i:Int),(i:Int)⟩::x9 n (i+1):=by
 simp only [x9,List.range_succ_eq_map,qq,pz,AP]
 congr 1
 apply uh
 intro j _
 simp [Function.comp,AM,Nat.add_comm 1 j]
theorem Xw{c:cJ}(hc:sU c):∀(a:List aF) (i:Nat),jb c a a i i=x9 a.length i
 | [],i=>by simp [jb,x9]
 |x::a,i=>by
  rw [jb,aH (by rw [Hq hc,Hq hc,P5 hc];rfl),Xw hc a (i+1),eF,akE]
  simp [xX]
theorem Co(n i:Nat):(x9 n i).length=n:=by simp [x9]
theorem akF{n k:Nat}(h:k<n):aa (x9 n 0) k=⟨1,(k:Int),(k:Int)⟩:=by
 simp [x9,aa,h]
theorem zd{f:Nat→Int}:∀{n i:Nat},(∀j,i≤j→j<i+n→f j=0)→cI f n i=0
 |0,_,_=>rfl
 |n+1,i,h=>by
  rw [cI,aB (by simp [h i  oM oM])]
  exact zd fun j h1 h2=>h j  oM oM
theorem Xx{l:List aF}:nf l=0↔l.length≤1024∧∀j,j<l.length→p9 (aa l j)=true∧(0<j→(aa l (j-1)).on≤(aa l j).on):=by
 unfold nf
 constructor
 ·intro h
  split at h
  ·cases h
  ·refine⟨oM,fun j hj=>?_⟩
   have h1:=xz h j hj
   rw [ub]at h1
   unfold tN at h1
   split at h1
   ·cases h1
   ·rename_i hb
    refine⟨by simpa using hb,fun h0=>?_⟩
    split at h1
    ·cases h1
    ·omega
 ·rintro⟨hl,h⟩
  rw [aB  oM]
  refine zd fun j _ hj=>?_
  obtain⟨h1,h2⟩:=h j  oM
  rw [tN,aB (by simp [h1]),aB (by have:=h2;omega)]
end Ls
structure ye(s:aP)(i c v x:Nat):Prop where
 li:i<s.ms.length
 lc:c<(aa s.ms i).cs.length
 lv:v<((aa (aa s.ms i).cs c)).vs.length
 lx:x<((aa (aa (aa s.ms i).cs c).vs v)).es.length
def EG(s:aP):Int:=aa (bL s) s.ms.length
structure vf(s:aP)(x:aK):Prop where
 t:0≤x.on∧x.on≤x.off∧x.off≤EG s
 p:0≤x.part∧x.part≤3
 n: -200≤x.aG∧x.aG≤327
 e:∃i c v k,ye s i c v k∧x.es=((aa (aa (aa (aa s.ms i).cs c).vs v).es k)).x.n.bX∧x.en=((aa (aa (aa (aa s.ms i).cs c).vs v).es k)).x.n.aG∧x.hd<((aa (aa (aa (aa s.ms i).cs c).vs v).es k)).x.hs.length
theorem vf.p8{s:aP}{x:aK}{o:Int}(h:vf s x)(h1:x.off≤o)(h2:o≤EG s):vf s (p8 x o):=⟨⟨h.t.1,vG h.t.2.1 h1,h2⟩,h.p,h.n,h.e⟩
theorem EH{s:aP}{k:Nat}(h:k≤s.ms.length):aa (bL s) k=gz ((kE s).take k):=Ke (by simpa [kE]using h)
theorem Hw{s:aP}{k:Nat}(h:k<s.ms.length):aa (bL s) (k+1)=aa (bL s) k+(aa s.ms k).n.met.ln:=by
 rw [EH h,EH (nO h),ON (by simpa [kE]using h),We h]
theorem Aa{s:aP}(hB:bO s){a b:Nat}(h:a≤b)(hb:b≤s.ms.length):aa (bL s) a≤aa (bL s) b:=by
 rw [EH  oM,EH hb]
 exact Wd (fun x hx=>by have:=hB.OO x hx;omega) h
theorem XI{s:aP}:aa (bL s) 0=0:=by rw [EH (lI _)];rfl
theorem nG{s:aP}(hB:bO s){k:Nat}(h:k≤s.ms.length):0≤aa (bL s) k∧aa (bL s) k≤EG s∧EG s≤11612160:=by
 have h0:=Aa hB (lI k) h
 rw [XI]at h0
 have h1:=Aa hB h (ct _)
 refine⟨h0,h1,?_⟩
 have h2:=Kf (ls:=(kE s).take s.ms.length) (B:=1935360) fun x hx=>by have:=hB.OO x (AO hx);omega
 have h3:=hB.ml
 have h4:((kE s).take s.ms.length).length=s.ms.length:=by simp [kE]
 rw [h4]at h2
 unfold EG
 rw [EH (ct _)]
 omega
theorem qh{s:aP}:(bL s).length=s.ms.length+1:=by rw [bL,wF];simp [kE]
theorem ak1{g:fR}{m:Nat}:(sR g).count m≤if g.fst≤m∧m<g.cy then g.hZ else 0:=by
 have key:∀p,((uX g p).map (·.1)).count m≤if g.fst≤m∧m<g.cy then p else 0:=by
  intro p
  induction p with
  |zero=>simp [uX]
  |succ p ih=>
   rw [OJ,bT,List.count_append]
   have h1:((uW g p (g.cy-g.fst)).map (·.1))=(List.range (g.cy-g.fst)).map (g.fst+ ·):=by simp [uW,Function.comp_def]
   rw [h1]
   have BE:((List.range (g.cy-g.fst)).map (g.fst+ ·)).Nodup:=List.Pairwise.map (S:=(· ≠ ·)) (g.fst+ ·) (fun a b (hab:a≠b)=>by show g.fst+a≠g.fst+b;omega) List.nodup_range
   have h2:=BE.count (a:=m)
   rw [h2]
   by_cases hm:g.fst≤m∧m<g.cy
   ·rw [aH hm]at ih⊢
    split<;>omega
   ·rw [aB hm]at ih⊢
    rw [aB (fun hx=>by
     obtain⟨j,hj,rfl⟩:=eS.1 hx
     have:=jU.1 hj
     exact hm ⟨oM,oM⟩)]
    omega
 exact key g.hZ
theorem ak2{g:fR}{m:Nat}(h:m∈sR g):g.fst≤m:=by
 obtain⟨x,hx,rfl⟩:=eS.1 h
 obtain⟨q,_,h2⟩:=q9.1 hx
 obtain⟨j,_,rfl⟩:=eS.1 h2
 exact Nat.le_add_right _ _
theorem XJ:∀{gs:List fR} {a b:Nat},oa a gs b→∀m∈eG gs,a≤m
 | [],a,b,_,m,hm=>by simp [eG]at hm
 |g::gs,a,b,h,m,hm=>by
  have e:eG (g::gs)=sR g++eG gs:=by simp [eG]
  rw [e]at hm
  have h1:=h.1
  have h2:=h.2.1
  rcases dK.1 hm with h3|h3
  ·have:=ak2 h3;omega
  ·have:=XJ h.2.2.2 m h3;omega
theorem XK:∀{gs:List fR} {a b:Nat},oa a gs b→∀m,(eG gs).count m≤3
 | [],a,b,_,m=>by simp [eG]
 |g::gs,a,b,h,m=>by
  have e:eG (g::gs)=sR g++eG gs:=by simp [eG]
  rw [e,List.count_append]
  have h1:=ak1 (g:=g) (m:=m)
  have h2:=h.2.2.1
  by_cases hm:m<g.cy
  ·have h3:(eG gs).count m=0:=List.count_eq_zero.2 fun hx=>by have:=XJ h.2.2.2 m hx;omega
   split at h1<;>omega
  ·rw [aB (fun g=>hm g.2)]at h1
   have:=XK h.2.2.2 m
   omega
def r6(lo hi:Int)(x:aK):Bool:=decide (lo≤x.on)&&decide (x.on<hi)
def Hy(d:Int)(x:aK):aK:={x with on:=x.on+d,off:=x.off+d}
def mF(lo hi d:Int)(l:List aK):List aK:=(l.filter (r6 lo hi)).map (Hy d)
def Hz(s:aP)(l:List Nat)(ns:List aK)(j:Nat):List aK:=mF (aa (bL s) (aa l j)) (aa (bL s) (aa l j+1)) (aa (cQ s l) j-aa (bL s) (aa l j)) ns
def lY(s:aP)(l:List Nat)(ns:List aK)(k:Nat):List aK:=(List.range k).flatMap (Hz s l ns)
theorem HB{s:aP}{l:List Nat}{ns:List aK}{k:Nat}:lY s l ns (k+1)=lY s l ns k++Hz s l ns k:=by simp [lY,nM,kY]
theorem Ql{lo hi d:Int}{ns:List aK}{q:Nat}(h:q<ns.length):mF lo hi d (ns.take (q+1))=mF lo hi d (ns.take q)++if r6 lo hi (aa ns q)=true then [Hy d (aa ns q)]else []:=by
 rw [nB h,mF,IT,bT]
 congr 1
 cases hx:r6 lo hi (aa ns q)<;>simp [hx]
theorem ak3{d:Int}{x:aK}:vN (Hy d x)=vN x:=by simp only [vN,Hy];omega
theorem vg{x:aK}{l:List aK}:dj (x::l)=vN x+dj l:=rfl
theorem XL{lo hi d:Int}:∀{ns:List aK},dj (mF lo hi d ns)=dj (ns.filter (r6 lo hi))
 | []=>rfl
 |x::ns=>by
  have ih:=XL (lo:=lo) (hi:=hi) (d:=d) (ns:=ns)
  cases hx:r6 lo hi x
  ·simp only [mF,List.filter_cons,hx]at ih⊢
   exact ih
  ·simp only [mF,List.filter_cons,hx,if_true,qq]at ih⊢
   rw [vg,vg,ak3,ih]
def vh(s:aP)(l:List Nat)(j:Nat)(x:aK):Bool:=r6 (aa (bL s) (aa l j)) (aa (bL s) (aa l j+1)) x
theorem XM{s:aP}{l:List Nat}{ns:List aK}:∀{k:Nat},dj (lY s l ns k)=gz ((List.range k).map fun j=>dj (ns.filter (vh s l j)))
 |0=>rfl
 |k+1=>by
  rw [HB,G2,XM (k:=k),nM,bT,B7]
  congr 1
  show dj (mF _ _ _ ns)=gz [dj (ns.filter (vh s l k))]
  rw [XL]
  have e:∀z:Int,gz [z]=z:=fun z=>by simp [gz]
  rw [e];rfl
theorem XN{s:aP}{l:List Nat}{x:aK}{ns:List aK}:∀{k:Nat},gz ((List.range k).map fun j=>dj ((x::ns).filter (vh s l j)))=((List.range k).countP fun j=>vh s l j x:Nat)*vN x+gz ((List.range k).map fun j=>dj (ns.filter (vh s l j)))
 |0=>by simp [gz]
 |k+1=>by
  have ih:=XN (s:=s) (l:=l) (x:=x) (ns:=ns) (k:=k)
  have e:∀z:Int,gz [z]=z:=fun z=>by simp [gz]
  rw [nM,bT,bT,B7,B7,List.countP_append,IV,IV,e,e,ih]
  cases hx:vh s l k x
  ·simp [hx];omega
  ·simp only [List.filter_cons,hx,if_true,vg,List.countP_cons,List.countP_nil]
   rw [xk,xl]
   simp
   omega
theorem ak4{s:aP}(hB:bO s){l:List Nat}(hl:∀x∈l,x<s.ms.length)(hc:∀m,l.count m≤3){x:aK}:(List.range l.length).countP (fun j=>vh s l j x)≤3:=by
 by_cases h:∃j,j<l.length∧vh s l j x=true
 ·obtain⟨j,hj,hw⟩:=h
  refine jg ?_ (hc (aa l j))
  have e:l.count (aa l j)=(List.range l.length).countP fun k=>aa l k==aa l j:=by
   have:=GN l (fun y:Nat=>y)
   simp only [List.map_id']at this
   have h2:l.count (aa l j)=((List.range l.length).map fun k=>aa l k).count (aa l j):=by rw [this]
   rw [h2,List.count,List.countP_map];rfl
  rw [e]
  refine List.countP_mono_left fun k hk eY=>?_
  have hk:=jU.1 hk
  simp only [vh,r6,fu,ir]at hw eY
  rw [kh]
  have a1:=hl _ (aN hj)
  have a2:=hl _ (aN hk)
  rcases Nat.lt_trichotomy (aa l k) (aa l j)with h1|h1|h1
  ·have:=Aa hB (show aa l k+1≤aa l j by omega)  oM ;omega
  ·exact h1
  ·have:=Aa hB (show aa l j+1≤aa l k by omega)  oM ;omega
 ·rw [List.countP_eq_zero.2 fun j hj hw=>h ⟨j,jU.1 hj,hw⟩]
  omega
theorem ak5{s:aP}(hB:bO s){l:List Nat}(hl:∀x∈l,x<s.ms.length)(hc:∀m,l.count m≤3){ns:List aK}(hn:∀x∈ns,x.on≤x.off):dj (lY s l ns l.length)≤3*dj ns:=by
 rw [XM]
 induction ns with
 |nil=>
  have:(fun j=>dj (([]:List aK).filter (vh s l j)))=fun _=>(0:Int):=rfl
  rw [this]
  have e:∀k,gz ((List.range k).map fun _=>(0:Int))=0:=fun k=>by
   induction k with
   |zero=>rfl
   |succ k ih=>rw [nM,bT,B7,ih];rfl
  rw [e];decide
 |cons x ns ih=>
  have ih:=ih fun y hy=>hn y (by simp [hy])
  have h1:=ak4 hB hl hc (x:=x)
  have h2:0≤vN x:=by have:=hn x  sM ;unfold vN;omega
  rw [XN,vg]
  have h3:(((List.range l.length).countP fun j=>vh s l j x:Nat):Int)*vN x≤3*vN x:=nk  oM h2
  omega
theorem XP{s:aP}{l:List Nat}{ns:List aK}:∀{k:Nat},(lY s l ns k).length≤k*ns.length
 |0=>by simp [lY]
 |k+1=>by
  have:=XP (s:=s) (l:=l) (ns:=ns) (k:=k)
  have h2:(Hz s l ns k).length≤ns.length:=by rw [Hz,mF,bG];exact List.length_filter_le _ _
  rw [HB,ay,C2];omega
theorem ak6{lo hi d:Int}{l:List aK}:(mF lo hi d l).length≤l.length:=by rw [mF,bG];exact List.length_filter_le _ _
theorem vj{s:aP}{l:List Nat}:(cQ s l).length=l.length+1:=by rw [cQ,wF];simp [kF]
theorem EI{s:aP}{l:List Nat}{k:Nat}(h:k≤l.length):aa (cQ s l) k=gz ((kF s l).take k):=Ke (by simpa [kF]using h)
theorem XQ{s:aP}{l:List Nat}{k:Nat}(h:k<l.length):aa (cQ s l) (k+1)=aa (cQ s l) k+(aa s.ms (aa l k)).n.met.ln:=by
 rw [EI h,EI (nO h),ON (by simpa [kF]using h),Wf h]
theorem Cq{s:aP}(hB:bO s){l:List Nat}(hl:∀x∈l,x<s.ms.length)(hn:l.length≤32){k:Nat}(h:k≤l.length):0≤aa (cQ s l) k∧aa (cQ s l) k≤61931520:=by
 rw [EI h]
 have h2:=Kf (ls:=(kF s l).take k) (B:=1935360) fun x hx=>by have:=hB.OP hl x (AO hx);omega
 have h4:((kF s l).take k).length=k:=by simp [kF];omega
 rw [h4]at h2
 omega
theorem ak7{s:aP}(hB:bO s){l:List Nat}(hl:∀x∈l,x<s.ms.length){a b:Nat}(h:a≤b)(hb:b≤l.length):aa (cQ s l) a≤aa (cQ s l) b:=by
 rw [EI  oM,EI hb]
 exact Wd (fun x hx=>by have:=hB.OP hl x hx;omega) h
theorem KS{s:aP}{l:List Nat}:aa (cQ s l) 0=0:=by rw [EI (lI _)];rfl
structure yf(s:aP)(x:aK):Prop where
 t:0≤x.on∧x.on≤x.off∧x.off≤80000000
 p:0≤x.part∧x.part≤3
 n: -200≤x.aG∧x.aG≤327
 e:∃i c v k,ye s i c v k∧x.es=((aa (aa (aa (aa s.ms i).cs c).vs v).es k)).x.n.bX∧x.en=((aa (aa (aa (aa s.ms i).cs c).vs v).es k)).x.n.aG∧x.hd<((aa (aa (aa (aa s.ms i).cs c).vs v).es k)).x.hs.length
theorem ak8{s:aP}(hB:bO s){l:List Nat}(hl:∀x∈l,x<s.ms.length)(hn:l.length≤32){ns:List aK}(h:∀x∈ns,vf s x){j:Nat}(hj:j<l.length):∀x∈Hz s l ns j,yf s x:=by
 intro x hx
 obtain⟨y,hy,rfl⟩:=eS.1 hx
 obtain⟨qA,V5⟩:=IN.1 hy
 simp only [r6,fu,ir]at V5
 have h1:=h y qA
 have h2:=h1.t
 have h3:=nG hB (nO (hl _ (aN hj)))
 have h4:=Cq hB hl hn (nO hj)
 refine⟨?_,h1.p,h1.n,h1.e⟩
 simp only [Hy]
 omega
theorem ak9{s:aP}(hB:bO s){l:List Nat}(hl:∀x∈l,x<s.ms.length)(hn:l.length≤32){ns:List aK}(h:∀x∈ns,vf s x){k:Nat}(hk:k≤l.length):∀x∈lY s l ns k,yf s x:=by
 intro x hx
 obtain⟨j,hj,hx⟩:=q9.1 hx
 exact ak8 hB hl hn h (by have:=jU.1 hj;omega) x hx
theorem XR{a b:List aK}(h:a.Perm b):dj a=dj b:=by
 induction h with
 |nil=>rfl
 |cons x _ ih=>rw [vg,vg,ih]
 |swap x y l=>rw [vg,vg,vg,vg];omega
 |trans _ _ h1 h2=>exact h1.trans h2
structure HC(p:Nat→Bool)(n r:Nat):Prop where
 le:r≤n
 lo:0<r→p (r-1)=false
 hi:r<n→p r=true
theorem HC.gW{p:Nat→Bool}{n r:Nat}(h:HC p n r)(hn:0<n)(h0:p 0=false):0<r:=by
 rcases Nat.eq_zero_or_pos r with h1|h1
 ·subst h1;rw [h.hi hn]at h0;cases h0
 ·exact h1
structure iF where
 bq:Int
 cC:Int
 mT:Bool
instance:Inhabited iF:=⟨⟨0,0,false⟩⟩
def iF.enc(x:iF):List Value:= [.int .i64 x.bq,.int .i64 x.cC,.bool x.mT]
def yg(s:aP)(i:Nat):List iF:=(aa s.ms i).tm.map fun t=>⟨aa (bL s) i+t.fJ,t.cC,t.mT⟩
def ft(s:aP)(k:Nat):List iF:=⟨-1,500000,false⟩::(List.range k).flatMap (yg s)
theorem KT{s:aP}{k:Nat}:ft s (k+1)=ft s k++yg s k:=by simp [ft,nM,kY]
theorem Qm{s:aP}{i j:Nat}(h:j<(aa s.ms i).tm.length):(((aa s.ms i).tm.take (j+1)).map fun t=>(⟨aa (bL s) i+t.fJ,t.cC,t.mT⟩:iF))=(((aa s.ms i).tm.take j).map fun t=>(⟨aa (bL s) i+t.fJ,t.cC,t.mT⟩:iF))++ [⟨aa (bL s) i+(aa (aa s.ms i).tm j).fJ,(aa (aa s.ms i).tm j).cC,(aa (aa s.ms i).tm j).mT⟩]:=by
 rw [nB h,bT];rfl
structure XS(s:aP)(k:Nat)(l:List iF):Prop where
 len:1≤l.length∧l.length≤k+1
 z:aa l 0=⟨-1,500000,false⟩
 cC:∀x∈l,300000≤x.cC∧x.cC≤2850000
 rG:∀j,j+1<l.length→(aa l j).bq<(aa l (j+1)).bq
 fJ:∀j,0<j→j<l.length→∃i,i<k∧(aa l j).bq=aa (bL s) i
 lo:∀x∈l,-1≤x.bq∧x.bq≤11612160
theorem KU{s:aP}(hB:bO s):∀{k:Nat},k≤s.ms.length→XS s k (ft s k)
 |0,_=>⟨by simp [ft],rfl,fun x hx=>by simp only [ft,List.range_zero,List.flatMap_nil,c_]at hx;subst hx;exact⟨by decide,by decide⟩,fun j hj=>by simp [ft]at hj,fun j hj rP=>by simp [ft]at rP;omega,fun x hx=>by simp only [ft,List.range_zero,List.flatMap_nil,c_]at hx;subst hx;exact⟨by decide,by decide⟩⟩
 |k+1,hk=>by
  have ih:=KU hB (k:=k)  oM
  obtain⟨a,hm⟩:=hB.me (show k<s.ms.length by omega)
  rw [KT]
  rcases hm.tm with h0|⟨t,h0,h1,h2,h3⟩
  ·have e:yg s k= []:=by rw [yg,h0];rfl
   rw [e,gZ]
   exact⟨by have:=ih.len;omega,ih.z,ih.cC,ih.rG,fun j h1 h2=>by obtain⟨i,h3,h4⟩:=ih.fJ j h1 h2;exact⟨i,oM,h4⟩,ih.lo⟩
  ·have e:yg s k= [⟨aa (bL s) k,t.cC,t.mT⟩]:=by rw [yg,h0,IV,h1,Int.add_zero]
   rw [e]
   have bN:∀j,j<(ft s k).length→(aa (ft s k) j).bq<aa (bL s) k:=fun j hj=>by
    rcases Nat.eq_zero_or_pos j with h5|h5
    ·subst h5;rw [ih.z];have:=nG hB (show k≤s.ms.length by omega);show(-1:Int)<_;omega
    ·obtain⟨i,h6,h7⟩:=ih.fJ j h5 hj
     rw [h7]
     have:=Aa hB (show i+1≤k by omega)  oM
     have:=Hw (s:=s) (show i<s.ms.length by omega)
     have:=(hB.ln (show i<s.ms.length by omega)).2.2
     omega
   have hl:=ih.len
   refine⟨by simp;omega,by rw [rE  oM];exact ih.z,fun x hx=>?_,fun j hj=>?_,fun j h5 hj=>?_,fun x hx=>?_⟩
   ·rcases dK.1 hx with h|h
    ·exact ih.cC x h
    ·rw [c_.1 h];exact⟨h2,h3⟩
   ·rw [ay,sg]at hj
    by_cases tt:j+1<(ft s k).length
    ·rw [rE  oM,rE tt];exact ih.rG j tt
    ·have e2:aa (ft s k++ [(⟨aa (bL s) k,t.cC,t.mT⟩:iF)]) (j+1)=⟨aa (bL s) k,t.cC,t.mT⟩:=by simp [aa,show j+1=(ft s k).length by omega]
     rw [rE  oM,e2];exact bN j  oM
   ·rw [ay,sg]at hj
    by_cases tt:j<(ft s k).length
    ·rw [rE tt]
     obtain⟨i,h6,h7⟩:=ih.fJ j h5 tt
     exact⟨i,oM,h7⟩
    ·have e2:aa (ft s k++ [(⟨aa (bL s) k,t.cC,t.mT⟩:iF)]) j=⟨aa (bL s) k,t.cC,t.mT⟩:=by simp [aa,show j=(ft s k).length by omega]
     rw [e2];exact⟨k,oM,rfl⟩
   ·rcases dK.1 hx with h|h
    ·exact ih.lo x h
    ·rw [c_.1 h]
     have:=nG hB (show k≤s.ms.length by omega)
     show-1≤aa (bL s) k∧aa (bL s) k≤11612160
     omega
structure KV(l:List iF)(bq:Int)(i:Nat):Prop where
 lt:i<l.length
 lo:(aa l i).bq≤bq
 hi:i+1<l.length→bq<(aa l (i+1)).bq
theorem ak_{l:List iF}{bq:Int}{r:Nat}(h:HC (fun j=>decide (bq<(aa l j).bq)) l.length r)(h0:0<l.length)(hz:(aa l 0).bq≤bq):0<r∧KV l bq (r-1):=by
 have hp:=h.gW h0 (by simp;omega)
 refine⟨hp,by have:=h.le;omega,?_,fun h2=>?_⟩
 ·have:=h.lo hp
  simpa using this
 ·rw [show r-1+1=r from oM]at h2⊢
  have:=h.hi h2
  simpa using this
def qi(l:List iF)(i:Nat)(bq:Int):Int:=
 if(aa l i).mT=false∨i+1=l.length then(aa l i).cC else(aa l i).cC+((aa l (i+1)).cC-(aa l i).cC)*(bq-(aa l i).bq)/((aa l (i+1)).bq-(aa l i).bq)
theorem XT{a b:Int}(hb:0<b):(if Int.tmod a b<0 then Int.tdiv a b-1 else Int.tdiv a b)=a/b:=by
 rcases Fy 0 a with h|h
 ·rw [aB (by have:=Fz b h;omega),Int.tdiv_eq_ediv_of_nonneg h]
 ·have h1:=Int.mul_tdiv_add_tmod a b
  have h2: -b<Int.tmod a b:=by
   have:=Int.tmod_lt_of_pos (-a) hb
   rw [Int.neg_tmod]at this;omega
  have h3:Int.tmod a b≤0:=by
   have:=Fz b (show(0:Int)≤-a by omega)
   rw [Int.neg_tmod]at this;omega
  split
  ·exact((Int.ediv_emod_unique (a:=a) (b:=b) (q:=Int.tdiv a b-1) (r:=Int.tmod a b+b) hb).2 ⟨by rw [Int.mul_sub];omega,oM,oM⟩).1.symm
  ·exact((Int.ediv_emod_unique (a:=a) (b:=b) (q:=Int.tdiv a b) (r:=Int.tmod a b) hb).2 ⟨oM,oM,oM⟩).1.symm
theorem Qn{a b M:Int}(hb:0<b)(ha: -M≤a∧a≤M):(-M≤Int.tdiv a b∧Int.tdiv a b≤M)∧(-M≤Int.tdiv a b*b∧Int.tdiv a b*b≤M):=by
 have h1:=Int.mul_tdiv_add_tmod a b
 have key:∀q:Int,0≤q→q≤b*q:=fun q hq=>by
  have:=nk (show(1:Int)≤b by omega) hq
  rwa [Int.one_mul]at this
 rw [Int.mul_comm (Int.tdiv a b) b]
 rcases Fy 0 a with h|h
 ·have h2:=Fz b h
  have h3:0≤Int.tdiv a b:=Int.tdiv_nonneg h  oM
  have h4:=key _ h3
  omega
 ·have h2:Int.tmod a b≤0:=by
   have:=Fz b (show(0:Int)≤-a by omega)
   rw [Int.neg_tmod]at this;omega
  have h3:Int.tdiv a b≤0:=by
   have:=Int.tdiv_nonneg (show(0:Int)≤-a by omega) (show 0≤b by omega)
   rw [Int.neg_tdiv]at this;omega
  have h4:=key _ (show 0≤-Int.tdiv a b by omega)
  rw [Int.mul_neg]at h4
  omega
theorem XU{a b n d:Int}(hd:0<d)(h0:0≤n)(h1:n≤d):min a b≤a+(b-a)*n/d∧a+(b-a)*n/d≤max a b:=by
 rcases Fy a b with h|h
 ·have e1:0≤(b-a)*n/d:=vE (py  oM h0)  oM
  have e2:(b-a)*n/d≤b-a:=by
   refine Int.ediv_le_of_le_mul hd ?_
   exact yV h1  oM
  omega
 ·have e1:(b-a)*n/d≤0:=by
   refine Int.ediv_le_of_le_mul hd ?_
   rw [AQ]
   exact Int.mul_nonpos_of_nonpos_of_nonneg  oM h0
  have e2:b-a≤(b-a)*n/d:=by
   refine Int.le_ediv_of_mul_le hd ?_
   have h2:=yV h1 (show 0≤a-b by omega)
   rw [show b-a= -(a-b) by omega,Int.neg_mul,Int.neg_mul]
   omega
  omega
theorem XV{s:aP}{l:List iF}{k:Nat}(h:XS s k l){bq:Int}{i:Nat}(hi:i<l.length)(h1:(aa l i).bq≤bq)(h2:i+1<l.length→bq≤(aa l (i+1)).bq):300000≤qi l i bq∧qi l i bq≤2850000:=by
 have m1:=h.cC _ (aN hi)
 unfold qi
 split
 ·exact m1
 ·rename_i hn
  have hl:i+1<l.length:=by
   rcases ie (i+1) l.length with h3|h3
   ·exact h3
   ·exact absurd (.inr  oM) hn
  have m2:=h.cC _ (aN hl)
  have h3:=h.rG i hl
  have:=XU (a:=(aa l i).cC) (b:=(aa l (i+1)).cC) (n:=bq-(aa l i).bq) (d:=(aa l (i+1)).bq-(aa l i).bq)  oM oM (by have:=h2 hl;omega)
  omega
structure cT where
 b:Int
 e:Int
 f:Int
 t:Int
 cC:Int
instance:Inhabited cT:=⟨⟨0,0,0,0,0⟩⟩
def cT.enc(x:cT):List Value:= [.int .i64 x.b,.int .i64 x.e,.int .i64 x.f,.int .i64 x.t,.int .i64 x.cC]
def cT.val(x:cT):Value:= .agg x.enc.toArray
def r7(z:Int):Prop:=300000≤z∧z≤2850000
def iS:Int→List cT→Int→Prop
 |a, [],b=>a=b
 |a,x::xs,b=>x.b=a∧x.b<x.e∧r7 x.f∧r7 x.t∧iS x.e xs b
theorem iS.le:∀{xs:List cT} {a b:Int},iS a xs b→a≤b
 | [],a,b,h=>by have:a=b:=h;omega
 |x::xs,a,b,h=>by have:=h.2.2.2.2.le;have:=h.1;have:=h.2.1;omega
theorem iS.eN:∀{xs:List cT} {a b:Int} {x:cT},iS a xs b→x.b=b→x.b<x.e→r7 x.f→r7 x.t→iS a (xs++ [x]) x.e
 | [],a,b,x,h,h1,h2,h3,h4=>by have:a=b:=h;exact⟨oM,h2,h3,h4,rfl⟩
 |y::xs,a,b,x,h,h1,h2,h3,h4=>⟨h.1,h.2.1,h.2.2.1,h.2.2.2.1,h.2.2.2.2.eN h1 h2 h3 h4⟩
def HD(x:cT)(e:Int):cT:={x with e:=e}
theorem iS.XW:∀{xs:List cT} {a b e:Int},iS a xs b→0<xs.length→b≤e→iS a (xs.set (xs.length-1) (HD (aa xs (xs.length-1)) e)) e
 | [],a,b,e,h,h0,_=>by simp at h0
 | [x],a,b,e,h,h0,he=>by
  have h5:x.e=b:=h.2.2.2.2
  exact⟨h.1,by show x.b<e;have:=h.2.1;omega,h.2.2.1,h.2.2.2.1,rfl⟩
 |x::y::xs,a,b,e,h,h0,he=>by
  have ih:=iS.XW (xs:=y::xs) h.2.2.2.2  sM  he
  have e1:aa (x::y::xs) ((x::y::xs).length-1)=aa (y::xs) ((y::xs).length-1):=by simp [aa]
  rw [e1]
  exact⟨h.1,h.2.1,h.2.2.1,h.2.2.2.1,ih⟩
theorem iS.at:∀{xs:List cT} {a b:Int} {k:Nat},iS a xs b→k<xs.length→a≤(aa xs k).b∧(aa xs k).b<(aa xs k).e∧(aa xs k).e≤b∧r7 (aa xs k).f∧r7 (aa xs k).t∧(k=0→(aa xs k).b=a)∧(k+1<xs.length→(aa xs (k+1)).b=(aa xs k).e)∧(k+1=xs.length→(aa xs k).e=b)
 |x::xs,a,b,0,h,_=>by
  have h1:=h.2.2.2.2.le
  have h2:=h.1
  have h3:=h.2.1
  refine⟨by show a≤x.b;omega,h3,h1,h.2.2.1,h.2.2.2.1,fun _=>h2,fun h4=>?_,fun h4=>?_⟩
  ·cases xs with
   |nil=>simp at h4
   |cons y ys=>exact h.2.2.2.2.1
  ·cases xs with
   |nil=>exact h.2.2.2.2
   |cons y ys=>simp at h4
 |x::xs,a,b,k+1,h,hk=>by
  have h1:=h.2.2.2.2.at (k:=k) (by simpa using hk)
  have h2:=h.1
  have h3:=h.2.1
  have e:aa (x::xs) (k+1)=aa xs k:=by simp [aa]
  have e2:aa (x::xs) (k+1+1)=aa xs (k+1):=by simp [aa]
  rw [e,e2,eF]
  exact⟨oM,h1.2.1,h1.2.2.1,h1.2.2.2.1,h1.2.2.2.2.1,fun h=>oM,fun h=>h1.2.2.2.2.2.2.1  oM,fun h=>h1.2.2.2.2.2.2.2  oM⟩
theorem XX{x y A B:Int}(hx: -A≤x∧x≤A)(hy: -B≤y∧y≤B)(hA:0≤A): -(A*B)≤x*y∧x*y≤A*B:=by
 have h:∀u v:Int,0≤u→u≤A→0≤v→v≤B→0≤u*v∧u*v≤A*B:=fun u v h1 h2 h3 h4=>
  ⟨py h1 h3,vG (nk h2 h3) (yV h4 hA)⟩
 rcases Fy 0 x with h1|h1
 ·rcases Fy 0 y with h2|h2
  ·have:=h x y h1 hx.2 h2 hy.2;omega
  ·have:=h x (-y) h1 hx.2  oM oM ;rw [Int.mul_neg]at this;omega
 ·rcases Fy 0 y with h2|h2
  ·have:=h (-x) y  oM oM h2 hy.2;rw [Int.neg_mul]at this;omega
  ·have:=h (-x) (-y)  oM oM oM oM ;rw [Int.neg_mul,Int.mul_neg]at this;omega
def yh(x:cT)(z:Int):cT:={x with cC:=z}
theorem iS.XY:∀{xs:List cT} {a b z:Int} {k:Nat},iS a xs b→iS a (xs.set k (yh (aa xs k) z)) b
 | [],_,_,_,_,h=>h
 |x::xs,a,b,z,0,h=>⟨h.1,h.2.1,h.2.2.1,h.2.2.2.1,h.2.2.2.2⟩
 |x::xs,a,b,z,k+1,h=>by
  have e:aa (x::xs) (k+1)=aa xs k:=by simp [aa]
  rw [e,List.set_cons_succ]
  exact⟨h.1,h.2.1,h.2.2.1,h.2.2.2.1,h.2.2.2.2.XY⟩
theorem iS.add{xs ys:List cT}{b:Int}{x:cT}(h:iS 0 xs b)(hx:x.b=b∧x.b<x.e)(hf:r7 x.f)(ht:r7 x.t)(hy:ys=xs++ [x]∨(0<xs.length∧ys=xs.set (xs.length-1) (HD (aa xs (xs.length-1)) x.e))):iS 0 ys x.e∧ys.length≤xs.length+1:=by
 rcases hy with rfl|⟨h0,rfl⟩
 ·exact⟨h.eN hx.1 hx.2 hf ht,by simp⟩
 ·exact⟨h.XW h0  oM,by simp⟩
theorem KV.mark{s:aP}(hB:bO s){m i:Nat}(hm:m<s.ms.length)(h:KV (ft s s.ms.length) (aa (bL s) m) i):(300000≤qi (ft s s.ms.length) i (aa (bL s) m)∧qi (ft s s.ms.length) i (aa (bL s) m)≤2850000)∧300000≤qi (ft s s.ms.length) i (aa (bL s) (m+1))∧qi (ft s s.ms.length) i (aa (bL s) (m+1))≤2850000:=by
 have hk:=KU hB (ct s.ms.length)
 have h1:=Aa hB (show m≤m+1 by omega) (show m+1≤s.ms.length by omega)
 refine⟨XV hk h.lt h.lo fun h2=>AR (h.hi h2),XV hk h.lt (vG h.lo h1) fun h2=>?_⟩
 obtain⟨q,hq,e⟩:=hk.fJ (i+1)  oM h2
 have h3:=h.hi h2
 rw [e]at h3⊢
 refine Aa hB ?_  oM
 rcases ie m q with h4|h4
 ·exact h4
 ·have:=Aa hB h4  oM ;omega
theorem ala{ts:List cT}{e bq:Int}{r:Nat}(hc:iS 0 ts e)(yi:0<ts.length)(h0:0≤bq)(h1:bq≤e)(hr:HC (fun k=>decide (bq<(aa ts k).b)) ts.length r):0<r∧r≤ts.length∧(aa ts (r-1)).b≤bq∧bq≤(aa ts (r-1)).e:=by
 have jq:=(hc.at (k:=0) yi).2.2.2.2.2.1 rfl
 have uL:=hr.gW yi (by simp;omega)
 have Cr:=hr.le
 refine⟨uL,Cr,by have:=hr.lo uL;simpa using this,?_⟩
 rcases ie r ts.length with h|h
 ·have h1:=hr.hi h
  have h2:=(hc.at (k:=r-1)  oM).2.2.2.2.2.2.1  oM
  rw [show r-1+1=r from oM]at h2
  simp only [ir]at h1
  omega
 ·have h2:=(hc.at (k:=r-1)  oM).2.2.2.2.2.2.2  oM
  omega
theorem alb{ts:List cT}{e bq:Int}(hc:iS 0 ts e)(oq:∀x∈ts,0≤x.cC∧x.cC≤1099511627776)(he:e≤80000000){v:Value}(h:(∃e1:Int,v= .tuple #[cT.val ⟨0,0,0,0,0⟩,.int .i64 e1]∧e1≠0)∨∃k:Nat,v= .tuple #[(aa ts k).val,.int .i64 0]∧k<ts.length∧(aa ts k).b≤bq∧bq≤(aa ts k).e):
  ∃(x:cT) (e1:Int),v= .tuple #[x.val,.int .i64 e1]∧(e1=0→r7 x.f∧r7 x.t∧(0≤x.b∧x.b≤bq∧bq≤x.e∧x.b<x.e∧x.e≤80000000)∧(0≤x.cC∧x.cC≤1099511627776)):=by
 rcases h with⟨e1,rfl,h1⟩|⟨k,rfl,h1,h2,h3⟩
 ·exact⟨_,e1,rfl,fun h=>absurd h h1⟩
 ·have h4:=hc.at h1
  exact⟨_,0,rfl,fun _=>⟨h4.2.2.2.1,h4.2.2.2.2.1,oM,oq _ (aN h1)⟩⟩
end Go.Proofs.YtafaoccjbifbaaaGreat
