/- Part 10 of listenerHearsItself_holds. -/
import Derived.Test.YtafaoccjbifbaaaGreatQ06
import Derived.Test.YtafaoccjbifbaaaGreatQ07
import Derived.Test.YtafaoccjbifbaaaGreatQ08
set_option linter.unusedSimpArgs false
set_option linter.unusedVariables false
set_option maxHeartbeats 40000000
set_option maxRecDepth 100000
namespace Go.Proofs.YtafaoccjbifbaaaGreat
open Go Go.RowKit Hr Go.Proofs.Tryz
theorem KJ(a b:aK)(W:World):Calls prog 99 #[.agg a.enc.toArray,.agg b.enc.toArray] W (Hr.aJ W (Iv (Ky.mS (d_ a) (d_ b)))):=by
 apply Ej 2 func99 ntmps99;refine Nw 0 fun b2=>?_;refine Nw 3 fun b3=>?_;apply Dd 4 [0,1,2,3,4,5,6,7,8,9,10,11,12,13,14,15,16,17,18,19,20,21,22,23,24,25,26,27,28,29,30,31,32,33,34,35,36,37,38,39,40,41,42,43,44,45,46,47,48,249,250,251];refine Dq 4 rfl (Qc rfl fun w _ _=>mD _ _ w) ?_;refine Dq 4 rfl (Qc rfl fun w _ _=>mD _ _ w) ?_;refine Dq 4 rfl (Qc rfl fun w _ _=>mD _ _ w) ?_;refine Dq 4 rfl (Qc rfl fun w _ _=>mD _ _ w) ?_;refine Dq 4 rfl (Qc rfl fun w _ _=>mD _ _ w) ?_;refine Dq 6 rfl (Qc rfl fun w _ _=>mD _ _ w) ?_;refine Dq 6 rfl (Qc rfl fun w _ _=>mD _ _ w) ?_;refine Dq 4 rfl (Qc rfl fun w _ _=>mD _ _ w) ?_;refine Dq 0 rfl (Qc rfl fun w _ _=>mD _ _ w) ?_;refine Dt rfl (dz rfl rfl rfl zU zI pZ rfl  oM) ?_;rintro b54-;refine Dt rfl (.dP rfl rfl (Qc rfl fun w _ hm=>KG [ef a.on b.on,ef a.aG b.aG,ef a.part b.part,ef a.st b.st,ef a.vo b.vo,ef a.off b.off,ef a.es b.es,ef a.en b.en,ef (a.hd:Int) (b.hd:Int)] (some ⟨b54,0,none⟩) 9 w (b_ (ag.ak.holds hm)) sM)) ?_;rintro- -;refine Dt rfl (.dP rfl rfl (ko rfl rfl)) ?_;rintro- -;apply ab 1;apply kp 1 [4];exact aw rfl rfl (aD ais)
theorem KK(a b:aF)(W:World):Calls prog 64 #[.agg a.enc.toArray,.agg b.enc.toArray] W (Hr.aJ W (Iv (Ky.mS (dS a) (dS b)))):=by
 apply Ej 2 func64 ntmps64;refine Nw 0 fun b2=>?_;refine Nw 3 fun b3=>?_;apply Dd 4 [0,1,2,3,4,5,6,7,8,9,10,11,12,13,14,15,16,17,18,19,20,21,22,23,24,25,26,27,28,29,30,31,32,33,34,35,36,37,38,239,240,241];refine Dq 4 rfl (Qc rfl fun w _ _=>mD _ _ w) ?_;refine Dq 4 rfl (Qc rfl fun w _ _=>mD _ _ w) ?_;refine Dq 4 rfl (Qc rfl fun w _ _=>mD _ _ w) ?_;refine Dq 4 rfl (Qc rfl fun w _ _=>mD _ _ w) ?_;refine Dq 6 rfl (Qc rfl fun w _ _=>mD _ _ w) ?_;refine Dq 6 rfl (Qc rfl fun w _ _=>mD _ _ w) ?_;refine Dq 0 rfl (Qc rfl fun w _ _=>mD _ _ w) ?_;refine Dt rfl (dz rfl rfl rfl zU zI pZ rfl  oM) ?_;rintro KL-;refine Dt rfl (.dP rfl rfl (Qc rfl fun w _ hm=>KG [ef a.on b.on,ef a.aG b.aG,ef a.part b.part,ef a.off b.off,ef a.uY b.uY,ef a.es b.es,ef a.en b.en] (some ⟨KL,0,none⟩) 7 w (b_ (ag.ak.holds hm)) sM)) ?_;rintro- -;refine Dt rfl (.dP rfl rfl (ko rfl rfl)) ?_;rintro- -;apply ab 1;apply kp 1 [4];exact aw rfl rfl (aD ait)
theorem Xq{l:List aF}{z:List Value}(h:z∈l.map aF.enc):z.length=7:=by
 obtain⟨p,_,rfl⟩:=eS.1 h;rfl
theorem Xr{l:List aF}{z:List Value}(h:z∈l.map aF.enc):oC z=true:=by
 obtain⟨p,_,rfl⟩:=eS.1 h;rfl
theorem PN(p x g y s:List aF)(A:Option Addr)(n ca:Nat)(i0 j0 c0:Int)(W:World)(hm:Mem (aR [.ae 55 7 A n ca ((p++(x++(g++(y++s)))).map aF.enc)]) W [.ae 55 7 A n ca ((p++(x++(g++(y++s)))).map aF.enc)] W)(hi:i0=(p.length:Int))(hj:j0=(p.length:Int)+x.length+g.length)(hc:c0=(x.length:Int))(Me:y.length=x.length)(hn:p.length+(x.length+(g.length+(y.length+s.length)))=n)(hl:n≤1000000):Calls prog 326 #[.slice A n ca,Iv i0,Iv j0,Iv c0,.func (.func 64) #[] #[]] W (bk W (aR [.ae 55 7 A n ca ((p++(x++(g++(y++s)))).map aF.enc)]) (fun v m=>v= .tuple #[]∧m= [.ae 55 7 A n ca ((p++(y++(g++(x++s)))).map aF.enc)])):=by
 refine Ea (X:=_) func326 ntmps326 hm ?_;apply ab 5;apply Ks 0 [10,0,1,2,3] [0];refine kN (ι:=Nat) (fun k=>k≤x.length) (fun k=>Iv k) (fun k=> .ae 55 7 A n ca ((au.o0 p x g y s k).map aF.enc)) (fun k=>x.length-k) 0 dO rfl (.ae rfl rfl rfl (by rw [au.Wv])) ?_;rintro k hk;(try dsimp only at hk);apply Cd 7;intros;apply ab 3;refine run_pure [(0,0),(1,0),(2,0),(3,0),(4,3),(5,3),(6,3),(7,3),(8,0),(9,0),(10,0),(11,0),(12,0),(13,0),(14,0),(15,0),(16,0),(17,0),(18,0),(19,0),(20,0),(21,2),(22,2),(23,2)] xZ (by kernel_rfl) .refl ?_;apply ab 4;refine iz rfl rfl (.none rfl) rfl rfl (iv rfl rfl) ?_;refine iz rfl rfl (.none rfl) rfl rfl (iv rfl rfl) ?_;refine iz rfl rfl (.none rfl) rfl rfl (iv rfl rfl) ?_;refine iz rfl rfl (.none rfl) rfl rfl (xw rfl rfl rfl  oM) ?_;apply ab 4;refine Pq rfl (Qi (p.length+x.length+g.length+k) rfl (.ae sZ) (hl:=(by rw [bG,au.tL  oM oM];omega))) ?_;refine Pq rfl (Qe rfl (.ae sZ) (by rw [bt (by rw [au.tL  oM oM];omega),au.Wy  oM oM rfl])) ?_;apply ab 4;refine Pq rfl (Qi (p.length+k) rfl (.ae sZ) (hl:=(by rw [bG,au.tL  oM oM];omega))) ?_;refine Pq rfl (Qe rfl (.ae sZ) (by rw [bt (by rw [au.tL  oM oM];omega),au.Wx  oM oM rfl])) ?_;refine Pq rfl (Qi (p.length+k) rfl (.ae sZ) (hl:=(by rw [bG,au.tL  oM oM];omega))) ?_;refine Pt rfl (jW rfl rfl zS rfl rfl rfl rfl rfl sZ  oM) ?_;rintro- -;refine Pt rfl (.dP rfl rfl (Qi (p.length+x.length+g.length+k) rfl (.ae sZ) (hl:=(by rw [fU,bG,au.tL  oM oM];omega)))) ?_;rintro- -;refine Pt rfl (jW rfl rfl zS rfl rfl rfl rfl rfl sZ  oM) ?_;rintro- -;apply ab 1;apply kp 6 [0,1,2,3,10];refine Ag (k+1) ?_ (hs:=ar nZ (.cons (iZ 0) (.ae rfl rfl rfl (by rw [←au.Wz  oM oM rfl rfl,iu,iu];rfl)) mZ));omega;intros;apply ab 1;apply kp 0 [];apply Km 0 [0];exact bM rfl ⟨rfl,by rw [au.Ww (k:=k)  oM oM]⟩
theorem aka(p x y s:List aF)(A:Option Addr)(n ca:Nat)(i0 j0 c0:Int)(W:World)(hm:Mem (aR [.ae 55 7 A n ca ((p++(x++(y++s))).map aF.enc)]) W [.ae 55 7 A n ca ((p++(x++(y++s))).map aF.enc)] W)(hi:i0=(p.length:Int))(hj:j0=(p.length:Int)+x.length)(hc:c0=(p.length:Int)+x.length+y.length)(i_:0<x.length)(u7:0<y.length)(hn:p.length+(x.length+(y.length+s.length))=n)(hl:n≤1000000):Calls prog 283 #[.slice A n ca,Iv i0,Iv j0,Iv c0,.func (.func 64) #[] #[]] W (bk W (aR [.ae 55 7 A n ca ((p++(x++(y++s))).map aF.enc)]) (fun v m=>v= .tuple #[]∧m= [.ae 55 7 A n ca ((p++(y++(x++s))).map aF.enc)])):=by
 refine Ea (X:=_) func283 ntmps283 hm ?_;apply ab 14;apply kp 2 [0,2,4,10,11];apply Ks 0 [10,11,0,2,4] [0];refine jD (ι:=(List aF)×(List aF)×(List aF)×(List aF)) (fun gg=>gg.1.length+gg.2.1.length=p.length+x.length∧0<gg.2.1.length∧0<gg.2.2.1.length∧gg.1.length+(gg.2.1.length+(gg.2.2.1.length+gg.2.2.2.length))=n∧gg.1++(gg.2.2.1++(gg.2.1++gg.2.2.2))=p++(y++(x++s))) (fun gg=>Iv (gg.2.1.length:Int)) (fun gg=>Iv (gg.2.2.1.length:Int)) (fun gg=> .ae 55 7 A n ca ((gg.1++(gg.2.1++(gg.2.2.1++gg.2.2.2))).map aF.enc)) (fun gg=>gg.2.1.length+gg.2.2.1.length) (p,x,y,s) (by(try dsimp only);exact⟨rfl,i_,u7,hn,rfl⟩) (aD (by(try dsimp only)<;>omega)) (aD (by(try dsimp only)<;>omega)) .refl ?_;rintro⟨P,X,Y,S⟩ hq;(try dsimp only at hq);obtain⟨ep,hX0,hY0,dC,hT⟩:=hq;refine sW ⟨(10,Iv (X.length:Int))::(11,Iv (Y.length:Int))::_,.ae 55 7 A n ca ((P++(X++(Y++S))).map aF.enc)::_⟩ ?_;apply Cd 7;intros;have nW:X.length≠Y.length:=oM
 apply ab 8;apply kp 0 [0,2,4,10,11,23];apply Cd 0;intro lF _;obtain⟨X1,X2,rfl,hX1⟩:∃X1 X2,X=X1++X2∧X1.length=Y.length:=⟨X.take Y.length,X.drop Y.length,(nm _ _).symm,by rw [fN];omega⟩;have ake:0<X2.length:=by simp only [ay]at lF;omega
 apply ab 1;refine rM (.cons (iZ 0) (.ae (cw:=(P++(X1++(X2++(Y++S)))).map aF.enc) rfl rfl rfl (by simp only [bj])) .nil) ?_;apply ab 8;refine Hh (Hx [0] rfl rfl fun w _ _ _ hg=>PN P X1 X2 Y S A n ca _ _ _ w hg (by(try simp only [ay]at ep);(try simp only [ay]at dC);(try simp only [ay]at er);(try simp only [ay,dL])<;>omega) (by(try simp only [ay]at ep);(try simp only [ay]at dC);(try simp only [ay]at er);(try simp only [ay,dL])<;>omega) (by(try simp only [ay]at ep);(try simp only [ay]at dC);(try simp only [ay]at er);(try simp only [ay,dL])<;>omega) (by(try simp only [ay]at ep);(try simp only [ay]at dC);(try simp only [ay]at er);(try simp only [ay,dL])<;>omega) (by(try simp only [ay]at ep);(try simp only [ay]at dC);(try simp only [ay]at er);(try simp only [ay,dL])<;>omega) hl) ?_;rintro⟨v,m⟩ ⟨rfl,rfl⟩;apply ab 7;apply kp 1 [0,2,4,10,11];refine Ag (P++Y,X2,X1,S) ?_ (hs:=ar (.az rfl (aD (by(try dsimp only);(try simp only [ay]at ep);(try simp only [ay]at dC);(try simp only [ay]at er);(try simp only [ay])<;>omega)) (.az rfl (aD (by(try dsimp only);(try simp only [ay]at ep);(try simp only [ay]at dC);(try simp only [ay]at er);(try simp only [ay])<;>omega)) nZ)) (.cons (iZ 0) (.ae rfl rfl rfl (by simp only [bj])) mZ)) (hm:=(by(try dsimp only);(try simp only [ay])<;>omega));exact⟨(by(try dsimp only);(try simp only [ay]at ep);(try simp only [ay]at dC);(try simp only [ay]at er);(try simp only [ay])<;>omega),(by(try dsimp only);(try simp only [ay]at ep);(try simp only [ay]at dC);(try simp only [ay]at er);(try simp only [ay])<;>omega),(by(try dsimp only);(try simp only [ay]at ep);(try simp only [ay]at dC);(try simp only [ay]at er);(try simp only [ay])<;>omega),(by(try dsimp only);(try simp only [ay]at ep);(try simp only [ay]at dC);(try simp only [ay]at er);(try simp only [ay])<;>omega),by rw [←hT];simp only [bj]⟩;intros;obtain⟨Y1,Y2,rfl,hY2⟩:∃Y1 Y2,Y=Y1++Y2∧Y2.length=X.length:=⟨Y.take (Y.length-X.length),Y.drop (Y.length-X.length),(nm _ _).symm,by rw [nL];omega⟩;have er:(X.length:Int)<(Y1++Y2).length:=oM
 apply ab 1;refine rM (.cons (iZ 0) (.ae (cw:=(P++(X++(Y1++(Y2++S)))).map aF.enc) rfl rfl rfl (by simp only [bj])) .nil) ?_;apply ab 12;refine Hh (Hx [0] rfl rfl fun w _ _ _ hg=>PN P X Y1 Y2 S A n ca _ _ _ w hg (by(try simp only [ay]at ep);(try simp only [ay]at dC);(try simp only [ay]at er);(try simp only [ay,dL])<;>omega) (by(try simp only [ay]at ep);(try simp only [ay]at dC);(try simp only [ay]at er);(try simp only [ay,dL])<;>omega) (by(try simp only [ay]at ep);(try simp only [ay]at dC);(try simp only [ay]at er);(try simp only [ay,dL])<;>omega) (by(try simp only [ay]at ep);(try simp only [ay]at dC);(try simp only [ay]at er);(try simp only [ay,dL])<;>omega) (by(try simp only [ay]at ep);(try simp only [ay]at dC);(try simp only [ay]at er);(try simp only [ay,dL])<;>omega) hl) ?_;rintro⟨v,m⟩ ⟨rfl,rfl⟩;apply ab 7;apply kp 1 [0,2,4,10,11];refine Ag (P,Y2,Y1,X++S) ?_ (hs:=ar (.az rfl (aD (by(try dsimp only);(try simp only [ay]at ep);(try simp only [ay]at dC);(try simp only [ay]at er);(try simp only [ay])<;>omega)) (.az rfl (aD (by(try dsimp only);(try simp only [ay]at ep);(try simp only [ay]at dC);(try simp only [ay]at er);(try simp only [ay])<;>omega)) nZ)) (.cons (iZ 0) (.ae rfl rfl rfl rfl) mZ)) (hm:=(by(try dsimp only);(try simp only [ay])<;>omega));exact⟨(by(try dsimp only);(try simp only [ay]at ep);(try simp only [ay]at dC);(try simp only [ay]at er);(try simp only [ay])<;>omega),(by(try dsimp only);(try simp only [ay]at ep);(try simp only [ay]at dC);(try simp only [ay]at er);(try simp only [ay])<;>omega),(by(try dsimp only);(try simp only [ay]at ep);(try simp only [ay]at dC);(try simp only [ay]at er);(try simp only [ay])<;>omega),(by(try dsimp only);(try simp only [ay]at ep);(try simp only [ay]at dC);(try simp only [ay]at er);(try simp only [ay])<;>omega),by rw [←hT];simp only [bj]⟩;intros;have heq:X.length=Y.length:=oM
 apply ab 9;refine Hh (Hx [0] rfl rfl fun w _ _ _ hg=>PN P X [] Y S A n ca _ _ _ w hg (by(try simp only [ay]at ep);(try simp only [ay]at dC);(try simp only [ay]at er);(try simp only [ay,dL])<;>omega) (by(try simp only [ay]at ep);(try simp only [ay]at dC);(try simp only [ay]at er);(try simp only [ay,dL])<;>omega) (by(try simp only [ay]at ep);(try simp only [ay]at dC);(try simp only [ay]at er);(try simp only [ay,dL])<;>omega) (by(try simp only [ay]at ep);(try simp only [ay]at dC);(try simp only [ay]at er);(try simp only [ay,dL])<;>omega) (by(try simp only [ay]at ep);(try simp only [ay]at dC);(try simp only [ay]at er);(try simp only [ay,dL])<;>omega) hl) ?_;rintro⟨v,m⟩ ⟨rfl,rfl⟩;apply ab 1;apply kp 0 [];apply Km 0 [0];exact bM rfl ⟨rfl,by rw [←hT];rfl⟩
namespace Ls
inductive Al(c:cJ):List aF→List aF→Int→Prop where
 |nil:Al c [] [] 0
 |jF {a b:List aF} {n:Int} (x y:aF) (h:Al c a b n):Al c (x::a) (y::b) (o3 c x y+n)
 |rO {a b:List aF} {n:Int} (x:aF) (h:Al c a b n):Al c (x::a) b (c.ga+n)
 |nV {a b:List aF} {n:Int} (y:aF) (h:Al c a b n):Al c a (y::b) (c.h_+n)
theorem Al.append{c:cJ}{a b a' b':List aF}{n n':Int}(h:Al c a b n)(h':Al c a' b' n'):Al c (a++a') (b++b') (n+n'):=by
 induction h with
 |nil=>simpa using h'
 |jF x y _ ih=>rw [Int.add_assoc];exact .jF x y ih
 |rO x _ ih=>rw [Int.add_assoc];exact .rO x ih
 |nV y _ ih=>rw [Int.add_assoc];exact .nV y ih
theorem Al.cast{c:cJ}{a b:List aF}{n m:Int}(h:Al c a b n)(e:n=m):Al c a b m:=e▸h
theorem Al.KP{c:cJ}{a b:List aF}{n:Int}(h:Al c a b n):Al c a.reverse b.reverse n:=by
 induction h with
 |nil=>exact .nil
 |jF x y _ ih=>rw [Fx,Fx];exact(ih.append (.jF x y .nil)).cast  oM
 | @rO a b n x _ ih=>
  have:=(ih.append (.rO x .nil)).cast (m:=c.ga+n)  oM
  rw [gZ]at this
  rw [Fx];exact this
 | @nV a b n y _ ih=>
  have:=(ih.append (.nV y .nil)).cast (m:=c.h_+n)  oM
  rw [gZ]at this
  rw [Fx];exact this
theorem Al.wM(c:cJ):∀(a b:List aF),Al c a b (a7 c a b)
 | [], []=>by simpa [a7]using Al.nil (c:=c)
 | [],y::b=>by rw [OY];exact .nV y (Al.wM c [] b)
 |x::a, []=>by rw [Kn];exact .rO x (Al.wM c a [])
 |x::a,y::b=>by
  rw [a7]
  have h1:=Al.jF x y (Al.wM c a b)
  have h2:=Al.rO x (Al.wM c a (y::b))
  have h3:=Al.nV y (Al.wM c (x::a) b)
  generalize o3 c x y+a7 c a b=p at h1⊢
  generalize c.ga+a7 c a (y::b)=q at h2⊢
  generalize c.h_+a7 c (x::a) b=r at h3⊢
  rcases(by omega:min (min p q) r=p∨min (min p q) r=q∨min (min p q) r=r)with e|e|e
  ·rw [e];exact h1
  ·rw [e];exact h2
  ·rw [e];exact h3
termination_by a b=>a.length+b.length
theorem Al.th{c:cJ}{a b:List aF}{n:Int}(h:Al c a b n):a7 c a b≤n:=by
 induction h with
 |nil=>simp [a7]
 |jF x y _ ih=>rw [a7];omega
 | @rO a b n x _ ih=>
  cases b with
  |nil=>rw [Kn];omega
  |cons y b=>rw [a7];omega
 | @nV a b n y _ ih=>
  cases a with
  |nil=>rw [OY];omega
  |cons x a=>rw [a7];omega
theorem Al.n3{c:cJ}{a b:List aF}{x y:aF}{n:Int}(h:Al c (a++ [x]) (b++ [y]) n):
  a7 c a b+o3 c x y≤n∨a7 c a (b++ [y])+c.ga≤n∨a7 c (a++ [x]) b+c.h_≤n:=by
 have h':=h.KP
 rw [List.reverse_append,List.reverse_append,List.reverse_singleton,List.reverse_singleton,List.singleton_append,List.singleton_append]at h'
 generalize rY:a.reverse=ra at h'
 generalize oB:b.reverse=rb at h'
 have ea:a=ra.reverse:=by rw [←rY,List.reverse_reverse]
 have eb:b=rb.reverse:=by rw [←oB,List.reverse_reverse]
 clear h
 cases h'
 ·rename_i n h
  left;have:=h.KP.th;rw [←ea,←eb]at this;omega
 ·rename_i n h
  right;left;have:=h.KP.th;rw [←ea,Fx,←eb]at this;omega
 ·rename_i n h
  right;right;have:=h.KP.th;rw [←eb,Fx,←ea]at this;omega
theorem akG(c:cJ)(a b:List aF)(x y:aF):a7 c (a++ [x]) (b++ [y])=min (min (a7 c a b+o3 c x y) (a7 c a (b++ [y])+c.ga)) (a7 c (a++ [x]) b+c.h_):=by
 have h1:=((Al.wM c a b).append (.jF x y .nil)).th
 have h2:=((Al.wM c a (b++ [y])).append (.rO x .nil)).th
 have h3:=((Al.wM c (a++ [x]) b).append (.nV y .nil)).th
 rw [gZ]at h2 h3
 have h4:=(Al.wM c (a++ [x]) (b++ [y])).n3
 omega
theorem akH(c:cJ)(b:List aF)(y:aF):a7 c [] (b++ [y])=a7 c [] b+c.h_:=by
 simp only [a7,ay,sg];rw [xk,xl];omega
theorem akI(c:cJ)(a:List aF){k:Nat}(h:k≤a.length):a7 c (a.take k) []=(k:Int)*c.ga:=by
 have e:(a.take k).length=k:=by rw [fN];omega
 cases hk:a.take k with
 |nil=>rw [hk]at e;simp at e;subst e;simp [a7]
 |cons x r=>rw [hk]at e;rw [a7,e]
def gO(c:cJ)(a h:List aF)(k:Nat):Int:=a7 c (a.take k) h
def lX(c:cJ)(a h:List aF):List Int:=(List.range (a.length+1)).map (gO c a h)
theorem akJ(c:cJ)(a h:List aF)(p:aF):gO c a (h++ [p]) 0=gO c a h 0+c.h_:=by simp [gO,akH]
theorem akK{c:cJ}{a h:List aF}{p:aF}{i:Nat}(hi:i<a.length):
  gO c a (h++ [p]) (i+1)=min (min (gO c a h i+o3 c (aa a i) p) (gO c a (h++ [p]) i+c.ga)) (gO c a h (i+1)+c.h_):=by
 rw [gO,gO,gO,gO,nR hi,akG]
theorem Hs{c:cJ}(hc:sU c){a h:List aF}(k:Nat):0≤gO c a h k∧gO c a h k≤((a.length+h.length:Nat):Int)*1000000:=by
 have h1:=qL hc (a.take k) h
 have h2:(a.take k).length≤a.length:=by simp;omega
 unfold gO
 omega
def jz(f:Nat→Int):Nat→Nat
 |0=>0
 |n+1=>if f (n+1)<f (jz f n)then n+1 else jz f n
theorem Xy(f:Nat→Int):∀n,jz f n≤n
 |0=>ct _
 |n+1=>by rw [jz];split;exact ct _;exact Nat.le_succ_of_le (Xy f n)
theorem Xz(f:Nat→Int):∀n,min (f (jz f n)) (f (n+1))=f (jz f (n+1)):=fun n=>by
 rw [jz];split<;>omega
theorem P6(f:Nat→Int):∀n j,j≤n→f (jz f n)≤f j
 |0,j,h=>by rw [show j=0 from oM];exact jT _
 |n+1,j,h=>by
  rw [←Xz f n]
  by_cases e:j=n+1
  ·rw [e];omega
  ·have:=P6 f n j  oM ;omega
theorem P7(f:Nat→Int):∀n j,j<jz f n→f (jz f n)<f j
 |0,j,h=>by simp [jz]at h
 |n+1,j,h=>by
  rw [jz]at h⊢
  split at h
  ·rename_i hx
   rw [aH hx]
   have:=P6 f n j  oM ;omega
  ·rename_i hx
   rw [aB hx]
   exact P7 f n j h
def KQ(c:cJ)(a h:List aF):Nat:=jz (gO c a h) a.length
def qg(c:cJ)(a h:List aF)(p:aF)(k:Nat):List Int:=(List.range (a.length+1)).map fun i=>if i≤k then gO c a (h++ [p]) i else 0
theorem XA{c:cJ}{a h:List aF}{p:aF}{k i:Nat}(h1:i≤k)(h2:i<a.length+1):((qg c a h p k).map bP)[i]?=some [.int .i64 (gO c a (h++ [p]) i)]:=by simp [qg,bP,h1,h2]
theorem P8{c:cJ}{a h:List aF}{i:Nat}(h2:i<a.length+1):((lX c a h).map bP)[i]?=some [.int .i64 (gO c a h i)]:=by simp [lX,bP,h2]
theorem akL{c:cJ}{a h:List aF}{p:aF}{v:Int}(hv:v=gO c a (h++ [p]) 0):(List.replicate (a.length+1) [Value.int .i64 0]).set 0 [.int .i64 v]=(qg c a h p 0).map bP:=by
 subst hv
 apply ud
 intro j
 rw [yT]
 by_cases hj:0=j
 ·subst hj;simp [qg,bP]
 ·rw [aB hj]
  by_cases x_:j<a.length+1
  ·have:¬j≤0:=oM
   simp only [qg,oy,List.getElem?_range x_,ua,aB this,bP]
   simp [x_]
  ·simp [qg,x_]
theorem akM{c:cJ}{a h:List aF}{p:aF}{k:Nat}{v:Int}(hk:k+1<a.length+1)(hv:v=gO c a (h++ [p]) (k+1)):((qg c a h p k).map bP).set (k+1) [.int .i64 v]=(qg c a h p (k+1)).map bP:=by
 subst hv
 apply ud
 intro j
 rw [yT]
 by_cases hj:k+1=j
 ·subst hj
  rw [aH rfl,aH (by simp [qg];omega),XA  oM hk]
 ·rw [aB hj]
  by_cases x_:j<a.length+1
  ·have e:(j≤k)=(j≤k+1):=by rw [eq_iff_iff];omega
   simp only [qg,oy,List.getElem?_range x_,ua,e]
  ·simp [qg,x_]
theorem akN{c:cJ}{a h:List aF}{p:aF}{k:Nat}(hk:a.length≤k):qg c a h p k=lX c a (h++ [p]):=by
 simp only [qg,lX]
 apply uh
 intro i hi
 rw [jU]at hi
 rw [aH  oM]
def Cp(c:cJ)(k:Nat):List Int:=(List.range k).map fun i:Nat=>(i:Int)*c.ga
theorem akO{c:cJ}{k:Nat}:Cp c (k+1)=Cp c k++ [(k:Int)*c.ga]:=by simp [Cp,nM]
theorem akP{c:cJ}{a:List aF}:Cp c (a.length+1)=lX c a []:=by
 simp only [Cp,lX]
 apply uh
 intro i hi
 rw [jU]at hi
 rw [gO,akI c a  oM]
def pd(h:List aF)(x:aF):Int:=if p9 x=false then 2 else if 0<h.length∧x.on<(aa h (h.length-1)).on then 25 else 0
def ya(h:List aF)(x:aF):List aF:=if pd h x=0 then h++ [x]else h
def EF(c:cJ)(a h:List aF)(x:aF):Int:=if pd h x=0 then(KQ c a (h++ [x]):Int)else 0
theorem XB{h:List aF}{x:aF}(he:pd h x≠0):ya h x=h:=by rw [ya,aB he]
theorem P9{h:List aF}{x:aF}(he:pd h x=0):ya h x=h++ [x]:=by rw [ya,aH he]
theorem XC{c:cJ}{a h:List aF}{x:aF}(he:pd h x≠0):EF c a h x=0:=by rw [EF,aB he]
theorem P_{c:cJ}{a h:List aF}{x:aF}(he:pd h x=0):EF c a h x=(KQ c a (h++ [x]):Int):=by rw [EF,aH he]
theorem XD{p:aF}(h:p9 p=true):tO p:=by
 simp only [p9,fu,xB]at h
 exact h.1.1.1.1
theorem KR{w:World}{p:Nat}{t:TypeId}{v0 v1 v2 v3 v4 v5 v6 v7:Value}(h:(an.aj p t [(0,v0),(1,v1),(2,v2),(3,v3),(4,v4),(5,v5),(6,v6),(7,v7)]).holds w):Rd w (some ⟨p,0,none⟩) 8 [[v0,v1,v2,v3,v4,v5,v6,v7]]:=
 FX h fun i u hu=>by
  match i,hu with
  |0,hu=>simpa [cW]using hu
  |1,hu=>simpa [cW]using hu
  |2,hu=>simpa [cW]using hu
  |3,hu=>simpa [cW]using hu
  |4,hu=>simpa [cW]using hu
  |5,hu=>simpa [cW]using hu
  |6,hu=>simpa [cW]using hu
  |7,hu=>simpa [cW]using hu
  |i+8,hu=>simp at hu
def lk(f:Nat→Int):Nat→Int
 |0=> -1
 |k+1=>f (jz f k)
end Ls
theorem ana(g:fR)(b1 l:Nat)(J Jx:List (wE g.cy)→List an→Prop)(bQ:List an)(h0:J [] bQ)(W:World)(r9:Mem (aR bQ) W bQ W){Ho:World→List an→Prop}(hF:∀w rs,aS (aR bQ) W w→(∀r∈rs,∀b,r.at b→W.heap.size≤b∨aR bQ b)→Ho w rs)(hY:Pd prog l V8 J Jx (g.hZ*(g.cy-g.fst)) Ho)(fD:Rd W (some ⟨b1,0,none⟩) 4 [g.enc])(gv:vK (aR bQ) (some ⟨b1,0,none⟩))(hg:g.fst<g.cy∧g.cy≤6∧1≤g.hZ∧g.hZ≤3):CallsIn Fence.wide 0 prog 180 #[.func (.yield l) #[] #[],.pointer (some ((bJ (some ⟨b1,0,none⟩)).add (0*4)))] W (zj J Jx (fun xs=>xs.map (·.1)=Kd g) (fun _=>True) bQ W):=by
 refine DT (X:=(aR bQ)) (vs:= [.func (.yield l) #[] #[],.pointer (some ((bJ (some ⟨b1,0,none⟩)).add (0*4)))]) func180 ntmps180 rfl rfl (Gv r9) ?_;apply ab 3;refine cD (.none rfl) rfl rfl (dG rfl zO rfl (.ao fD gv) (ek [Iv (g.fst:Int),Iv (g.cy:Int),.slice none 0 0,Iv (g.hZ:Int)]) rfl) ?_;apply ab 3;refine bU (ar (eL [12,0,1,11]) (dZ [0])) ?_;refine uI (ι:=Nat×(List an)×(List (wE g.cy))) (fun gg=>J gg.2.2 gg.2.1∧gg.1≤g.hZ∧gg.2.2.map (·.1)=uX g gg.1) (fun gg=>Iv (gg.1:Int)) (fun gg=> .aZ gg.2.1) (fun gg=>g.hZ-gg.1) (0,bQ, []) (by(try dsimp only);exact⟨h0,oM,rfl⟩) rfl .refl ?_;rintro⟨p,js,p1⟩ hq;(try dsimp only at hq);obtain⟨hj,hp,kV⟩:=hq;refine rS ⟨(12,Iv p)::_,.aZ js::_⟩ ?_;apply ab 5;refine pM rfl (fun x0=>?_) (fun x0=>?_);have HR:=td x0;apply ab 11;refine cD (.none rfl) rfl rfl (iL rfl zA rfl (.ao fD gv) (ek [Iv (g.fst:Int),Iv (g.cy:Int),.slice none 0 0,Iv (g.hZ:Int)]) rfl rfl) ?_;refine gy (.none rfl) (dz rfl rfl rfl zU zI pZ rfl  oM) ?_;rintro La-;apply ab 2;refine bU (ar (eL [0,1,3,4,11,12]) .refl) ?_;apply ab 4;refine cD (.none rfl) rfl rfl (dG rfl zO rfl (.ao fD gv) (ek [Iv (g.fst:Int),Iv (g.cy:Int),.slice none 0 0,Iv (g.hZ:Int)]) rfl) ?_;apply ab 4;refine bU (ar (eL [0,1,3,4,11,12,19,20,21]) (dZ [0,0])) ?_;refine afL (ι:=Unit) (fun _=>True) (fun _=>0) () trivial ?_;rintro- -;apply ab 7;refine bU (ar (eL [0,1,3,4,11,12]) .refl) ?_;apply ab 7;refine bU (ar (eL [39,0,1,3,11,12,37,38]) (dZ [1,0])) ?_;refine uI (ι:=Nat×(List an)×(List (wE g.cy))) (fun gg=>J gg.2.2 gg.2.1∧gg.1≤1∧gg.2.2.map (·.1)=uX g p++(if gg.1=0 then []else uW g p (g.cy-g.fst))) (fun gg=>Iv (gg.1:Int)) (fun gg=> .aZ gg.2.1) (fun gg=>1-gg.1) (0,js,p1) (by(try dsimp only);exact⟨hj,oM,by rw [aH rfl,gZ];exact kV⟩) rfl .refl ?_;rintro⟨k,yp,p2⟩ hq;(try dsimp only at hq);obtain⟨rP,cB,rK⟩:=hq;refine rS ⟨(39,Iv k)::_,.aZ yp::_⟩ ?_;apply ab 5;refine pM rfl (fun qN=>?_) (fun qN=>?_);have anb:=td qN;apply ab 5;refine cD (.none rfl) rfl rfl (k_ (q:=0) rfl zU zS rfl rfl (.ae (.ai ag.ak)) rfl  oM (by decide)) ?_;refine cD (.none rfl) rfl rfl (FH rfl zA rfl (.ae (.ai ag.ak)) rfl rfl) ?_;refine gy (.none rfl) (dH rfl rfl rfl zI) ?_;rintro b8-;apply ab 2;refine bU (ar (eL [0,1,3,8,11,12,37,38,39]) .refl) ?_;apply ab 7;refine bU (ar (eL [9,0,1,3,8,11,12,37,38,39]) (dZ [1,0,0])) ?_;refine uI (ι:=Nat×(List an)×(List (wE g.cy))) (fun gg=>J gg.2.2 gg.2.1∧gg.1≤g.cy-g.fst∧gg.2.2.map (·.1)=uX g p++uW g p gg.1) (fun gg=>Iv ((g.fst+gg.1:Nat):Int)) (fun gg=> .aZ gg.2.1) (fun gg=>g.cy-g.fst-gg.1) (0,yp,p2) (by(try dsimp only);exact⟨rP,oM,by rw [rK,aH  oM];rfl⟩) (aD  oM) .refl ?_;rintro⟨j,HP,p3⟩ hq;(try dsimp only at hq);obtain⟨wS,xv,yq⟩:=hq;refine rS ⟨(9,Iv ((g.fst+j:Nat):Int))::_,.aZ HP::_⟩ ?_;have hpm:(p+1)*(g.cy-g.fst)≤g.hZ*(g.cy-g.fst):=te _  oM ;rw [C2]at hpm;apply ab 8;refine bU (ar (eL [0,1,3,8,9,11,12,37,38,39,48]) .refl) ?_;refine pM rfl (fun Q7=>?_) (fun Q7=>?_);have ane:=td Q7;apply ab 9;refine cD (.none rfl) rfl rfl (dG rfl zO rfl (.ao fD gv) (ek [Iv (g.fst:Int),Iv (g.cy:Int),.slice none 0 0,Iv (g.hZ:Int)]) rfl) ?_;apply ab 2;refine aiZ (⟨(g.fst+j,(p:Int)==(g.hZ:Int)-1),by show g.fst+j<g.cy;omega⟩:wE g.cy) rfl rfl rfl rfl rfl (aT rfl) rfl ag.ak hF hY wS (by rw [ah_ yq,ay,OK,V7];omega) (fun qV jN=>?_) (fun qV jN=>?_);apply ab 2;refine bU (ar (eL [0,1,3,8,9,11,12,37,38,39,59]) .refl) ?_;apply ab 8;refine bU (ar (eL [0,1,3,8,9,11,12,37,38,39]) .refl) ?_;exact sD (j+1,qV,p3++ [⟨(g.fst+j,(p:Int)==(g.hZ:Int)-1),by show g.fst+j<g.cy;omega⟩]) (by(try dsimp only);exact⟨jN,oM,by rw [aia yq,ah8,←bj]⟩) (by(try dsimp only);omega) (ar (.az (s:=9) rfl (aD  oM) (eL [0,1,3,8,11,12,37,38,39])) (dZ [0,0,0]));apply ab 2;refine bU (ar (eL [0,1,3,8,9,11,12,37,38,39,59]) .refl) ?_;apply ab 1;refine pN ?_;refine sE ?_;exact rC _ rfl ag.ak (.inr ⟨trivial,jN⟩);have ane:=td Q7;apply ab 1;refine bU (ar (eL [0,1,3,11,12,37,38,39]) .refl) ?_;apply ab 5;exact sD (k+1,HP,p3) (by(try dsimp only);exact⟨wS,oM,by rw [aB  oM,yq,show j=g.cy-g.fst from oM]⟩) (by(try dsimp only);omega) (ar (.az (s:=39) rfl (aD  oM) (eL [0,1,3,11,12,37,38])) (dZ [0,1]));have anb:=td qN;apply ab 1;refine bU (ar (eL [0,1,11,12]) .refl) ?_;apply ab 5;exact sD (p+1,yp,p2) (by(try dsimp only);exact⟨rP,oM,by rw [OJ,rK,aB  oM]⟩) (by(try dsimp only);omega) (ar (.az (s:=12) rfl (aD  oM) (eL [0,1,11])) (dZ [0]));have HR:=td x0;apply ab 1;refine bU (ar .nil .refl) ?_;refine sE ?_;exact rC p1 rfl ag.ak (.inl ⟨by rw [kV,show p=g.hZ from oM];rfl,hj⟩)
theorem Rl{bH cN eH gr j7:Int}:prog.built 307 [(0,Iv bH),(2,Iv cN),(3,Iv eH),(4,Iv gr),(5,Iv j7)]=some #[Iv bH,Iv 0,Iv cN,Iv eH,Iv gr,Iv j7,Iv 0]:=by kernel_rfl
theorem Lk(s:aP)(aO:Int)(L:Value)(b:Nat)(g:Nat)(cap:List Value)(W:World)(hb:Rd W (some ⟨b,0,none⟩) 8 [bD s aO L])(hs:s.rd W)(hB:bO s)(eZ:Hr.fb prog g)(hw:∀(i c v x:Nat),i<s.ms.length→c<(aa s.ms i).cs.length→v<((aa (aa s.ms i).cs c)).vs.length→x<((aa (aa (aa s.ms i).cs c).vs v)).es.length→∀w,aS nX W w→Calls prog g ([Value.agg #[Iv 4,Iv 0,Iv c,Iv i,Iv v,Iv x,Iv 0],Value.agg (a8.enc ((aa (aa (aa (aa s.ms i).cs c).vs v).es x))).toArray]++cap).toArray w (aJ w (.bool false))):Calls prog 152 #[.pointer (some ((bJ (some ⟨b,0,none⟩)).add (0*8))),.func (.func g) #[] cap.toArray] W (Hr.aJ W (.tuple #[])):=by
 have bp:eh W s.ms s.MA:=⟨hs.m,hs.mr⟩;have cO:=hB.ml;have jn:=hB.pl;have jc:=hB.sn;have gS:=hB.sl;have g_:=hB.ll;apply Ej 5 func152 ntmps152;refine Qq 0 (jE (d2:=3) rfl k7 rfl rfl zS rfl) ?_;refine Qq 3 (Qf rfl (.ao hb .no) rfl) ?_;apply kp 1 [0,1,16,17,18];apply Ks 0 [18,0,1,16,17] [];refine eP (ι:=Nat) (fun i=>i≤s.ms.length) (fun i=>Iv i) (fun i=>s.ms.length-i) 0 dO rfl ?_;rintro i kr;(try dsimp only at kr);apply Cd 5;intros;have bw:i<s.ms.length:=oM
 have wR:=(hB.me bw).elim fun a h=>h.cs;apply ab 6;refine Qq 0 (Qi i rfl (.ao hs.m .no)) ?_;refine Qq 0 (Qe rfl (.ao hs.m .no)) ?_;refine Nw 3 fun b5=>?_;apply kp 8 [0,1,4,5,16,17,18];apply Ks 0 [26,0,1,4,16,17,18,24,25] [0];refine eP (ι:=Nat) (fun c=>c≤(aa s.ms i).cs.length) (fun c=>Iv c) (fun c=>(aa s.ms i).cs.length-c) 0 dO rfl ?_;rintro c yv;(try dsimp only at yv);apply Cd 5;intros;have dh:c<(aa s.ms i).cs.length:=oM
 have HQ:=(hB.cell bw dh).2.1;apply ab 6;refine Qq 0 (Qi c rfl (.ao (bp.cs bw) .no)) ?_;refine Qq 0 (Qe rfl (.ao (bp.cs bw) .no)) ?_;refine Nw 3 fun b7=>?_;apply kp 8 [0,1,4,6,7,16,17,18,24,25,26];apply Ks 0 [34,0,1,4,6,16,17,18,24,25,26,32,33] [0,0];refine eP (ι:=Nat) (fun v=>v≤((aa (aa s.ms i).cs c)).vs.length) (fun v=>Iv v) (fun v=>((aa (aa s.ms i).cs c)).vs.length-v) 0 dO rfl ?_;rintro v vm;(try dsimp only at vm);apply Cd 5;intros;have gQ:v<((aa (aa s.ms i).cs c)).vs.length:=oM
 have kG:=((hB.cell bw dh).2.2 v gQ).elim fun a h=>h.len;apply ab 6;refine Qq 0 (Qi v rfl (.ao (bp.vs bw dh) .no)) ?_;refine Qq 0 (Qe rfl (.ao (bp.vs bw dh) .no)) ?_;refine Nw 3 fun b9=>?_;apply kp 8 [0,1,4,6,8,9,16,17,18,24,25,26,32,33,34];apply Ks 0 [42,0,1,4,6,8,16,17,18,24,25,26,32,33,34,40,41] [0,0,0];refine eP (ι:=Nat) (fun x=>x≤((aa (aa (aa s.ms i).cs c).vs v)).es.length) (fun x=>Iv x) (fun x=>((aa (aa (aa s.ms i).cs c).vs v)).es.length-x) 0 dO rfl ?_;rintro x o8;(try dsimp only at o8);apply Cd 5;intros;have i_:x<((aa (aa (aa s.ms i).cs c).vs v)).es.length:=oM
 apply ab 6;refine Qq 0 (Qi x rfl (.ao (bp.es bw dh gQ) .no)) ?_;refine Qq 0 (Qe rfl (.ao (bp.es bw dh gQ) .no)) ?_;refine Nw 3 fun pe=>?_;apply Dd 6 [0,1,2,3,4,5,6,7,8,9,10,11];refine Dq 1 rfl (aU rfl vZ (Rl)) ?_;refine Dq 2 rfl (gm rfl rfl eZ (aT rfl) (fun w hk hm=>hw i c v x bw dh gQ i_ w hk)) ?_;refine Dq 1 rfl (Qc rfl fun w _ _=>Ah _ _ _ _ w rfl) ?_;apply kp 5 [0,1,4,6,8,16,17,18,24,25,26,32,33,34,40,41,42];refine Ag (x+1) ?_;omega;intros;apply ab 1;apply kp 5 [0,1,4,6,16,17,18,24,25,26,32,33,34];refine Ag (v+1) ?_;omega;intros;apply ab 1;apply kp 5 [0,1,4,16,17,18,24,25,26];refine Ag (c+1) ?_;omega;intros;apply ab 1;apply kp 5 [0,1,16,17,18];refine Ag (i+1) ?_;omega;intros;apply ab 1;apply kp 0 [];exact bM rfl rfl
end Go.Proofs.YtafaoccjbifbaaaGreat
