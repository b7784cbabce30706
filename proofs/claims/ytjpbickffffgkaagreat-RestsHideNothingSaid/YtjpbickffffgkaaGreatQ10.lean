/- Part. -/
import Derived.Test.YtjpbickffffgkaaGreatQ06
set_option linter.unusedSimpArgs false
set_option linter.unusedVariables false
set_option maxHeartbeats 40000000
set_option maxRecDepth 100000
namespace Go.Proofs.YtjpbickffffgkaaGreat
open Go Go.RowKit Hr Go.Proofs.Tryz
namespace bh
section
variable{α:Type} [Inhabited α]
theorem Q4{L R:List α}{x:α}{i:Nat}(h:i=L.length):aa (L++x::R) i=x:=by
 subst h;simp [aa,yj]
theorem Mg{α:Type}{L R:List α}{x y:α}{i:Nat}(h:i=L.length):(L++x::R).set i y=L++y::R:=by
 subst h;rw [B4 _ _ (cE _),wT];rfl
theorem oE{L R:List α}{i j:Nat}(h:i=L.length+j):aa (L++R) i=aa R j:=by
 subst h;simp [aa,yj]
theorem YF{L R:List α}{i:Nat}(h:i<L.length):aa (L++R) i=aa L i:=by
 simp [aa,El h]
theorem VQ{L:List α}{i k:Nat}(h:i<k):aa (L.take k) i=aa L i:=by simp [aa,Eo,h]
theorem LD{L:List α}{i k:Nat}:aa (L.drop k) i=aa L (k+i):=by simp [aa]
def qI(p a m b s:List α)(k:Nat):List α:=p++(b.take k++(a.drop k++(m++(a.take k++(b.drop k++s)))))
theorem akB{α:Type}{p a m b s:List α}:qI p a m b s 0=p++(a++(m++(b++s))):=by simp [qI]
theorem akC{α:Type}{p a m b s:List α}{k:Nat}(ha:a.length=k)(hb:b.length=k):qI p a m b s k=p++(b++(m++(a++s))):=by
 rw [qI,eS  oM,eS  oM,vg  oM,vg  oM];simp
theorem FD{α:Type}{p a m b s:List α}{k:Nat}(ha:k≤a.length)(hb:k≤b.length):(qI p a m b s k).length=p.length+(a.length+(m.length+(b.length+s.length))):=by
 simp only [qI,aT,eM,kQ];omega
theorem akD{p a m b s:List α}{k i:Nat}(ha:k<a.length)(hb:k<b.length)(hi:i=p.length+k):aa (qI p a m b s k) i=aa a k:=by
 rw [qI,oA ha,←cj]
 exact Q4 (by simp only [aT,eM];omega)
theorem akE{p a m b s:List α}{k i:Nat}(ha:k<a.length)(hb:k<b.length)(hi:i=p.length+a.length+m.length+k):aa (qI p a m b s k) i=aa b k:=by
 rw [qI,oA hb]
 have e:p++(b.take k++(a.drop k++(m++(a.take k++(aa b k::b.drop (k+1)++s)))))=(p++(b.take k++(a.drop k++(m++a.take k))))++aa b k::(b.drop (k+1)++s):=by simp
 rw [e]
 exact Q4 (by simp only [aT,eM,kQ];omega)
theorem akF{p a m b s:List α}{k i j:Nat}(ha:k<a.length)(hb:k<b.length)(hi:i=p.length+k)(hj:j=p.length+a.length+m.length+k):
  ((qI p a m b s k).set i (aa b k)).set j (aa a k)=qI p a m b s (k+1):=by
 have e1:qI p a m b s k=(p++b.take k)++aa a k::(a.drop (k+1)++(m++(a.take k++(b.drop k++s)))):=by rw [qI,oA ha];simp
 rw [e1,Mg (by simp only [aT,eM];omega),oA hb]
 have e2:(p++b.take k)++aa b k::(a.drop (k+1)++(m++(a.take k++(aa b k::b.drop (k+1)++s))))=(p++(b.take k++([aa b k]++(a.drop (k+1)++(m++a.take k)))))++aa b k::(b.drop (k+1)++s):=by simp
 rw [e2,Mg (by simp only [aT,eM,kQ,ga,jI];omega),qI,q_ ha,q_ hb]
 simp
variable{lt:α→α→Bool}
theorem uv.refl{α:Type}{lt:α→α→Bool}(hw:uv lt)(a:α):lt a a=false:=by
 cases h:lt a a with
 |false=>rfl
 |true=>have:=hw.HM h;rw [h]at this;cases this
theorem db.le(hw:uv lt){l:List α}(h:db lt l){i j:Nat}(lD:i≤j)(hj:j<l.length):lt (Hr.aa l j) (Hr.aa l i)=false:=by
 by_cases e:i=j
 ·subst e;exact hw.refl _
 ·exact h.aa  oM hj
theorem YG(hw:uv lt){s:List α}{x:α}{t:Nat}(hs:db lt s)(ht:t≤s.length)(h1:t=0∨lt x (Hr.aa s (t-1))=false)(h2:t=s.length∨lt (Hr.aa s t) x=false):db lt (s.take t++x::s.drop t):=by
 refine ua.2 ⟨hs.take _,Kk.2 ⟨fun y hy=>?_,hs.sublist (G1 _ _)⟩,fun a ha b hb=>?_⟩
 ·obtain⟨j,h3,h4,rfl⟩:=AI hy
  rcases h2 with h2|h2
  ·omega
  ·exact hw.trans h2 (hs.le hw h3 h4)
 ·obtain⟨i,h3,h4,rfl⟩:=ET ha
  rcases gP.1 hb with rfl|hb
  ·rcases h1 with h1|h1
   ·omega
   ·exact hw.trans (hs.le hw (show i≤t-1 by omega)  oM) h1
  ·obtain⟨j,h5,h6,rfl⟩:=AI hb
   exact hs.le hw  oM h6
theorem YH{α:Type}{s:List α}{x:α}{t:Nat}:(s.take t++x::s.drop t).Perm (x::s):=by
 refine(yt).trans (.cons _ ?_)
 rw [mR]
theorem akG(hw:uv lt){x y z1 z2:List α}{u v:Nat}(hx:db lt x)(hy:db lt y)(h1:z1.Perm (x.take u++y.take v))(h2:z2.Perm (x.drop u++y.drop v))(s1:db lt z1)(s2:db lt z2)
  (hu:u≤x.length)(hv:v≤y.length)(hA:u=0∨v=y.length∨lt (Hr.aa y v) (Hr.aa x (u-1))=false)(hB:v=0∨u=x.length∨lt (Hr.aa y (v-1)) (Hr.aa x u)=true):db lt (z1++z2):=by
 refine ua.2 ⟨s1,s2,fun a ha b hb=>?_⟩
 have uP:=h1.mem_iff.1 ha
 have lW:=h2.mem_iff.1 hb
 rcases ep.1 uP with uP|uP<;>rcases ep.1 lW with lW|lW
 ·obtain⟨i,h3,h4,rfl⟩:=ET uP
  obtain⟨j,h5,h6,rfl⟩:=AI lW
  exact hx.le hw  oM h6
 ·obtain⟨i,h3,h4,rfl⟩:=ET uP
  obtain⟨j,h5,h6,rfl⟩:=AI lW
  rcases hA with h|h|h
  ·omega
  ·omega
  ·exact hw.trans (hw.trans (hx.le hw (show i≤u-1 by omega)  oM) h) (hy.le hw h5 h6)
 ·obtain⟨i,h3,h4,rfl⟩:=ET uP
  obtain⟨j,h5,h6,rfl⟩:=AI lW
  rcases hB with h|h|h
  ·omega
  ·omega
  ·exact hw.trans (hw.trans (hy.le hw (show i≤v-1 by omega)  oM) (hw.HM h)) (hx.le hw h5 h6)
 ·obtain⟨i,h3,h4,rfl⟩:=ET uP
  obtain⟨j,h5,h6,rfl⟩:=AI lW
  exact hy.le hw  oM h6
theorem akH{α:Type}{x y z1 z2:List α}{u v:Nat}(h1:z1.Perm (x.take u++y.take v))(h2:z2.Perm (x.drop u++y.drop v)):(z1++z2).Perm (x++y):=by
 refine(h1.append h2).trans ?_
 have e:(x++y).Perm ((x.take u++x.drop u)++(y.take v++y.drop v)):=by rw [mR,mR]
 refine List.Perm.trans ?_ e.symm
 rw [cj,cj]
 refine List.Perm.append_left _ ?_
 rw [←cj,←cj]
 exact List.Perm.append_right _ Oy
def Be(lt:α→α→Bool)(p x y s d:List α):Prop:=∃z,z.Perm (x++y)∧db lt z∧d=p++(z++s)
theorem akI{s:List α}{t:α}{r:List α}{j:Nat}(h:j<s.length):((gy s t r j).set j (aa s j)).set (j+1) t=gy s t r (j+1):=by
 have h1:(s.take j).length=j:=by rw [eM];omega
 unfold gy
 rw [Mg  oM,oA h]
 have e:s.take j++aa s j::(aa s j::s.drop (j+1)++r)=(s.take j++ [aa s j])++aa s j::(s.drop (j+1)++r):=by simp
 rw [e,Mg (by simp;omega),q_ h]
theorem akJ{s:List α}{t:α}{r:List α}{j:Nat}(h:j<s.length):aa (gy s t r j) (j+1)=aa s j:=by
 have h1:(s.take j).length=j:=by rw [eM];omega
 unfold gy
 rw [oA h]
 have e:s.take j++t::(aa s j::s.drop (j+1)++r)=(s.take j++ [t])++aa s j::(s.drop (j+1)++r):=by simp
 rw [e]
 exact Q4 (by simp;omega)
theorem IF{α:Type}{p l:List α}{i j:Nat}{v:α}(h:i=p.length+j):(p++l).set i v=p++l.set j v:=by
 subst h;rw [B4 _ _  oM,Nat.add_sub_cancel_left]
theorem C3{p x r:List α}{i k:Nat}(hi:i=p.length+k)(hk:k<x.length):aa (p++(x++r)) i=aa x k:=by
 rw [oE hi,YF hk]
theorem Q5{p x y r:List α}{i k:Nat}(hi:i=p.length+x.length+k)(hk:k<y.length):aa (p++(x++(y++r))) i=aa y k:=by
 rw [oE (j:=x.length+k)  oM,oE rfl,YF hk]
theorem YI{α:Type}{p x r:List α}{i k:Nat}{v:α}(hi:i=p.length+k)(hk:k<x.length):(p++(x++r)).set i v=p++(x.set k v++r):=by
 rw [IF hi,List.set_append_left _ _ hk]
theorem akK{p s:List α}{t:α}{r:List α}{i i' j:Nat}(h:j<s.length)(hi:i=p.length+j)(da:i'=p.length+(j+1)):((p++gy s t r j).set i (aa s j)).set i' t=p++gy s t r (j+1):=by
 rw [IF hi,IF da,akI h]
theorem akL{p s:List α}{t:α}{r:List α}{i i' j:Nat}(h:j+1≤s.length)(hi:i=p.length+(j+1))(da:i'=p.length+j):((p++gy s t r (j+1)).set i (aa s j)).set i' t=p++gy s t r j:=by
 rw [IF hi,IF da,V_ h]
theorem YJ{p s:List α}{t:α}{r:List α}{i j:Nat}(h:j≤s.length)(hi:i=p.length+j):aa (p++gy s t r j) i=t:=by
 rw [oE hi,Pp h]
theorem akM{p s:List α}{t:α}{r:List α}{i j:Nat}(h:j<s.length)(hi:i=p.length+(j+1)):aa (p++gy s t r j) i=aa s j:=by
 rw [oE hi,akJ h]
theorem akN{p s:List α}{t:α}{r:List α}{i j:Nat}(h:j+1≤s.length)(hi:i=p.length+j):aa (p++gy s t r (j+1)) i=aa s j:=by
 rw [oE hi,Pr h]
theorem uQ{α:Type}{p s:List α}{t:α}{r:List α}{j:Nat}(h:j≤s.length):(p++gy s t r j).length=p.length+(s.length+(1+r.length)):=by
 rw [aT,Lf h];omega
theorem YK{α:Type}{p s:List α}{t:α}{r:List α}{j:Nat}:p++gy s t r j=p++((s.take j++t::s.drop j)++r):=by simp [gy]
theorem akO{p s:List α}{t:α}{r q:List α}{i i' j:Nat}(h:j+1≤s.length)(hi:i=p.length+(j+1))(da:i'=p.length+j):((p++(gy s t r (j+1)++q)).set i (aa s j)).set i' t=p++(gy s t r j++q):=by
 rw [YI hi (by rw [Lf h];omega),YI da (by rw [hU,Lf h];omega),V_ h]
theorem akP(hw:uv lt){p y s:List α}{a:α}{i:Nat}(hy:db lt y)(hi:i≤y.length)(h1:i=0∨lt (Hr.aa y (i-1)) a=true)(h2:i=y.length∨lt (Hr.aa y i) a=false):Be lt p [a] y s (p++gy y a s i):=
 ⟨_,YH,YG hw hy hi (h1.imp_right fun h=>hw.HM h) h2,YK⟩
theorem akQ(hw:uv lt){p x s:List α}{b:α}{i:Nat}(hx:db lt x)(hi:i≤x.length)(h1:i=0∨lt b (Hr.aa x (i-1))=false)(h2:i=x.length∨lt b (Hr.aa x i)=true):Be lt p x [b] s (p++gy x b s i):=
 ⟨_,YH.trans (Oy (l₁:= [b])),YG hw hx hi h1 (h2.imp_right fun h=>hw.HM h),YK⟩
theorem ki(hw:uv lt){p x y s z1 z2 d:List α}{u v:Nat}(hx:db lt x)(hy:db lt y)(h1:z1.Perm (x.take u++y.take v))(h2:z2.Perm (x.drop u++y.drop v))(s1:db lt z1)(s2:db lt z2)
  (hu:u≤x.length)(hv:v≤y.length)(hA:u=0∨v=y.length∨lt (Hr.aa y v) (Hr.aa x (u-1))=false)(hB:v=0∨u=x.length∨lt (Hr.aa y (v-1)) (Hr.aa x u)=true)(hd:d=p++(z1++(z2++s))):Be lt p x y s d:=
 ⟨z1++z2,akH h1 h2,akG hw hx hy h1 h2 s1 s2 hu hv hA hB,by rw [hd,cj]⟩
theorem YL{α:Type}{x y r:List α}{u v:Nat}(h:u=x.length∨v=0):x++(y++r)=x.take u++(y.take v++(x.drop u++(y.drop v++r))):=by
 rcases h with h|h
 ·subst h;simp only [Kw,List.drop_length,Er];rw [←cj (y.take v),mR]
 ·subst h;simp only [Ah,G7,Er];rw [←cj (x.take u),mR]
theorem akR{α:Type}{x y r:List α}{u v:Nat}:x++(y++r)=x.take u++(x.drop u++(y.take v++(y.drop v++r))):=by
 rw [←cj (x.take u),mR,←cj (y.take v),mR]
theorem db.drop{α:Type}{lt:α→α→Bool}{l:List α}(h:db lt l)(k:Nat):db lt (l.drop k):=h.sublist (G1 _ _)
theorem FE{α:Type}{lt:α→α→Bool}{x y:List α}{u v:Nat}(hx:db lt x)(hy:db lt y)(h:u=0∨v=0):db lt (x.take u++y.take v):=by
 rcases h with h|h
 ·subst h;rw [Ah,Er];exact hy.take _
 ·subst h;rw [Ah,iF];exact hx.take _
theorem pj{α:Type}{lt:α→α→Bool}{x y:List α}{u v:Nat}(hx:db lt x)(hy:db lt y)(h:u=x.length∨v=y.length):db lt (x.drop u++y.drop v):=by
 rcases h with h|h
 ·subst h;rw [List.drop_length,Er];exact hy.drop _
 ·subst h;rw [List.drop_length,iF];exact hx.drop _
theorem Bf(y:Int):y.fdiv (2^(min (1:Int).toNat IntKind.u64.bits))=y/2:=by
 show y.fdiv 2=y/2
 exact Int.fdiv_eq_ediv_of_nonneg _ (by decide)
theorem uw{y:Int}(h:0≤y∧y<18446744073709551616):IntKind.u64.wrap y=y:=by
 simp [IntKind.wrap,IntKind.bits,IntKind.signed];omega
end
end bh
theorem aas:prog.built 249 []=some #[.string (ByteArray.mk #[]),Iv 0]:=by kernel_rfl
theorem Sa:prog.eqGuardType prog.depth 249=false:=by kernel_rfl
theorem amJ:prog.stoodInHeld 249=false:=by kernel_rfl
theorem Sb{a0:ByteArray}{a1:Int}{b0:ByteArray}{b1:Int}(w:World):(Op.equalIn 10000 249 (.agg #[.string a0,Iv a1]) (.agg #[.string b0,Iv b1])).run prog w= .ok (r_ a0 b0&&(a1==b1)) w:=by
 rw [sV w 9999 249 _ _ (by simp only [Program.fieldsOf,underlying249]) amJ];simp only [Program.fieldsOf,underlying249];exact w8 (jf (by decide) (cQ zO rfl) (cQ zO rfl) (run_equalIn_string w 9998 9 a0 b0 underlying9) (jf (by decide) (cQ zO rfl) (cQ zO rfl) (fR w 9998 3 .i64 .i64 a1 b1 cr) AN)) (by simp only [iP,w9,r_])
theorem Sc(l:List Hd)(A:Option Addr)(ca:Nat)(W:World)(hr:Rd W A 5 (l.map Hd.enc))(hl:l.length≤100000):Calls prog 226 #[.slice A l.length ca] W (Hr.aN W (Iv (nQ l))):=by
 apply Ej 13 func226 ntmps226;apply kp 0 [0,2,9];apply Cd 0;intros;apply ab 5;exact aw rfl rfl (by rw [agZ  oM]);intros;apply ab 7;apply kp 0 [0,2,13];apply Cd 0;intros;apply ab 5;exact aw rfl rfl (by rw [ag0  oM oM]);intros;apply ab 14;apply Ks 0 [19,3,2,17,18] [];refine lY (ι:=Nat) (fun k=>k≤l.length∧dE (hF l) l.length 0=dE (hF l) (l.length-k) k) (fun k=>Iv k) (fun k=>Iv (Pz l k)) (fun k=>l.length-k) 0 (by(try dsimp only);exact⟨oM,rfl⟩) rfl rfl ?_;rintro k hq;(try dsimp only at hq);obtain⟨hk,hE⟩:=hq;apply Cd 5;intros;have dB:k<l.length:=oM
 apply ab 5;refine Qq 0 (Qi k rfl (.au hr .no)) ?_;refine Qq 0 (Qe rfl (.au hr .no)) ?_;refine Nw 6 fun b5=>?_;refine Qq 7 (Qc rfl fun w _ _=>amI (aa l k) w) ?_;apply kp 0 [2,3,5,6,17,18,19,26];apply Cd 0;intro rL _;apply ab 5;apply kp 1 [2,3,5,17,18,19];exact aw rfl rfl (by rw [Wz  oM oM hE dB (ag9 rL) rL]);intros;have h0:nk (aa l k)=0:=oM
 have hq:=ag8 h0;apply ab 5;refine Qq 6 (Qc rfl fun w _ _=>R_ (aa l k).step (aa l k).cd (aa l k).bR w) ?_;apply kp 2 [2,3,7,17,18,19];refine dI (az (.cons (s:=2) rfl (.cons (s:=3) rfl (.aH (s:=7) (v':=Iv (aa l k).aL) rfl (aP (aD (show¬(aa l k).aL<0 by omega))) (eL [17,18,19])))) .refl) ?_;apply Cd 5;intro I8 _;have hf2:hF l k=25:=ag_ h0 (by unfold Pz at I8;split at I8<;>omega);apply ab 4;apply kp 1 [2,3,7,17,18,19];exact aw rfl rfl (by rw [Wz  oM oM hE dB hf2 (by decide)]);intro I8 _;have hf3:hF l k=0:=aha h0 (by unfold Pz at I8;split at I8<;>omega);apply ab 5;apply kp 5 [2,3,17,18,19];refine Ag (k+1) ?_;exact⟨oM,by rw [hE,Ch dB hf3]⟩;intros;apply ab 1;apply kp 5 [2];exact aw rfl rfl (by rw [Lm  oM oM,hE,Ln  oM])
theorem Se(l:List Gr)(A:Option Addr)(ca:Nat)(W:World)(hr:Rd W A 5 (l.map Gr.enc))(hl:l.length≤100000):Calls prog 227 #[.slice A l.length ca] W (Hr.aN W (Iv (vz l))):=by
 apply Ej 11 func227 ntmps227;apply Cd 0;intros;apply ab 4;apply kp 1 [0,2];exact aw rfl rfl (by rw [ag1  oM]);intros;apply ab 8;apply kp 1 [2,10,11,12];apply Ks 0 [12,2,10,11] [];refine dY (ι:=Nat) (fun k=>k≤l.length∧dE (gF l) l.length 0=dE (gF l) (l.length-k) k) (fun k=>Iv k) (fun k=>l.length-k) 0 (by(try dsimp only);exact⟨oM,rfl⟩) rfl ?_;rintro k hq;(try dsimp only at hq);obtain⟨hk,hE⟩:=hq;apply Cd 5;intros;have dB:k<l.length:=oM
 apply ab 5;refine Qq 0 (Qi k rfl (.au hr .no)) ?_;refine Qq 0 (Qe rfl (.au hr .no)) ?_;refine Nw 7 fun b4=>?_;refine Qq 6 (Qc rfl fun w _ _=>R_ (aa l k).step (aa l k).cd (aa l k).bR w) ?_;apply kp 5 [2,4,6,10,11,12];apply Cd 0;intro nA _;have hn:(aa l k).aL<0:=ag5 nA;apply ab 5;apply kp 1 [2,4,10,11,12];exact aw rfl rfl (by rw [Py  oM hE dB (agV hn) (by decide)];exact aP (aG hn));intro nA _;have hn:¬(aa l k).aL<0:=ag6 nA;apply Sd 7 28;intro _ tH;apply ab 5;apply kp 6 [2,10,11,12,32];exact aw rfl rfl (by rw [Py  oM hE dB (Ws hn  oM) (by decide)]);intro _ tH;apply ab 5;apply kp 0 [2,10,11,12,32];apply Cd 0;intros;apply ab 5;exact aw rfl rfl (by rw [Py  oM hE dB (Ws hn  oM) (by decide)]);intros;have h0:xn (aa l k)=0:=Wt hn  oM ;apply ab 6;refine Ag (k+1) ?_;exact⟨oM,by rw [hE,Ch dB (by rw [gF,h0])]⟩;intros;apply ab 1;apply kp 5 [2];exact aw rfl rfl (by rw [Px  oM,hE,Ln  oM])
theorem amK(x:eG)(W:World):Calls prog 276 #[x.val] W (Hr.aN W (Iv (te x))):=by
 apply Ej 2 func276 ntmps276;refine Nw 10 fun b1=>?_;apply Sd 0 8;intro _ g8;apply ab 6;apply kp 6 [1,2,4];exact aw rfl rfl (by rw [Wv  oM]);intro _ g8;apply ab 6;apply kp 0 [1,2,4];apply Cd 0;intros;apply ab 5;exact aw rfl rfl (by rw [Wv  oM]);intros;apply ab 4;refine Qq 3 (OI rfl underlying9 rfl) ?_;apply kp 0 [1,2,13];apply Cd 0;intros;apply ab 5;exact aw rfl rfl (by rw [agX  oM oM]);intros;apply ab 7;refine Qq 2 (OI rfl underlying9 rfl) ?_;apply kp 1 [1,2,20,21];apply Ks 0 [21,1,2,20] [0];refine dY (ι:=Nat) (fun k=>k≤x.gG.size∧dE (ux x.gG) x.gG.size 0=dE (ux x.gG) (x.gG.size-k) k) (fun k=>Iv k) (fun k=>x.gG.size-k) 0 (by(try dsimp only);exact⟨oM,rfl⟩) rfl ?_;rintro k hq;(try dsimp only at hq);obtain⟨hk,hE⟩:=hq;apply Cd 5;intros;have dB:k<x.gG.size:=oM
 apply ab 13;refine Qq 2 (Wi (q:=k) rfl underlying9 rfl rfl rfl (Wp  oM)) ?_;apply Sd 0 29;intro _ eQ;have hb:ux x.gG k=6:=Wu (by unfold yI;omega);apply ab 7;apply kp 6 [1,2,20,21,35];exact aw rfl rfl (by rw [Ww  oM oM (by rw [hE,AD dB (by rw [hb];decide),hb];decide)]);intro _ eQ;apply ab 3;refine Qq 3 (Wi (q:=k) rfl underlying9 rfl rfl rfl (Wp  oM)) ?_;apply kp 0 [1,2,20,21,35];apply Cd 0;intros;have hb:ux x.gG k=6:=Wu (by unfold yI;omega);apply ab 5;exact aw rfl rfl (by rw [Ww  oM oM (by rw [hE,AD dB (by rw [hb];decide),hb];decide)]);intros;have hb:ux x.gG k=0:=agW (by unfold yI;omega);apply ab 6;refine Ag (k+1) ?_;exact⟨oM,by rw [hE,Ch dB hb]⟩;intros;apply ab 1;apply kp 2 [1,2];have hz:dE (ux x.gG) x.gG.size 0=0:=by rw [hE,Ln  oM]
 apply ab 3;refine Qq 1 (HN rfl rfl rfl) ?_;apply Sd 0 40;intro _ Dx;apply ab 5;apply kp 0 [2,44];apply Cd 0;intro Sf _;apply ab 5;exact aw rfl rfl (by rw [agY  oM oM hz ⟨Dx,Sf⟩]);intro Sf _;apply ab 6;exact aw rfl rfl (by rw [Wx  oM oM hz (fun h=>Sf h.2)]);intro _ Dx;apply ab 5;apply kp 7 [2,44];exact aw rfl rfl (by rw [Wx  oM oM hz (fun h=>Bool.noConfusion (h.1.symm.trans Dx))])
theorem amL(x:eG)(W:World):Calls prog 277 #[x.val] W (Hr.aN W (.bool (decide (Cn x)))):=by
 apply Ej 2 func277 ntmps277;refine Nw 5 fun b1=>?_;refine Qq 0 (bO rfl vZ (aas)) ?_;refine Qq 2 (xb rfl rfl rfl Sa (fun w=>Sb w)) ?_;apply kp 1 [2];exact aw rfl rfl (ay Value.bool (by rw [ug,jl];simp [Cn,HQ]))
theorem Sg(l:List eG)(A:Option Addr)(ca:Nat)(W:World)(hr:Rd W A 2 (l.map eG.enc))(hl:l.length≤100000):Calls prog 228 #[.slice A l.length ca] W (Hr.aN W (Iv (pJ l))):=by
 apply Ej 11 func228 ntmps228;apply Cd 0;intros;apply ab 4;apply kp 1 [0,2];exact aw rfl rfl (by rw [ag2  oM]);intros;apply ab 8;apply kp 1 [0,2,10,11,12];apply Ks 0 [12,0,2,10,11] [];refine dY (ι:=Nat) (fun k=>k≤l.length∧dE (sF l) l.length 0=dE (sF l) (l.length-k) k) (fun k=>Iv k) (fun k=>l.length-k) 0 (by(try dsimp only);exact⟨oM,rfl⟩) rfl ?_;rintro k hq;(try dsimp only at hq);obtain⟨hk,hE⟩:=hq;apply Cd 5;intros;have dB:k<l.length:=oM
 apply ab 5;refine Qq 0 (Qi k rfl (.au hr .no)) ?_;refine Qq 0 (Qe rfl (.au hr .no)) ?_;refine Nw 5 fun b4=>?_;refine Qq 2 (Qc rfl fun w _ _=>amK (aa l k) w) ?_;apply kp 5 [0,2,5,10,11,12];apply Cd 0;intro Sh _;apply ab 5;apply kp 1 [0,2,10,11,12];exact aw rfl rfl (by rw [ag7  oM hE dB rfl Sh]);intros;have h0:te (aa l k)=0:=oM
 apply ab 6;apply kp 0 [0,2,10,11,12];refine Ag (k+1) ?_;exact⟨oM,by rw [hE,Ch dB (by rw [sF,h0])]⟩;intros;apply ab 1;apply kp 2 [0,2];have hz:dE (sF l) l.length 0=0:=by rw [hE,Ln  oM]
 apply Sd 10 26;intro _ xV;apply ab 3;refine Qq 0 (Qi (l.length-1) rfl (.au hr .no)) ?_;refine Qq 0 (Qe rfl (.au hr .no)) ?_;refine Qq 2 (Qc rfl fun w _ _=>amL (aa l (l.length-1)) w) ?_;apply kp 0 [2,33];apply Cd 0;intro I9 _;apply ab 5;exact aw rfl rfl (by rw [ag4  oM hz ⟨oM,I9⟩]);intro I9 _;apply ab 6;exact aw rfl rfl (by rw [Wy  oM hz (fun h=>I9 h.2)]);intro _ xV;apply ab 8;apply kp 7 [2,33];exact aw rfl rfl (by rw [Wy  oM hz  oM])
theorem amM:prog.eqGuardType prog.depth 149=false:=by kernel_rfl
theorem amN:prog.stoodInHeld 149=false:=by kernel_rfl
theorem aav{a0 a1 a2 b0 b1 b2:Int}(w:World):(Op.equalIn 9999 147 (.agg #[Iv a0,Iv a1,Iv a2]) (.agg #[Iv b0,Iv b1,Iv b2])).run prog w= .ok (a0==b0&&(a1==b1&&(a2==b2))) w:=by
 rw [sV w 9998 147 _ _ (by simp only [Program.fieldsOf,wY]) FW];simp only [Program.fieldsOf,wY];exact w8 (jf (by decide) (cQ zO rfl) (cQ zO rfl) (fR w 9997 3 .i64 .i64 a0 b0 cr) (jf (by decide) (cQ zO rfl) (cQ zO rfl) (fR w 9997 3 .i64 .i64 a1 b1 cr) (jf (by decide) (cQ zO rfl) (cQ zO rfl) (fR w 9997 3 .i64 .i64 a2 b2 cr) AN))) (by simp only [iP,w9,r_])
theorem amO{a0 a1 a2:Int}{a3:Bool}{a4 b0 b1 b2:Int}{b3:Bool}{b4:Int}(w:World):(Op.equalIn 10000 149 (.agg #[Iv a0,Iv a1,Iv a2,.bool a3,Iv a4]) (.agg #[Iv b0,Iv b1,Iv b2,.bool b3,Iv b4])).run prog w= .ok (a0==b0&&(a1==b1&&(a2==b2&&(a3==b3&&(a4==b4))))) w:=by
 rw [sV w 9999 149 _ _ (by simp only [Program.fieldsOf,underlying149]) amN];simp only [Program.fieldsOf,underlying149];exact w8 (jf (by decide) (AM FT rfl) (AM FT rfl) (aav w) (jf (by decide) (cQ zO rfl) (cQ zO rfl) (run_equalIn_bool' w 9998 4 a3 b3 underlying4) (jf (by decide) (cQ zO rfl) (cQ zO rfl) (fR w 9998 3 .i64 .i64 a4 b4 cr) AN))) (by simp only [iP,w9,r_])
theorem amP:prog.eqGuardType prog.depth 212=false:=by kernel_rfl
theorem amQ:prog.stoodInHeld 212=false:=by kernel_rfl
theorem amR{a0 a1 a2 a3:Int}{a4:Bool}{b0 b1 b2 b3:Int}{b4:Bool}(w:World):(Op.equalIn 10000 212 (.agg #[Iv a0,Iv a1,Iv a2,Iv a3,.bool a4]) (.agg #[Iv b0,Iv b1,Iv b2,Iv b3,.bool b4])).run prog w= .ok (a0==b0&&(a1==b1&&(a2==b2&&(a3==b3&&(a4==b4))))) w:=by
 rw [sV w 9999 212 _ _ (by simp only [Program.fieldsOf,underlying212]) amQ];simp only [Program.fieldsOf,underlying212];exact w8 (jf (by decide) (AM FT rfl) (AM FT rfl) (aav w) (jf (by decide) (cQ zO rfl) (cQ zO rfl) (fR w 9998 3 .i64 .i64 a3 b3 cr) (jf (by decide) (cQ zO rfl) (cQ zO rfl) (run_equalIn_bool' w 9998 4 a4 b4 underlying4) AN))) (by simp only [iP,w9,r_])
theorem amS:prog.eqGuardType prog.depth 138=false:=by kernel_rfl
theorem amT:prog.stoodInHeld 138=false:=by kernel_rfl
theorem amU{a0 a1 b0 b1:Int}(w:World):(Op.equalIn 10000 138 (.agg #[Iv a0,Iv a1]) (.agg #[Iv b0,Iv b1])).run prog w= .ok (a0==b0&&(a1==b1)) w:=by
 rw [sV w 9999 138 _ _ (by simp only [Program.fieldsOf,underlying138]) amT];have hz:∀(x y:Int) (w:World),(Op.equalIn 9999 3 (Iv x) (Iv y)).run prog w= .ok (x==y) w:=fun x y w=>fR w 9998 3 .i64 .i64 x y cr;cases h0:(a0==b0)<;>cases h1:(a1==b1)<;>simp [Program.fieldsOf,underlying138,Op.eqFields,part,qQ.1,hz,h0,h1]
theorem amV(l k:List Hd)(A B:Option Addr)(ca cb:Nat)(W:World)(hr:Rd W A 5 (l.map Hd.enc))(hq:Rd W B 5 (k.map Hd.enc))(hl:l.length≤100000)(cC:k.length≤100000):Calls prog 270 #[.slice A l.length ca,.slice B k.length cb] W (Hr.aN W (.bool (iR xp l k))):=by
 apply Ej 13 func270 ntmps270;apply kp 0 [0,1,4,10];apply Cd 0;intros;apply ab 5;exact aw rfl rfl (by rw [PC  oM]);intros;have qR:l.length=k.length:=oM
 apply ab 9;apply Ks 0 [13,0,1,4,12] [];refine dY (ι:=Nat) (fun i=>i≤l.length∧iR xp l k=iR xp (l.drop i) (k.drop i)) (fun i=>Iv i) (fun i=>l.length-i) 0 (by(try dsimp only);exact⟨oM,rfl⟩) rfl ?_;rintro i hq;(try dsimp only at hq);obtain⟨hi,hE⟩:=hq;apply Cd 5;intros;have dB:i<l.length:=oM
 apply ab 9;apply Dd 2 [0,1,2,3,4,5,6,7,8];refine Dq 0 rfl (Qi i rfl (.au hr .no)) ?_;refine Dq 2 rfl (Qe rfl (.au hr .no)) ?_;refine Dq 0 rfl (Qi i rfl (.au hq .no)) ?_;refine Dq 0 rfl (Qe rfl (.au hq .no)) ?_;refine Dq 1 rfl (KT rfl rfl rfl amM (fun w=>amO w)) ?_;apply kp 0 [0,1,4,12,13,24];apply Cd 0;intro _ qb;apply ab 5;exact aw rfl rfl (by rw [hE,PE dB qR (show xp (aa l i) (aa k i)=false from Lr qb)]);intro _ qb;apply ab 6;refine Ag (i+1) ?_;exact⟨oM,by rw [hE,PD dB qR (show xp (aa l i) (aa k i)=true from HS qb)]⟩;intros;apply ab 1;apply kp 5 [4];exact aw rfl rfl (by rw [hE,PF  oM qR])
theorem amW(l k:List Gr)(A B:Option Addr)(ca cb:Nat)(W:World)(hr:Rd W A 5 (l.map Gr.enc))(hq:Rd W B 5 (k.map Gr.enc))(hl:l.length≤100000)(cC:k.length≤100000):Calls prog 271 #[.slice A l.length ca,.slice B k.length cb] W (Hr.aN W (.bool (iR xq l k))):=by
 apply Ej 13 func271 ntmps271;apply kp 0 [0,1,4,10];apply Cd 0;intros;apply ab 5;exact aw rfl rfl (by rw [PC  oM]);intros;have qR:l.length=k.length:=oM
 apply ab 9;apply Ks 0 [13,0,1,4,12] [];refine dY (ι:=Nat) (fun i=>i≤l.length∧iR xq l k=iR xq (l.drop i) (k.drop i)) (fun i=>Iv i) (fun i=>l.length-i) 0 (by(try dsimp only);exact⟨oM,rfl⟩) rfl ?_;rintro i hq;(try dsimp only at hq);obtain⟨hi,hE⟩:=hq;apply Cd 5;intros;have dB:i<l.length:=oM
 apply ab 9;apply Dd 2 [0,1,2,3,4,5,6,7,8];refine Dq 0 rfl (Qi i rfl (.au hr .no)) ?_;refine Dq 2 rfl (Qe rfl (.au hr .no)) ?_;refine Dq 0 rfl (Qi i rfl (.au hq .no)) ?_;refine Dq 0 rfl (Qe rfl (.au hq .no)) ?_;refine Dq 1 rfl (KT rfl rfl rfl amP (fun w=>amR w)) ?_;apply kp 0 [0,1,4,12,13,24];apply Cd 0;intro _ qb;apply ab 5;exact aw rfl rfl (by rw [hE,PE dB qR (show xq (aa l i) (aa k i)=false from Lr qb)]);intro _ qb;apply ab 6;refine Ag (i+1) ?_;exact⟨oM,by rw [hE,PD dB qR (show xq (aa l i) (aa k i)=true from HS qb)]⟩;intros;apply ab 1;apply kp 5 [4];exact aw rfl rfl (by rw [hE,PF  oM qR])
theorem amX(l k:List eG)(A B:Option Addr)(ca cb:Nat)(W:World)(hr:Rd W A 2 (l.map eG.enc))(hq:Rd W B 2 (k.map eG.enc))(hl:l.length≤100000)(cC:k.length≤100000):Calls prog 272 #[.slice A l.length ca,.slice B k.length cb] W (Hr.aN W (.bool (iR yJ l k))):=by
 apply Ej 13 func272 ntmps272;apply kp 0 [0,1,4,10];apply Cd 0;intros;apply ab 5;exact aw rfl rfl (by rw [PC  oM]);intros;have qR:l.length=k.length:=oM
 apply ab 9;apply Ks 0 [13,0,1,4,12] [];refine dY (ι:=Nat) (fun i=>i≤l.length∧iR yJ l k=iR yJ (l.drop i) (k.drop i)) (fun i=>Iv i) (fun i=>l.length-i) 0 (by(try dsimp only);exact⟨oM,rfl⟩) rfl ?_;rintro i hq;(try dsimp only at hq);obtain⟨hi,hE⟩:=hq;apply Cd 5;intros;have dB:i<l.length:=oM
 apply ab 9;apply Dd 2 [0,1,2,3,4,5,6,7,8];refine Dq 0 rfl (Qi i rfl (.au hr .no)) ?_;refine Dq 2 rfl (Qe rfl (.au hr .no)) ?_;refine Dq 0 rfl (Qi i rfl (.au hq .no)) ?_;refine Dq 0 rfl (Qe rfl (.au hq .no)) ?_;refine Dq 1 rfl (KT rfl rfl rfl Sa (fun w=>Sb w)) ?_;apply kp 0 [0,1,4,12,13,24];apply Cd 0;intro _ qb;apply ab 5;exact aw rfl rfl (by rw [hE,PE dB qR (show yJ (aa l i) (aa k i)=false from Lr qb)]);intro _ qb;apply ab 6;refine Ag (i+1) ?_;exact⟨oM,by rw [hE,PD dB qR (show yJ (aa l i) (aa k i)=true from HS qb)]⟩;intros;apply ab 1;apply kp 5 [4];exact aw rfl rfl (by rw [hE,PF  oM qR])
theorem amY(x y:bn)(p q:l6)(W:World)(hx:kD W x p)(hy:kD W y q)(fx:x.eT)(fy:y.eT):Calls prog 224 #[nm x p,nm y q] W (Hr.aN W (.bool (decide (kX x y)))):=by
 apply Ej 2 func224 ntmps224;refine Nw 0 fun b2=>?_;refine Nw 10 fun b3=>?_;apply Sd 0 10;intro _ mN;apply ab 4;refine Qq 2 (xb rfl rfl rfl amS (fun w=>amU w)) ?_;apply Sd 0 17;intro _ j2;apply Sd 7 24;intro _ qb;apply Sd 7 31;intro _ I_;apply Sd 7 38;intro _ zD;apply Sd 7 45;intro _ tI;apply Sd 7 52;intro _ Si;apply ab 4;refine Qq 2 (Qc rfl fun w hk _=>amV x.hs y.hs p.HA q.HA p.hc q.hc w (hx.h.aC hk) (hy.h.aC hk) fx.1 fy.1) ?_;apply Sd 0 59;intro _ Bv;apply ab 4;refine Qq 2 (Qc rfl fun w hk _=>amW x.gs y.gs p.GA q.GA p.gc q.gc w (hx.g.aC hk) (hy.g.aC hk) fx.2.1 fy.2.1) ?_;apply Sd 0 66;intro _ Ja;apply ab 4;refine Qq 3 (Qc rfl fun w hk _=>amX x.ls y.ls p.LA q.LA p.lc q.lc w (hx.l.aC hk) (hy.l.aC hk) fx.2.2.1 fy.2.2.1) ?_;apply kp 1 [4];exact aw rfl rfl (ay Value.bool (ahs mN j2 qb I_ zD tI Si Bv Ja).symm);intro _ Ja;apply ab 8;apply kp 1 [4];exact aw rfl rfl (ay Value.bool (cw (ahr Ja)).symm);intro _ Bv;apply ab 15;apply kp 1 [4];exact aw rfl rfl (ay Value.bool (cw (ahq Bv)).symm);intro _ Si;apply ab 22;apply kp 1 [4];exact aw rfl rfl (ay Value.bool (cw (ahp Si)).symm);intro _ tI;apply ab 29;apply kp 1 [4];exact aw rfl rfl (ay Value.bool (cw (aho tI)).symm);intro _ zD;apply ab 36;apply kp 1 [4];exact aw rfl rfl (ay Value.bool (cw (ahn zD)).symm);intro _ I_;apply ab 43;apply kp 1 [4];exact aw rfl rfl (ay Value.bool (cw (ahm I_)).symm);intro _ qb;apply ab 50;apply kp 1 [4];exact aw rfl rfl (ay Value.bool (cw (ahl qb)).symm);intro _ j2;apply ab 57;apply kp 1 [4];exact aw rfl rfl (ay Value.bool (cw (ahk j2)).symm);intro _ mN;apply ab 64;apply kp 1 [4];exact aw rfl rfl (ay Value.bool (cw (ahj mN)).symm)
theorem amZ{ir iu cX x7y:Int}:prog.built 143 [(0,.agg #[Iv ir,Iv iu]),(1,Iv cX),(7,Iv x7y)]=some #[Iv ir,Iv iu,Iv cX,Iv 0,Iv 0,zq,zq,Iv 0,Iv 0,Iv x7y,zq,Iv 0,Iv 0]:=by kernel_rfl
theorem aax(a:Int)(W:World)(ha:a≤9223372036854775807):Calls prog 273 #[Iv a] W (Hr.aN W (Iv (vB a))):=by
 apply Ej 10 func273 ntmps273;apply Cd 0;intro Sj _;apply ab 5;exact aw rfl rfl (aP (ahe (.inl Sj)));intro Sj _;apply ab 4;refine Qq 2 (Cm rfl rfl rfl) ?_;apply kp 1 [2];exact aw rfl rfl (aP (ahf Sj ha))
theorem am0(x:bn)(p:l6)(W:World)(hx:kD W x p)(fx:x.eT):Calls prog 225 #[nm x p] W (Hr.aN W (nm (kW x) (uy x p))):=by
 obtain⟨FX,FY,FZ,Jb⟩:=id fx;apply Ej 2 func225 ntmps225;refine Nw 0 fun b1=>?_;refine Nw 8 fun b2=>?_;apply Sd 0 7;intro _ g7;apply ab 6;apply kp 7 [1,2,12];exact cx rfl oZ _ .nil (by rw [WB (by unfold ff;omega)];rfl);intro _ g7;apply ab 2;refine Qq 3 (Qc rfl fun w _ _=>aao _ w) ?_;apply kp 0 [1,2,12];apply Cd 0;intros;apply ab 6;exact cx rfl oZ _ .nil (by rw [WB (by unfold ff;omega)];rfl);intros;apply ab 9;refine Qq 0 (bO rfl vZ (amZ)) ?_;refine Nw 2 fun b3=>?_;apply kp 7 [1,2,3];apply Cd 0;intros;apply ab 6;apply kp 7 [1,2,3];apply Cd 0;intros;apply ab 3;refine Qq 3 (Qc rfl fun w _ _=>aax x.n.eX w Jb) ?_;apply kp 6 [2,3];exact cx rfl oZ _ .nil (by rw [ahb  oM];rfl);intro Jc _;apply ab 6;apply kp 1 [2];exact cx rfl oZ _ .nil (by rw [ahd Jc];rfl);intro nA _;apply ab 8;refine lU rfl (yu.2  oM) ?_;apply ab 3;refine Qq 3 (Qc rfl fun w _ _=>aax x.n.eX w Jb) ?_;apply kp 6 [2,3];exact cx rfl oZ _ .nil (by rw [ahc nA];rfl)
theorem Sk(a b:Int)(W:World):Calls prog 129 #[.agg #[Iv a,Iv b]] W (Hr.aN W (Iv (if fU a b then 0 else 17))):=by
 apply Ej 2 func129 ntmps129;refine Nw 9 fun b1=>?_;apply Sd 0 6;intro _ g6;apply ab 15;apply kp 6 [2,20];exact aw rfl rfl (aP (aD (by unfold fU;omega)).symm);intro _ g6;apply Sd 5 11;intro _ nB;apply ab 10;apply kp 6 [2,20];exact aw rfl rfl (aP (aD (by unfold fU;omega)).symm);intro _ nB;apply Sd 5 16;intro _ cK;apply ab 5;apply kp 6 [2,20];exact aw rfl rfl (aP (aD (by unfold fU;omega)).symm);intro _ cK;apply ab 5;apply kp 0 [2,20];apply Cd 0;intros;apply ab 5;exact aw rfl rfl (aP (aD (by unfold fU;omega)).symm);intros;apply ab 6;exact aw rfl rfl (aP (aG (by unfold fU;omega)).symm)
theorem F0(x:bn)(p:l6)(W:World)(hx:kD W x p)(fx:x.eT):Calls prog 153 #[nm x p] W (Hr.aN W (Iv (gH x))):=by
 obtain⟨FX,FY,FZ,Jb⟩:=id fx;apply Ej 2 func153 ntmps153;refine Nw 4 fun b1=>?_;apply Dd 3 [0,1,2,3,4,5,6,7,208,209,210];refine Dq 3 rfl (Qc rfl fun w _ _=>iM _ _ w) ?_;refine Dq 0 rfl (Qc rfl fun w _ _=>iM _ _ w) ?_;refine Dt rfl (ey rfl rfl rfl zU zI pZ rfl  oM) ?_;rintro Jd-;refine Dt rfl (.dJ rfl rfl (Qc rfl fun w _ hm=>wh [if x.n.bU<0∨99<x.n.bU then 2 else 0,if x.n.aL<0∨1073741824<x.n.aL then 2 else 0] (some ⟨Jd,0,none⟩) 2 w (bQ (ae.ak.holds hm)) sM)) ?_;rintro- -;refine Dt rfl (.dJ rfl rfl (lV rfl rfl)) ?_;rintro- -;apply ab 1;apply kp 1 [1,2,3];by_cases hid:lF x.n;refine dI (az (.cons (s:=1) rfl (.cons (s:=2) rfl (.aH (s:=3) (v':=Iv 0) rfl (aP ((WE x.n).trans (aG hid))) .nil))) .refl) ?_;apply ab 11;refine Qq 2 (Qc rfl fun w _ _=>aao _ w) ?_;apply kp 0 [1,2,21];apply Cd 0;intros;apply ab 5;exact aw rfl rfl (by rw [ahu hid  oM]);intros;apply ab 3;apply Dd 2 [0,1,2,3,4];refine Dq 0 rfl (Qc rfl fun w hk _=>am0 x p w (hx.aC hk) fx) ?_;refine Dq 2 rfl (Qc rfl fun w hk _=>amY x (kW x) p (uy x p) w (hx.aC hk) (hx.aC hk).PB fx fx.PB) ?_;apply kp 0 [1,2,26];apply Cd 0;intro rL _;apply ab 5;exact aw rfl rfl (by rw [ahv hid  oM rL]);intro rL _;apply ab 3;by_cases hv:fU x.n.fo x.n.jt;apply Sd 5 30;intro _ zF;apply ab 2;refine Qq 3 (Qc rfl fun w _ _=>Sk x.n.fo x.n.jt w) ?_;refine eB rfl (by rw [aG hv];rfl) ?_;apply ab 8;apply kp 0 [1,2,38];apply Cd 0;intro tJ _;apply ab 1;apply Dd 2 [0,1,2,3,4,5,6,7,8,209,210,211];refine Dq 2 rfl (Qc rfl fun w hk _=>Sc x.hs p.HA p.hc w (hx.h.aC hk) FX) ?_;refine Dq 2 rfl (Qc rfl fun w hk _=>Se x.gs p.GA p.gc w (hx.g.aC hk) FY) ?_;refine Dq 0 rfl (Qc rfl fun w hk _=>Sg x.ls p.LA p.lc w (hx.l.aC hk) FZ) ?_;refine Dt rfl (ey rfl rfl rfl zU zI pZ rfl  oM) ?_;rintro F1-;refine Dt rfl (.dJ rfl rfl (Qc rfl fun w _ hm=>wh [nQ x.hs,vz x.gs,pJ x.ls] (some ⟨F1,0,none⟩) 3 w (bQ (ae.ak.holds hm)) sM)) ?_;rintro- -;refine Dt rfl (.dJ rfl rfl (lV rfl rfl)) ?_;rintro- -;apply ab 1;apply kp 1 [1,2,4];by_cases hp:np x=0;refine dI (az (.cons (s:=1) rfl (.cons (s:=2) rfl (.aH (s:=4) (v':=Iv (np x)) rfl (aP (EY x)) .nil))) .refl) ?_;apply ab 4;refine eB rfl (by rw [hp];rfl) ?_;apply ab 2;apply Dd 2 [0,1,2,3,4,5,6,7,8,9,10,11,12,13,14,215,216,217];refine Dq 2 rfl (Qc rfl fun w _ _=>iM _ _ w) ?_;refine Dq 2 rfl (Qc rfl fun w _ _=>iM _ _ w) ?_;refine Dq 2 rfl (Qc rfl fun w _ _=>iM _ _ w) ?_;refine Dq 2 rfl (Qc rfl fun w _ _=>iM _ _ w) ?_;refine Dq 0 rfl (Qc rfl fun w _ _=>iM _ _ w) ?_;refine Dt rfl (ey rfl rfl rfl zU zI pZ rfl  oM) ?_;rintro rN-;refine Dt rfl (.dJ rfl rfl (Qc rfl fun w _ hm=>wh [if x.n.eX<0∨31<x.n.eX then 2 else 0,if x.n.dT<0∨4<x.n.dT then 2 else 0,if x.n.fL<0∨9<x.n.fL then 2 else 0,if x.n.jd<0∨2<x.n.jd then 2 else 0,if x.n.jK<0∨2<x.n.jK then 2 else 0] (some ⟨rN,0,none⟩) 5 w (bQ (ae.ak.holds hm)) sM)) ?_;rintro- -;refine Dt rfl (.dJ rfl rfl (lV rfl rfl)) ?_;rintro- -;apply ab 1;apply kp 1 [2];exact aw rfl rfl (by rw [AK hid  oM rL (fun h=>h.2 hv) (fun h=>h.2 hp)];exact aP (EX x.n));refine dI (az (.cons (s:=1) rfl (.cons (s:=2) rfl (.aH (s:=4) (v':=Iv (np x)) rfl (aP (EY x)) .nil))) .refl) ?_;apply ab 4;refine lU rfl (yu.2 hp) ?_;apply ab 5;apply kp 1 [1,2];exact aw rfl rfl (by rw [PH hid  oM rL (fun h=>h.2 hv) ⟨tJ,hp⟩]);intro tJ _;apply ab 2;apply Dd 2 [0,1,2,3,4,5,6,7,8,9,10,11,12,13,14,215,216,217];refine Dq 2 rfl (Qc rfl fun w _ _=>iM _ _ w) ?_;refine Dq 2 rfl (Qc rfl fun w _ _=>iM _ _ w) ?_;refine Dq 2 rfl (Qc rfl fun w _ _=>iM _ _ w) ?_;refine Dq 2 rfl (Qc rfl fun w _ _=>iM _ _ w) ?_;refine Dq 0 rfl (Qc rfl fun w _ _=>iM _ _ w) ?_;refine Dt rfl (ey rfl rfl rfl zU zI pZ rfl  oM) ?_;rintro rN-;refine Dt rfl (.dJ rfl rfl (Qc rfl fun w _ hm=>wh [if x.n.eX<0∨31<x.n.eX then 2 else 0,if x.n.dT<0∨4<x.n.dT then 2 else 0,if x.n.fL<0∨9<x.n.fL then 2 else 0,if x.n.jd<0∨2<x.n.jd then 2 else 0,if x.n.jK<0∨2<x.n.jK then 2 else 0] (some ⟨rN,0,none⟩) 5 w (bQ (ae.ak.holds hm)) sM)) ?_;rintro- -;refine Dt rfl (.dJ rfl rfl (lV rfl rfl)) ?_;rintro- -;apply ab 1;apply kp 1 [2];exact aw rfl rfl (by rw [AK hid  oM rL (fun h=>h.2 hv) (fun h=>tJ h.1)];exact aP (EX x.n));intro tK zF;apply ab 15;apply kp 0 [1,2,38];apply Cd 0;intro tJ _;apply ab 1;apply Dd 2 [0,1,2,3,4,5,6,7,8,209,210,211];refine Dq 2 rfl (Qc rfl fun w hk _=>Sc x.hs p.HA p.hc w (hx.h.aC hk) FX) ?_;refine Dq 2 rfl (Qc rfl fun w hk _=>Se x.gs p.GA p.gc w (hx.g.aC hk) FY) ?_;refine Dq 0 rfl (Qc rfl fun w hk _=>Sg x.ls p.LA p.lc w (hx.l.aC hk) FZ) ?_;refine Dt rfl (ey rfl rfl rfl zU zI pZ rfl  oM) ?_;rintro F1-;refine Dt rfl (.dJ rfl rfl (Qc rfl fun w _ hm=>wh [nQ x.hs,vz x.gs,pJ x.ls] (some ⟨F1,0,none⟩) 3 w (bQ (ae.ak.holds hm)) sM)) ?_;rintro- -;refine Dt rfl (.dJ rfl rfl (lV rfl rfl)) ?_;rintro- -;apply ab 1;apply kp 1 [1,2,4];by_cases hp:np x=0;refine dI (az (.cons (s:=1) rfl (.cons (s:=2) rfl (.aH (s:=4) (v':=Iv (np x)) rfl (aP (EY x)) .nil))) .refl) ?_;apply ab 4;refine eB rfl (by rw [hp];rfl) ?_;apply ab 2;apply Dd 2 [0,1,2,3,4,5,6,7,8,9,10,11,12,13,14,215,216,217];refine Dq 2 rfl (Qc rfl fun w _ _=>iM _ _ w) ?_;refine Dq 2 rfl (Qc rfl fun w _ _=>iM _ _ w) ?_;refine Dq 2 rfl (Qc rfl fun w _ _=>iM _ _ w) ?_;refine Dq 2 rfl (Qc rfl fun w _ _=>iM _ _ w) ?_;refine Dq 0 rfl (Qc rfl fun w _ _=>iM _ _ w) ?_;refine Dt rfl (ey rfl rfl rfl zU zI pZ rfl  oM) ?_;rintro rN-;refine Dt rfl (.dJ rfl rfl (Qc rfl fun w _ hm=>wh [if x.n.eX<0∨31<x.n.eX then 2 else 0,if x.n.dT<0∨4<x.n.dT then 2 else 0,if x.n.fL<0∨9<x.n.fL then 2 else 0,if x.n.jd<0∨2<x.n.jd then 2 else 0,if x.n.jK<0∨2<x.n.jK then 2 else 0] (some ⟨rN,0,none⟩) 5 w (bQ (ae.ak.holds hm)) sM)) ?_;rintro- -;refine Dt rfl (.dJ rfl rfl (lV rfl rfl)) ?_;rintro- -;apply ab 1;apply kp 1 [2];exact aw rfl rfl (by rw [AK hid  oM rL (fun h=>h.1 tK) (fun h=>h.2 hp)];exact aP (EX x.n));refine dI (az (.cons (s:=1) rfl (.cons (s:=2) rfl (.aH (s:=4) (v':=Iv (np x)) rfl (aP (EY x)) .nil))) .refl) ?_;apply ab 4;refine lU rfl (yu.2 hp) ?_;apply ab 5;apply kp 1 [1,2];exact aw rfl rfl (by rw [PH hid  oM rL (fun h=>h.1 tK) ⟨tJ,hp⟩]);intro tJ _;apply ab 2;apply Dd 2 [0,1,2,3,4,5,6,7,8,9,10,11,12,13,14,215,216,217];refine Dq 2 rfl (Qc rfl fun w _ _=>iM _ _ w) ?_;refine Dq 2 rfl (Qc rfl fun w _ _=>iM _ _ w) ?_;refine Dq 2 rfl (Qc rfl fun w _ _=>iM _ _ w) ?_;refine Dq 2 rfl (Qc rfl fun w _ _=>iM _ _ w) ?_;refine Dq 0 rfl (Qc rfl fun w _ _=>iM _ _ w) ?_;refine Dt rfl (ey rfl rfl rfl zU zI pZ rfl  oM) ?_;rintro rN-;refine Dt rfl (.dJ rfl rfl (Qc rfl fun w _ hm=>wh [if x.n.eX<0∨31<x.n.eX then 2 else 0,if x.n.dT<0∨4<x.n.dT then 2 else 0,if x.n.fL<0∨9<x.n.fL then 2 else 0,if x.n.jd<0∨2<x.n.jd then 2 else 0,if x.n.jK<0∨2<x.n.jK then 2 else 0] (some ⟨rN,0,none⟩) 5 w (bQ (ae.ak.holds hm)) sM)) ?_;rintro- -;refine Dt rfl (.dJ rfl rfl (lV rfl rfl)) ?_;rintro- -;apply ab 1;apply kp 1 [2];exact aw rfl rfl (by rw [AK hid  oM rL (fun h=>h.1 tK) (fun h=>tJ h.1)];exact aP (EX x.n));apply Sd 5 30;intro tK zF;apply ab 2;refine Qq 3 (Qc rfl fun w _ _=>Sk x.n.fo x.n.jt w) ?_;apply kp 0 [1,2,35];refine lU rfl (by rw [aD hv];rfl) ?_;apply ab 5;exact aw rfl rfl (by rw [ahw hid  oM rL ⟨tK,hv⟩]);intro tK zF;apply ab 15;apply kp 0 [1,2,38];apply Cd 0;intro tJ _;apply ab 1;apply Dd 2 [0,1,2,3,4,5,6,7,8,209,210,211];refine Dq 2 rfl (Qc rfl fun w hk _=>Sc x.hs p.HA p.hc w (hx.h.aC hk) FX) ?_;refine Dq 2 rfl (Qc rfl fun w hk _=>Se x.gs p.GA p.gc w (hx.g.aC hk) FY) ?_;refine Dq 0 rfl (Qc rfl fun w hk _=>Sg x.ls p.LA p.lc w (hx.l.aC hk) FZ) ?_;refine Dt rfl (ey rfl rfl rfl zU zI pZ rfl  oM) ?_;rintro F1-;refine Dt rfl (.dJ rfl rfl (Qc rfl fun w _ hm=>wh [nQ x.hs,vz x.gs,pJ x.ls] (some ⟨F1,0,none⟩) 3 w (bQ (ae.ak.holds hm)) sM)) ?_;rintro- -;refine Dt rfl (.dJ rfl rfl (lV rfl rfl)) ?_;rintro- -;apply ab 1;apply kp 1 [1,2,4];by_cases hp:np x=0;refine dI (az (.cons (s:=1) rfl (.cons (s:=2) rfl (.aH (s:=4) (v':=Iv (np x)) rfl (aP (EY x)) .nil))) .refl) ?_;apply ab 4;refine eB rfl (by rw [hp];rfl) ?_;apply ab 2;apply Dd 2 [0,1,2,3,4,5,6,7,8,9,10,11,12,13,14,215,216,217];refine Dq 2 rfl (Qc rfl fun w _ _=>iM _ _ w) ?_;refine Dq 2 rfl (Qc rfl fun w _ _=>iM _ _ w) ?_;refine Dq 2 rfl (Qc rfl fun w _ _=>iM _ _ w) ?_;refine Dq 2 rfl (Qc rfl fun w _ _=>iM _ _ w) ?_;refine Dq 0 rfl (Qc rfl fun w _ _=>iM _ _ w) ?_;refine Dt rfl (ey rfl rfl rfl zU zI pZ rfl  oM) ?_;rintro rN-;refine Dt rfl (.dJ rfl rfl (Qc rfl fun w _ hm=>wh [if x.n.eX<0∨31<x.n.eX then 2 else 0,if x.n.dT<0∨4<x.n.dT then 2 else 0,if x.n.fL<0∨9<x.n.fL then 2 else 0,if x.n.jd<0∨2<x.n.jd then 2 else 0,if x.n.jK<0∨2<x.n.jK then 2 else 0] (some ⟨rN,0,none⟩) 5 w (bQ (ae.ak.holds hm)) sM)) ?_;rintro- -;refine Dt rfl (.dJ rfl rfl (lV rfl rfl)) ?_;rintro- -;apply ab 1;apply kp 1 [2];exact aw rfl rfl (by rw [AK hid  oM rL (fun h=>h.1 tK) (fun h=>h.2 hp)];exact aP (EX x.n));refine dI (az (.cons (s:=1) rfl (.cons (s:=2) rfl (.aH (s:=4) (v':=Iv (np x)) rfl (aP (EY x)) .nil))) .refl) ?_;apply ab 4;refine lU rfl (yu.2 hp) ?_;apply ab 5;apply kp 1 [1,2];exact aw rfl rfl (by rw [PH hid  oM rL (fun h=>h.1 tK) ⟨tJ,hp⟩]);intro tJ _;apply ab 2;apply Dd 2 [0,1,2,3,4,5,6,7,8,9,10,11,12,13,14,215,216,217];refine Dq 2 rfl (Qc rfl fun w _ _=>iM _ _ w) ?_;refine Dq 2 rfl (Qc rfl fun w _ _=>iM _ _ w) ?_;refine Dq 2 rfl (Qc rfl fun w _ _=>iM _ _ w) ?_;refine Dq 2 rfl (Qc rfl fun w _ _=>iM _ _ w) ?_;refine Dq 0 rfl (Qc rfl fun w _ _=>iM _ _ w) ?_;refine Dt rfl (ey rfl rfl rfl zU zI pZ rfl  oM) ?_;rintro rN-;refine Dt rfl (.dJ rfl rfl (Qc rfl fun w _ hm=>wh [if x.n.eX<0∨31<x.n.eX then 2 else 0,if x.n.dT<0∨4<x.n.dT then 2 else 0,if x.n.fL<0∨9<x.n.fL then 2 else 0,if x.n.jd<0∨2<x.n.jd then 2 else 0,if x.n.jK<0∨2<x.n.jK then 2 else 0] (some ⟨rN,0,none⟩) 5 w (bQ (ae.ak.holds hm)) sM)) ?_;rintro- -;refine Dt rfl (.dJ rfl rfl (lV rfl rfl)) ?_;rintro- -;apply ab 1;apply kp 1 [2];exact aw rfl rfl (by rw [AK hid  oM rL (fun h=>h.1 tK) (fun h=>tJ h.1)];exact aP (EX x.n));refine dI (az (.cons (s:=1) rfl (.cons (s:=2) rfl (.aH (s:=3) (v':=Iv 2) rfl (aP ((WE x.n).trans (aD hid))) .nil))) .refl) ?_;apply ab 10;apply kp 1 [1,2];exact aw rfl rfl (by rw [WD hid])
namespace Hr
section
variable{P:Program}{fn:Func}{R:Ending→World→Prop}{X:Nat→Prop}{W:World}{n:Nat}{k:List K}{S:St}{ai:List (Nat×Value)}{mem:List an}{M0:List an}{aq:Array Oper}{aO:Array Bool}{m:Nat}{dz:List Nat}{c:Bool}
theorem zH{i d:Nat}{o:Oper}{v:Value}(hi:aq[i]?=some o)(hr:((Region.ready .any aq aO).contains i&&Region.free .any aq aO i)=true)(hw:dd aq ai o true)(hd:o.dst=some d)(hdn:Nat.blt d n=true)(h:∀W':World,Q1 P nX W' n ⟨ai, []⟩ o v)
  (hk:fV P fn R X W n k M0 dz c aq m (aO.setIfInBounds i true) ⟨(d,v)::ai,mem⟩):fV P fn R X W n k M0 dz c aq (m+1) aO ⟨ai,mem⟩:=by
 intro cU b_ a w hs hC
 simp only [eN]at hr
 have jn:i∈Region.ready .any aq aO:=by simpa using hr.1
 have hy:o7 P aq (fun _=>True) o v a:= .inl ⟨hw.eq hs,fun w' _=>h w' a w' ⟨hs.size,hs.defers,hs.ai,bb.refl nX w',Mem.nil⟩⟩
 refine fJ.first (C:=fun _=>True) (v:=v) hi (GV cU) (fun _ _ _ _=>trivial) (fun w1 w' hk _ h=>h.up hk) (fun _ _ _ _ _ _ _ _ _=>trivial) _ _ _ _ b_ (GW hi hr.2) jn hy trivial ?_
 have:=hk cU (b_.step jn) (a.put (some d) v) w (hs.put hdn v) hC
 rw [hd]
 exact this
theorem anI{P:Program}{o:Oper}{t:TypeId}{x y z:Operand}(ho:o.op= .mapUpdate t x y z):o_ P o:= .Xb (by rw [ho];intro c h;cases h) fun ρ=>⟨_,by simp only [execOp,ho];rfl⟩
theorem aaC{size f:Nat}{vs:List Value}(hf:f+vs.length≤size):∀(ls:List (List Value)) (q:Nat) (cs:List Value),(∀z∈ls,z.length=size)→ls[q]?=some cs→
  (ls.set q (cs.take f++vs++cs.drop (f+vs.length))).flatten=ls.flatten.take (q*size+f)++vs++ls.flatten.drop (q*size+f+vs.length)
 | [],q,cs,_,h=>by simp at h
 |z::ls,0,cs,hz,h=>by
  simp only [Kv,Option.some.injEq]at h
  subst h
  have hl:=hz z sM
  simp only [List.set_cons_zero,uc,Nat.zero_mul,ub]
  rw [Kz  oM,List.drop_append_of_le_length  oM]
  simp [cj]
 |z::ls,q+1,cs,hz,h=>by
  simp only [List.getElem?_cons_succ]at h
  have hl:=hz z sM
  have ih:=aaC hf ls q cs (fun x hx=>hz x (by simp [hx])) h
  have e1:(q+1)*size+f=z.length+(q*size+f):=by rw [GQ];omega
  simp only [List.set_cons_succ,uc]
  rw [ih,e1,List.take_length_add_append,BY z.length,Oq]
  simp [cj]
theorem M_{X:Nat→Prop}{W:World}{P:Program}{n:Nat}{ai:List (Nat×Value)}{mem:List an}{o:Oper}{t e:TypeId}{x y:Operand}{A:Option Addr}{m c size q f r:Nat}{ls:List (List Value)}{l:List an}{cs:List Value}{v:Value}(ho:o.op= .store t x y)(hd:o.dst=none)(fF:Sz P t r)(hx:ev ai x=some (.pointer (some (((bN A).add (q*size)).add f))))(hy:ev ai y=some v)
  (hv:Ar v=false)(hl:(dK v).length=r)(h1:ja (dK v)=true)(hs:ae mem (.ag e size A m c ls) l)(hq:q<m)(hf:f+r≤size)(pR:0<r)(hc:ls[q]?=some cs):
  H1 P X W n ⟨ai,mem⟩ o (fun _:Unit=>True) (fun _=>⟨ai,.ag e size A m c (ls.set q (cs.take f++dK v++cs.drop (f+(dK v).length)))::l⟩):=by
 subst hl
 intro a w cz k Q hk
 have hh:=hs.holds cz.mem
 obtain⟨g,eO,rfl,hg,h3,h4,h5,h6⟩:=EJ hh  oM
 obtain⟨_,fe,hz⟩:=hh
 have Vh:q*size+size≤m*size:=by rw [←GQ];exact sQ _ hq
 have Av:m*size≤c*size:=sQ _ h3
 have cG:=GP P g (q*size+f) e (dK v) 0 eO w hg  oM (As h1)
 have fG:(execOp a.eval o).run P w= .ok .skip (w.setRow g (eO.toList.take (q*size+f)++dK v++eO.toList.drop (q*size+f+(dK v).length)).toArray):=by
  have Hn:((bN (some ⟨g,0,none⟩)).add (q*size)).add f=⟨g,q*size+f,none⟩:=by rw [An];simp [bN,vf]
  simp only [execOp,ho,cz.eval hx,cz.eval hy,Instr.storeAt,Instr.sureAddr,storeVar,Hn,EI hv]
  simp [fF.run,cG]
 refine Hl fG ?_
 rw [hd]
 refine hk () _ _ trivial ?_
 have b_:cs.length=size:=hz cs (B3 hc)
 have hw:=Hm (ls:=ls) (fH:=ls.set q (cs.take f++dK v++cs.drop (f+(dK v).length))) (vs:=dK v) hg h3 h4 h5 h6  oM (by simpa using fe) (fun z mX=>by
  rcases B0 mX with h|rfl
  ·exact hz z h
  ·simp only [aT,eM,kQ];omega) (aaC hf ls q cs hz hc)
 have hm:Mem (fun k=>k=g) w [.ag e size (some ⟨g,0,none⟩) m c (ls.set q (cs.take f++dK v++cs.drop (f+(dK v).length)))] _:=Mem.nil.cons hw (fun k hk=> .inr (by simpa [an.at,eq_comm]using hk)) sM
 exact cz.change (Y:=fun k=>k=g) (cs:= [.ag e size (some ⟨g,0,none⟩) m c ls]) (ls:=l) hs.aK EH (fun k hk=>⟨.ag e size (some ⟨g,0,none⟩) m c ls,by simp,by simp [hk,an.at]⟩) hm
end
end Hr
theorem Jv{cJ cX:Int}:prog.built 48 [(0,Iv cJ),(1,Iv cX)]=some #[Iv cJ,Iv cX]:=by kernel_rfl
theorem SV:prog.built 66 []=some #[Iv 0,Iv 0]:=by kernel_rfl
theorem Ga{cJ cX:Int}:prog.built 66 [(0,Iv cJ),(1,Iv cX)]=some #[Iv cJ,Iv cX]:=by kernel_rfl
theorem Ns{cJ cX:Int}:prog.built 78 [(0,Iv cJ),(1,Iv cX)]=some #[Iv cJ,Iv cX,Iv 0,Iv 0,Iv 0,Iv 0,Iv 0,Iv 0]:=by kernel_rfl
theorem aoG{cJ cX:Int}:prog.built 76 [(0,Iv cJ),(1,Iv cX)]=some #[Iv cJ,Iv cX,Iv 0,Iv 0,Iv 0,Iv 0]:=by kernel_rfl
theorem aoH{cJ cX oe og wu wv BF BG:Int}:prog.built 78 [(0,Iv cJ),(1,Iv cX),(2,.agg #[Iv oe,Iv og,Iv wu,Iv wv,Iv BF,Iv BG])]=some #[Iv cJ,Iv cX,Iv oe,Iv og,Iv wu,Iv wv,Iv BF,Iv BG]:=by kernel_rfl
theorem nD(n:Int)(b:Nat)(W:World)(hm:Mem (bg [.aj b 62 [(0,Iv n)]]) W [.aj b 62 [(0,Iv n)]] W)(hn:0≤n∧n≤1000000):Calls prog 14 #[.pointer (some ⟨b,0,none⟩)] W (bJ W (bg [.aj b 62 [(0,Iv n)]]) (fun v m=>v=bu.val ⟨1,n+1⟩∧m= [.aj b 62 [(0,Iv (n+1))]])):=by
 refine Ea (X:=_) func14 ntmps14 hm ?_;apply ab 2;refine Nw 18 fun b2=>?_;refine Qq 2 (bO rfl vZ (Jv)) ?_;apply kp 1 [2];exact cx rfl oZ _ (.cons (iZ 1) (.aj (eL [0])) .nil) ⟨rfl,rfl⟩
theorem x2(n:Int)(W:World)(h0:0≤n):Calls prog 15 #[.int .u8 n] W (Hr.aN W ((aa ie (n%6).toNat).val)):=by
 apply Ej 2 func15 ntmps15;refine Nw 3 fun b2=>?_;refine Qq 0 (bO rfl vZ (SV)) ?_;refine Qq 0 (bO rfl vZ (SV)) ?_;refine Qq 0 (bO rfl vZ (Ga)) ?_;refine Qq 0 (bO rfl vZ (Ga)) ?_;refine Qq 0 (bO rfl vZ (Ga)) ?_;refine Qq 0 (bO rfl vZ (Ga)) ?_;refine Nw 1 fun b9=>?_;refine Qq 0 (dL rfl rfl rfl  oM) ?_;refine Qq 0 (Qi ((n%6).toNat) rfl (.ag sZ)) ?_;refine Qq 2 (Qe rfl (.ag sZ) (ahz  oM)) ?_;apply kp 1 [2];exact cx rfl oZ _ .nil rfl
theorem abb(n:Int)(W:World)(h0:0≤n):Calls prog 38 #[.int .u8 n] W (Hr.aN W ((aa rj (n%5).toNat).val)):=by
 apply Ej 2 func38 ntmps38;refine Nw 3 fun b2=>?_;refine Qq 0 (bO rfl vZ (Ns)) ?_;refine Qq 0 (bO rfl vZ (Ns)) ?_;refine Qq 0 (bO rfl vZ (Ns)) ?_;refine Qq 0 (bO rfl vZ (Ns)) ?_;refine Qq 0 (bO rfl vZ (aoG)) ?_;refine Qq 0 (bO rfl vZ (aoH)) ?_;refine Nw 1 fun b9=>?_;refine Qq 0 (dL rfl rfl rfl  oM) ?_;refine Qq 0 (Qi ((n%5).toNat) rfl (.ag sZ)) ?_;refine Qq 2 (Qe rfl (.ag sZ) (ahA  oM)) ?_;apply kp 1 [2];exact cx rfl oZ _ .nil rfl
theorem abc:Hr.i_ prog 76 6:=⟨fun w=>by simp [isAgg,dM underlying76],Hr.Sz.of (by kernel_rfl)⟩
theorem aoI:prog.built 76 []=some #[Iv 0,Iv 0,Iv 0,Iv 0,Iv 0,Iv 0]:=by kernel_rfl
theorem aoJ:prog.eqGuardType prog.depth 76=false:=by kernel_rfl
theorem abd:prog.cellsOf 3=1:=by kernel_rfl
theorem aoK{a0 a1 a2 a3 a4 a5 b0 b1 b2 b3 b4 b5:Int}(w:World):(Op.equalIn 10000 76 (.agg #[Iv a0,Iv a1,Iv a2,Iv a3,Iv a4,Iv a5]) (.agg #[Iv b0,Iv b1,Iv b2,Iv b3,Iv b4,Iv b5])).run prog w= .ok (a0==b0&&(a1==b1&&(a2==b2&&(a3==b3&&(a4==b4&&(a5==b5)))))) w:=by
 obtain⟨i,hi,-⟩:=Bt;rw [run_equalIn_array w 9999 _ _ underlying76 hi,abd,show List.range 6= [0,1,2,3,4,5]from rfl];exact w8 (uB (cQ zO rfl) (cQ zO rfl) (fR w 9998 3 .i64 .i64 a0 b0 cr) (uB (cQ zO rfl) (cQ zO rfl) (fR w 9998 3 .i64 .i64 a1 b1 cr) (uB (cQ zO rfl) (cQ zO rfl) (fR w 9998 3 .i64 .i64 a2 b2 cr) (uB (cQ zO rfl) (cQ zO rfl) (fR w 9998 3 .i64 .i64 a3 b3 cr) (uB (cQ zO rfl) (cQ zO rfl) (fR w 9998 3 .i64 .i64 a4 b4 cr) (uB (cQ zO rfl) (cQ zO rfl) (fR w 9998 3 .i64 .i64 a5 b5 cr) WV)))))) (by simp only [iP,w9])
theorem aoL(m:je)(W:World)(hu:1≤m.nR):Calls prog 207 #[m.val] W (Hr.aN W (Iv (1935360/m.nR))):=by
 apply Ej 2 func207 ntmps207;refine Nw 6 fun b1=>?_;refine Qq 2 (Aq rfl rfl rfl  oM) ?_;apply kp 1 [2];exact aw rfl rfl rfl
theorem aoM(m:je)(W:World)(hu:1≤m.nR)(hc:1≤m.ju∧m.ju≤64):Calls prog 128 #[m.val] W (Hr.aN W (Iv m.ln)):=by
 have hd:0≤1935360/m.nR∧1935360/m.nR≤1935360:=⟨Kn (by decide)  oM,Ko _ (by decide)⟩;have dj:=ahB hc hd;apply Ej 2 func128 ntmps128;refine Nw 3 fun b1=>?_;apply Dd 3 [0,1,2,3,4,5];refine Dq 3 rfl (Qc rfl fun w _ _=>aoL m w hu) ?_;apply kp 1 [2];exact aw rfl rfl rfl
theorem aoN(m:je)(W:World):Calls prog 206 #[m.val] W (Hr.aN W (.bool (decide (E0 m)))):=by
 apply Ej 2 func206 ntmps206;refine Nw 7 fun b1=>?_;refine Qq 0 (bO rfl vZ (aoI)) ?_;refine Qq 1 (xb rfl rfl rfl aoJ (fun w=>aoK w)) ?_;apply kp 0 [1,2,10];apply Cd 0;intro _ mN;have lX:vD m:=ahC mN;apply ab 5;exact aw rfl rfl (ay Value.bool (dC (.inl lX)).symm);intro _ mN;have lX:¬vD m:=ahD mN;apply ab 14;apply Ks 0 [13,3,4,1,2,12] [0];refine OV (ι:=Nat) (fun k=>k≤6∧∀j,j<k→¬rn m.gs j) (fun k=>Iv k) (fun k=>Iv (uz m.gs k)) (fun k=>Iv (xv m.gs k:Int)) (fun k=>6-k) 0 (by(try dsimp only);exact⟨oM,fun j hj=>absurd hj  oM⟩) rfl rfl rfl ?_;rintro k hq;(try dsimp only at hq);obtain⟨hk,fI⟩:=hq;apply Cd 5;intros;have Jw:k<6:=oM
 have hgc:=WH m.gs k;have VG:=WI k fI;apply ab 6;refine Qq 3 (KS (q:=k) rfl underlying76 zO rfl rfl rfl  oM (ahE  oM)) ?_;apply kp 6 [1,2,3,4,5,6,12,13];apply Sd 0 20;intro _ rQ;apply ab 14;apply kp 6 [1,2,3,4,6,12,13,17];exact aw rfl rfl (ay Value.bool (cw (fun h=>h.elim lX (fun h=>h.1 k Jw (by unfold rn;omega)))).symm);intro _ rQ;apply Sd 4 24;intro _ qb;apply ab 10;apply kp 6 [1,2,3,4,6,12,13,17];exact aw rfl rfl (ay Value.bool (cw (fun h=>h.elim lX (fun h=>h.1 k Jw (by unfold rn;omega)))).symm);intro _ qb;apply Sd 3 27;intro _ kK;apply ab 7;apply kp 0 [1,2,3,4,6,12,13,17];apply Cd 0;intros;apply ab 5;exact aw rfl rfl (ay Value.bool (cw (fun h=>h.elim lX (fun h=>h.1 k Jw (by unfold rn;omega)))).symm);intros;apply ab 6;refine lU rfl (dC  oM) ?_;apply ab 9;apply kp 6 [1,2,3,4,12,13];refine Ag (k+1) ?_ (hs:=az (.aH rfl (aP  oM) (.aH rfl (aP (by rw [uz,aG  oM])) (.aH rfl (aP (by rw [xv,aG  oM];omega)) nZ))) mZ);exact⟨oM,WJ fI (by unfold rn;omega)⟩;intro _ kK;apply ab 22;apply kp 0 [1,2,3,4,12,13];refine Ag (k+1) ?_ (hs:=az (.aH rfl (aP  oM) (.aH rfl (aP (by rw [uz,aD  oM])) (.aH rfl (aP (by rw [xv,aD  oM])) nZ))) mZ);exact⟨oM,WJ fI (by unfold rn;omega)⟩;intros;apply ab 1;apply kp 7 [1,2,3,4];apply Sd 0 46;intro Jy tQ;apply ab 5;apply kp 1 [2];exact aw rfl rfl (by rw [show k=6 from oM]at fI Jy⊢;exact ay Value.bool (ahF lX fI Jy));intro Jy tQ;apply ab 5;apply kp 1 [2];exact aw rfl rfl (by rw [show k=6 from oM]at fI Jy;exact ay Value.bool (ahG lX Jy))
theorem aoO(m:je)(W:World):Calls prog 127 #[m.val] W (Hr.aN W (Iv (xw m))):=by
 apply Ej 2 func127 ntmps127;refine Nw 10 fun b1=>?_;apply Sd 0 7;intro _ g7;apply ab 6;apply kp 6 [1,2,3];exact aw rfl rfl (aP (by rw [xw,aG  oM]));intro _ g7;apply ab 6;apply kp 0 [1,2,3];apply Cd 0;intros;apply ab 5;exact aw rfl rfl (aP (by rw [xw,aG  oM]));intros;apply Sd 6 16;intro _ cK;apply ab 15;apply kp 6 [1,2,12];exact aw rfl rfl (aP (by rw [xw,aD  oM,aG  oM]));intro _ cK;apply Sd 5 21;intro _ Jz;apply ab 10;apply kp 6 [1,2,12];exact aw rfl rfl (aP (by rw [xw,aD  oM,aG  oM]));intro _ Jz;apply ab 5;refine Qq 4 (Cm rfl rfl rfl) ?_;apply kp 0 [1,2,12];apply Cd 0;intros;apply ab 5;exact aw rfl rfl (aP (by rw [xw,aD  oM,aG  oM]));intros;apply ab 3;refine Qq 3 (Qc rfl fun w _ _=>aoN m w) ?_;apply kp 0 [2,30];apply Cd 0;intro tK _;apply ab 5;exact aw rfl rfl (aP (by rw [xw,aD  oM,aD  oM,aG (by simpa using tK)]));intro tK _;apply ab 7;exact aw rfl rfl (aP (by rw [xw,aD  oM,aD  oM,aD (by simpa using tK)]))
theorem aoP(m:je)(W:World)(DC:Wm m):Calls prog 73 #[m.val] W (Hr.aN W (.tuple #[Iv m.ln,Iv 0])):=by
 apply Ej 2 func73 ntmps73;refine Nw 7 fun b1=>?_;refine Qq 7 (Qc rfl fun w _ _=>aoO m w) ?_;refine eB rfl (by rw [DC.uA];rfl) ?_;apply ab 4;refine Qq 3 (Qc rfl fun w _ _=>aoM m w DC.ln.2.1 ⟨DC.ln.2.2.1,DC.ln.2.2.2.1⟩) ?_;apply kp 1 [2,3];exact fc rfl rfl rfl rfl
theorem zK(m:ao)(W:World)(DC:Wm m.n.met)(h0:m.n.len=0):Calls prog 39 #[m.val] W (Hr.aN W (.tuple #[Iv m.n.met.ln,Iv 0])):=by
 have rD:=DC.ln;apply Ej 2 func39 ntmps39;refine Nw 7 fun b1=>?_;refine Qq 38 (Qc rfl fun w _ _=>aoP m.n.met w DC) ?_;refine Qq 3 (dL rfl rfl rfl  oM) ?_;refine eB rfl (j7.2 (by rcases rD.1 with h|h|h<;>rw [h]<;>decide)) ?_;apply ab 15;apply kp 1 [2,3];exact fc rfl rfl rfl rfl
theorem aoQ{cJ cX fX:Int}:prog.built 147 [(0,Iv cJ),(1,Iv cX),(2,Iv fX)]=some #[Iv cJ,Iv cX,Iv fX]:=by kernel_rfl
theorem aoR(a b:Int)(W:World)(ha:0≤a∧a≤1000000)(hb:1≤b∧b≤1000):Calls prog 291 #[Iv a,Iv b] W (Hr.aN W (.tuple #[Iv (a/b),Iv (a%b)])):=by
 have hmd:=Int.emod_nonneg a (show b≠0 by omega);apply Ej 6 func291 ntmps291;apply Dd 2 [0,1,2,3,4,5,6,7];refine Dq 2 rfl (Aq rfl rfl rfl  oM) ?_;refine Dq 18 rfl (dL rfl rfl rfl  oM) ?_;apply kp 1 [4,5];exact fc rfl rfl rfl rfl
theorem abe(n:Int)(W:World)(hn:2≤n∧n≤127):Calls prog 253 #[Iv n] W (bJ W nX (fun v m=>∃(O:Option Addr) (co:Nat),v= .tuple #[.slice O (dt n).length co,Iv 0]∧m= [.ag 147 3 O (dt n).length co ((dt n).map aZ.enc)])):=by
 apply En 13 func253 ntmps253;refine Qq 1 (dD rfl rfl (cw  oM) rfl) ?_;apply kp 12 [0,2,3,16];refine rM (ar.cM 147 3) ?_;apply Ks 0 [5,4,0,2,3] [0];refine mA (ι:=Nat×(Option Addr)×Nat) (fun gg=>gg.1≤5) (fun gg=>Iv (2-(gg.1:Int))) (fun gg=> .slice gg.2.1 (kF n gg.1).length gg.2.2) (fun gg=> .ag 147 3 gg.2.1 (kF n gg.1).length gg.2.2 ((kF n gg.1).map aZ.enc)) (fun gg=>5-gg.1) (0,none,0) dO rfl rfl .refl ?_;rintro⟨j,O,co⟩ hj;(try dsimp only at hj);refine sW ⟨(5,Iv (2-(j:Int)))::(4,.slice O (kF n j).length co)::_,.ag 147 3 O (kF n j).length co ((kF n j).map aZ.enc)::_⟩ ?_;apply Cd 6;intros;apply ab 8;refine Qq 6 (Qc rfl fun w _ _=>aoR (n-(2-(j:Int))) 12 w  oM oM) ?_;apply kp 2 [0,2,3,4,5,6,7];refine Qq 3 (Qc rfl fun w _ _=>aap w) ?_;apply Ks 0 [29,4,0,2,3,5,6,7,28] [0];refine mA (ι:=Nat×(Option Addr)×Nat) (fun gg=>gg.1≤7) (fun gg=>Iv (gg.1:Int)) (fun gg=> .slice gg.2.1 (kF n j++iS n (2-j) gg.1).length gg.2.2) (fun gg=> .ag 147 3 gg.2.1 (kF n j++iS n (2-j) gg.1).length gg.2.2 ((kF n j++iS n (2-j) gg.1).map aZ.enc)) (fun gg=>7-gg.1) (0,O,co) dO rfl (by rw [iS,iF]) (.ag rfl (by rw [iS,iF]) rfl (by rw [iS,iF])) ?_;rintro⟨k,O,co⟩ hk;(try dsimp only at hk);refine sW ⟨(29,Iv k)::(4,.slice O (kF n j++iS n (2-j) k).length co)::_,.ag 147 3 O (kF n j++iS n (2-j) k).length co ((kF n j++iS n (2-j) k).map aZ.enc)::_⟩ ?_;apply Cd 5;intros;have hk7:k<7:=oM
 have F2:=HV n j;have DE:=PJ n (2-j) k;have hal:(kF n j++iS n (2-(j:Int)) k).length=(kF n j).length+(iS n (2-(j:Int)) k).length:=aT;apply ab 6;refine Qq 9 (KS (q:=k) rfl underlying359 zO rfl rfl rfl  oM (Wq (s:=(k:Int))  oM)) ?_;refine Qq 0 (bO rfl vZ (aoQ)) ?_;refine Nw 2 fun gN=>?_;apply kp 6 [0,2,3,4,5,6,7,9,10,28,29];apply Sd 0 41;intro Jk Jj;apply ab 1;refine Qq 3 (Qc rfl fun w _ _=>R9 (k:Int) (2-(j:Int)) ((n-(2-(j:Int)))/12-1) w) ?_;apply kp 0 [0,2,3,4,5,6,7,10,28,29,45];apply Cd 0;intro _ tI;have SX:pI (k:Int)=(n-(2-(j:Int)))%12∧0≤dp (k:Int) (2-(j:Int)) ((n-(2-(j:Int)))/12-1):=⟨Jk,ahI tI⟩;apply ab 3;refine Nw 0 fun F1=>?_;refine Hh (cY rfl rfl rfl zU zI rfl rfl sZ rfl (.ag sZ) rfl (bK rfl) (bK rfl)  oM oM) ?_;rintro⟨A49,c49⟩-;apply ab 2;apply kp 5 [0,2,3,4,5,6,7,28,29];refine Ag (k+1,A49,c49) ?_ (hs:=az (.aH rfl (aP  oM) (.aH rfl (by congr 1;rw [iS,aG SX];simp [aT,BY]) nZ)) (.cons (iZ 0) (.ag (m':=(kF n j++iS n (2-j) (k+1)).length) (dr:=(kF n j++iS n (2-j) (k+1)).map aZ.enc) rfl (by rw [iS,aG SX];simp [BY]) rfl (by rw [iS,aG SX];simp [aZ.enc,dK])) mZ));omega;intro _ tI;have xd:¬(pI (k:Int)=(n-(2-(j:Int)))%12∧0≤dp (k:Int) (2-(j:Int)) ((n-(2-(j:Int)))/12-1)):=fun h=>ahJ tI h.2;apply ab 6;apply kp 0 [0,2,3,4,5,6,7,28,29];refine Ag (k+1,O,co) ?_ (hs:=az (.aH rfl (aP  oM) (.aH rfl (by congr 1;rw [iS,aD xd,iF]) nZ)) (.cons (iZ 1) (.ag (m':=(kF n j++iS n (2-j) (k+1)).length) (dr:=(kF n j++iS n (2-j) (k+1)).map aZ.enc) rfl (by rw [iS,aD xd,iF]) rfl (by rw [iS,aD xd,iF])) mZ));omega;intro Jk Jj;have xd:¬(pI (k:Int)=(n-(2-(j:Int)))%12∧0≤dp (k:Int) (2-(j:Int)) ((n-(2-(j:Int)))/12-1)):=fun h=>Jk h.1;apply ab 12;apply kp 0 [0,2,3,4,5,6,7,28,29];refine Ag (k+1,O,co) ?_ (hs:=az (.aH rfl (aP  oM) (.aH rfl (by congr 1;rw [iS,aD xd,iF]) nZ)) (.cons (iZ 1) (.ag (m':=(kF n j++iS n (2-j) (k+1)).length) (dr:=(kF n j++iS n (2-j) (k+1)).map aZ.enc) rfl (by rw [iS,aD xd,iF]) rfl (by rw [iS,aD xd,iF])) mZ));omega;intros;apply ab 1;apply kp 6 [0,2,3,4,5];refine Ag (j+1,O,co) ?_ (hs:=az (.aH rfl (aP  oM) (.aH rfl (by rw [show k=7 from oM];rfl) nZ)) (.cons (iZ 0) (.ag rfl (by rw [show k=7 from oM];rfl) rfl (by rw [show k=7 from oM];rfl)) mZ));omega;intros;apply ab 1;apply kp 7 [2,3,4];refine rM (.cons (iZ 0) (.ag rfl (by rw [show j=5 from oM]) rfl (by rw [show j=5 from oM])) .nil) ?_;exact fc rfl rfl rfl ⟨O,co,by rw [show j=5 from oM];rfl,rfl⟩
theorem abg(n:Int)(fl:Bool)(W:World)(hn:40≤n∧n≤100):Calls prog 208 #[Iv n,.bool fl] W (bJ W nX (fun v m=>∃p:aZ,v= .tuple #[p.val,Iv 0]∧p.aL=n∧m= [])):=by
 have F2:(dt n).length≤7*5:=HV n 5;apply En 2 func208 ntmps208;refine Nw 5 fun b4=>?_;refine Hh (Hc rfl fun w _ _=>abe n w  oM) ?_;rintro⟨v,m⟩ ⟨O,co,rfl,rfl⟩;apply ab 18;apply kp 5 [1,4,5,6,8];apply Cd 0;intro _ I7;apply ab 5;refine dI (az (.cons (s:=1) rfl (.cons (s:=4) rfl (.cons (s:=5) rfl (.cons (s:=6) rfl (.aH (s:=8) (v':=Iv (sd fl)) rfl (by rw [show fl=true from I7];rfl) (eL [22])))))) .refl) ?_;apply ab 2;refine Nw 3 fun b24=>?_;apply kp 1 [4,5,6,24,25,26];apply Ks 0 [26,4,5,6,24,25] [0,0,0];refine dY (ι:=Nat) (fun i=>i≤2∧∀j,j<i→∀p∈dt n,p.cd≠aa [0,sd fl] j) (fun i=>Iv i) (fun i=>2-i) 0 (by(try dsimp only);exact⟨oM,fun j hj=>absurd hj  oM⟩) rfl ?_;rintro i hq;(try dsimp only at hq);obtain⟨hi,fI⟩:=hq;apply Cd 5;intros;apply ab 5;refine Qq 0 (Qi i rfl (.ag sZ)) ?_;refine Qq 2 (Qk rfl (.ag sZ) (WL  oM)) ?_;apply kp 7 [4,5,6,10,24,25,26];apply Ks 0 [32,4,5,6,10,24,25,26,30,31] [0,0,0];refine dY (ι:=Nat) (fun k=>k≤(dt n).length∧∀j,j<k→(aa (dt n) j).cd≠aa [0,sd fl] i) (fun k=>Iv k) (fun k=>(dt n).length-k) 0 (by(try dsimp only);exact⟨oM,fun j hj=>absurd hj  oM⟩) rfl ?_;rintro k hq;(try dsimp only at hq);obtain⟨hk,dN⟩:=hq;apply Cd 5;intros;have dB:k<(dt n).length:=oM
 apply ab 5;refine Qq 0 (Qi k rfl (.ag sZ) (hl:=(by rw [bE]))) ?_;refine Qq 0 (Qe rfl (.ag sZ)) ?_;refine Nw 9 fun Jh=>?_;apply kp 0 [4,5,6,10,12,24,25,26,30,31,32,39];apply Cd 0;intros;apply ab 6;apply kp 1 [4,5,6,10,24,25,26,30,31,32];exact cx rfl oZ _ .nil ⟨aa (dt n) k,rfl,Lv (aI dB),rfl⟩;intro SY _;apply ab 6;apply kp 0 [4,5,6,10,24,25,26,30,31,32];refine Ag (k+1) ?_;exact⟨oM,fun j hj=>by by_cases e:j=k;(· subst e;exact SY);(· exact dN j  oM)⟩;intros;apply ab 1;apply kp 5 [4,5,6,24,25,26];refine Ag (i+1) ?_;exact⟨oM,WM fI  oM dN⟩;intros;apply ab 1;apply kp 1 [4,5];exact WN hn fI  oM ;intro _ I7;apply ab 3;refine dI (az (.cons (s:=1) rfl (.cons (s:=4) rfl (.cons (s:=5) rfl (.cons (s:=6) rfl (.aH (s:=8) (v':=Iv (sd fl)) rfl (by rw [show fl=false from I7];rfl) (eL [22])))))) .refl) ?_;apply ab 2;refine Nw 3 fun b24=>?_;apply kp 1 [4,5,6,24,25,26];apply Ks 0 [26,4,5,6,24,25] [0,0,0];refine dY (ι:=Nat) (fun i=>i≤2∧∀j,j<i→∀p∈dt n,p.cd≠aa [0,sd fl] j) (fun i=>Iv i) (fun i=>2-i) 0 (by(try dsimp only);exact⟨oM,fun j hj=>absurd hj  oM⟩) rfl ?_;rintro i hq;(try dsimp only at hq);obtain⟨hi,fI⟩:=hq;apply Cd 5;intros;apply ab 5;refine Qq 0 (Qi i rfl (.ag sZ)) ?_;refine Qq 2 (Qk rfl (.ag sZ) (WL  oM)) ?_;apply kp 7 [4,5,6,10,24,25,26];apply Ks 0 [32,4,5,6,10,24,25,26,30,31] [0,0,0];refine dY (ι:=Nat) (fun k=>k≤(dt n).length∧∀j,j<k→(aa (dt n) j).cd≠aa [0,sd fl] i) (fun k=>Iv k) (fun k=>(dt n).length-k) 0 (by(try dsimp only);exact⟨oM,fun j hj=>absurd hj  oM⟩) rfl ?_;rintro k hq;(try dsimp only at hq);obtain⟨hk,dN⟩:=hq;apply Cd 5;intros;have dB:k<(dt n).length:=oM
 apply ab 5;refine Qq 0 (Qi k rfl (.ag sZ) (hl:=(by rw [bE]))) ?_;refine Qq 0 (Qe rfl (.ag sZ)) ?_;refine Nw 9 fun Jh=>?_;apply kp 0 [4,5,6,10,12,24,25,26,30,31,32,39];apply Cd 0;intros;apply ab 6;apply kp 1 [4,5,6,10,24,25,26,30,31,32];exact cx rfl oZ _ .nil ⟨aa (dt n) k,rfl,Lv (aI dB),rfl⟩;intro SY _;apply ab 6;apply kp 0 [4,5,6,10,24,25,26,30,31,32];refine Ag (k+1) ?_;exact⟨oM,fun j hj=>by by_cases e:j=k;(· subst e;exact SY);(· exact dN j  oM)⟩;intros;apply ab 1;apply kp 5 [4,5,6,24,25,26];refine Ag (i+1) ?_;exact⟨oM,WM fI  oM dN⟩;intros;apply ab 1;apply kp 1 [4,5];exact WN hn fI  oM
end Go.Proofs.YtjpbickffffgkaaGreat
