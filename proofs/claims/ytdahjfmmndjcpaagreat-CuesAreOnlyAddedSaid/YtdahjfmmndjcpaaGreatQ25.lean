/- Part. -/
import Derived.Test.YtdahjfmmndjcpaaGreatQ19
import Derived.Test.YtdahjfmmndjcpaaGreatQ22
import Derived.Test.YtdahjfmmndjcpaaGreatQ23
import Derived.Test.YtdahjfmmndjcpaaGreatQ24
set_option linter.unusedSimpArgs false
set_option linter.unusedVariables false
set_option maxHeartbeats 40000000
set_option maxRecDepth 100000
namespace Go.Proofs.YtdahjfmmndjcpaaGreat
open Go Go.RowKit Hr Go.Proofs.Tryz
section
theorem akX{t:TypeId}{k n n' c:Nat}{A:Option Addr}{ls gu:List (List Value)}(h:n=n')(h2:ls=gu):ak.ae t k A n c ls=ak.ae t k A n' c gu:=by subst h;subst h2;rfl
theorem Fj{α:Type} [Inhabited α]{a b:List α}(hl:a.length=b.length)(h:∀j,j<a.length→aa a j=aa b j):a=b:=by
 apply uI hl
 intro j h1 h2
 rw [←dG h1,←dG h2];exact h j h1
theorem akY{α:Type} [Inhabited α]{d l:List α}{i:Nat}(hd:d.length=i)(hi:i<l.length):aa (d++l.drop i) i=aa l i:=by
 rw [EF  oM,hd,zH,uG hi,dG hi];rfl
theorem akZ{α:Type}{d l:List α}{i:Nat}{y:α}(hd:d.length=i)(hi:i<l.length):(d++l.drop i).set i y=(d++ [y])++l.drop (i+1):=by
 rw [zG _ _  oM,hd,zH,uG hi,List.set_cons_zero,bP];rfl
namespace Hr
theorem ar.Q0{a b l:List ak}(h:a.Sublist b):ar (.aT b::l) (.aT a::l):= .trans .tJ (.trans (.sub (h.append_right l)) .close_)
theorem ar.split{a b l:List ak}:ar (.aT (a++b)::l) (.aT a:: .aT b::l):=by
 refine .trans .tJ ?_
 rw [bP]
 refine .trans .close_ ?_
 exact .cons .ao .refl .close_
theorem ar.AW{r:ak}{rs l:List ak}:ar (.aT (r::rs)::l) (r:: .aT rs::l):= .focus (.refl _)
end Hr
def lC{α:Type}(f:α→α)(k:Nat)(l:List α):List α:=(l.take k).map f++l.drop k
theorem yV{α:Type}{f:α→α}{k:Nat}{l:List α}:(lC f k l).length=l.length:=by
 unfold lC
 rw [aP,bD,fL,pM];omega
theorem ak0{α:Type}{f:α→α}{l:List α}:lC f 0 l=l:=by simp [lC]
theorem ak1{α:Type}{f:α→α}{k:Nat}{l:List α}(h:l.length≤k):lC f k l=l.map f:=by
 unfold lC
 rw [gU h,List.drop_of_length_le h,gT]
theorem ak2{α:Type} [Inhabited α]{f:α→α}{k:Nat}{l:List α}(h:k<l.length):aa (lC f k l) k=aa l k:=by
 have hl:((l.take k).map f).length=k:=by rw [bD,fL];omega
 exact akY hl h
theorem Zc{α:Type} [Inhabited α]{f:α→α}{k:Nat}{l:List α}(h:k<l.length):(lC f k l).set k (f (aa l k))=lC f (k+1) l:=by
 have hl:((l.take k).map f).length=k:=by rw [bD,fL];omega
 unfold lC
 rw [akZ hl h,nT h,cB];rfl
theorem vB{α β:Type} [Inhabited α] [Inhabited β]{f:Nat→α→β}{l:List α}{i:Nat}(h:i<l.length):aa (l.mapIdx f) i=f i (aa l i):=by
 rw [dG (by rw [List.length_mapIdx];exact h),dG h,List.getElem_mapIdx]
def p0(p:j9):j9:=⟨p.HA,p.hc,none,0,none,0⟩
section
variable(tr:aY→aY)(z:Bool)(n:Nat)
def Fk(x h:Nat)(e:aN):aN:=⟨{oJ tr (gk z n x) rR e.x with hs:=lC (jG tr (gk z n x)) h e.x.hs},p0 e.p⟩
def Zd(x:Nat)(e:aN):aN:=⟨oJ tr (gk z n x) rR e.x,p0 e.p⟩
def oQ(i:Nat)(es:List aN):List aN:=es.mapIdx fun x e=>if x<i then Zd tr z n x e else e
def pQ(i h:Nat)(es:List aN):List aN:=(oQ tr z n i es).set i (Fk tr z n i h (aa es i))
end
section
variable{tr:aY→aY}{z:Bool}{n i h:Nat}{es:List aN}
theorem pB:(oQ tr z n i es).length=es.length:=List.length_mapIdx
theorem Ze:(pQ tr z n i h es).length=es.length:=by unfold pQ;rw [eM,pB]
theorem Zf:oQ tr z n 0 es=es:=Fj pB fun j hj=>by
 rw [pB]at hj
 unfold oQ
 rw [vB hj,ay  oM]
theorem Mp(hi:i<es.length):aa (oQ tr z n i es) i=aa es i:=by
 unfold oQ
 rw [vB hi,ay  oM]
theorem ak3(hi:i<es.length)(hh:(aa es i).x.hs.length≤h):pQ tr z n i h es=oQ tr z n (i+1) es:=Fj (by rw [Ze,pB]) fun j hj=>by
 rw [Ze]at hj
 unfold pQ
 rw [rS (by rw [pB];exact hi)]
 unfold oQ
 rw [vB hj,vB hj]
 by_cases e:j=i
 ·subst e
  rw [aG rfl,aG  oM]
  unfold Fk Zd
  rw [ak1 hh];rfl
 ·rw [ay (fun g=>e g.symm)]
  by_cases bG:j<i
  ·rw [aG bG,aG  oM]
  ·rw [ay bG,ay  oM]
theorem ak4(hn:es.length≤i):(oQ tr z es.length i es).map aN.x=lB tr z (fun _=>rR) (es.map aN.x):=by
 have hl:(es.map aN.x).length=es.length:=bD ..
 apply Fj (by rw [bD,pB,AN,hl])
 intro j hj
 rw [bD,pB]at hj
 rw [vb (by rw [pB];exact hj),CM  oM,hl,vb hj]
 unfold oQ
 rw [vB hj,aG  oM];rfl
abbrev Q2(f:Hd→Hd)(e:aN)(h:Nat):ak:= .ae 172 5 e.p.HA e.x.hs.length e.p.hc ((lC f h e.x.hs).map Hd.enc)
abbrev nG:ak:= .ae 278 5 none 0 0 []
abbrev nL:ak:= .ae 276 2 none 0 0 []
theorem ak5{x:Nat}{e:aN}:(Fk tr z n x h e).ae= [Q2 (jG tr (gk z n x)) e h,nG,nL]:=by
 unfold aN.ae Fk p0 oJ
 dsimp only
 rw [yV];rfl
theorem ak6(hi:i<es.length):∃a,((oQ tr z n i es).flatMap aN.ae).Perm ((aa es i).ae++a)∧∀h,((pQ tr z n i h es).flatMap aN.ae).Perm (Q2 (jG tr (gk z n i)) (aa es i) h::nG::nL::a):=by
 obtain⟨a,h1,h2⟩:=G7 (f:=aN.ae) (l:=oQ tr z n i es) (i:=i) (by rw [pB];exact hi)
 rw [Mp hi]at h1
 refine⟨a,h1,fun h=>?_⟩
 have:=h2 (Fk tr z n i h (aa es i))
 rw [ak5]at this
 exact this
theorem ar.qev{e:aN}{f:Hd→Hd}{R a l:List ak}(h:R.Perm (e.ae++a)):ar (.aT R::l) (Q2 f e 0:: .aT (nG::nL::a)::l):=by
 refine .trans (.Ev h) (.trans (ar.AW (r:= .ae 172 5 e.p.HA e.x.hs.length e.p.hc (e.x.hs.map Hd.enc)) (rs:= .ae 278 5 e.p.GA e.x.gs.length e.p.gc (e.x.gs.map Gr.enc):: .ae 276 2 e.p.LA e.x.ls.length e.p.lc (e.x.ls.map ef.enc)::a)) ?_)
 refine .cons .ao (.eq (akX rfl (by rw [ak0]))) ?_
 exact .trans (.Q0 (List.Sublist.cons _ (List.Sublist.cons _ (List.Sublist.refl _)))) (.trans (.cG 276 2) (.trans .fM (.trans (.cG 278 5) .fM)))
end
def Q3(id:ba)(e:aN):aN:=⟨{e.x with n:={e.x.n with bg:=id.bg,aH:=id.aH}},e.p⟩
def nI(ids:Nat→ba)(k:Nat)(es:List aN):List aN:=es.mapIdx fun x e=>if x<k then Q3 (ids x) e else e
section
variable{ids:Nat→ba}{k:Nat}{es:List aN}
theorem qw:(nI ids k es).length=es.length:=List.length_mapIdx
theorem ak8:nI ids 0 es=es:=Fj qw fun j hj=>by
 rw [qw]at hj
 unfold nI
 rw [vB hj,ay  oM]
theorem ak9(hk:k<es.length):aa (nI ids k es) k=aa es k:=by
 unfold nI
 rw [vB hk,ay  oM]
theorem ak_(hk:k<es.length):(nI ids k es).set k (Q3 (ids k) (aa es k))=nI ids (k+1) es:=Fj (by rw [eM,qw,qw]) fun j hj=>by
 rw [eM,qw]at hj
 rw [rS (by rw [qw];exact hk)]
 unfold nI
 rw [vB hj,vB hj]
 by_cases e:j=k
 ·subst e
  rw [aG rfl,aG  oM]
 ·rw [ay (fun g=>e g.symm)]
  by_cases bG:j<k
  ·rw [aG bG,aG  oM]
  ·rw [ay bG,ay  oM]
theorem ala:(nI ids k es).flatMap aN.ae=es.flatMap aN.ae:=by
 have:(nI ids k es).map aN.ae=es.map aN.ae:=by
  apply uI (by rw [bD,bD,qw])
  intro j h1 h2
  simp only [bD]at h1 h2
  rw [qw]at h1
  rw [List.getElem_map,List.getElem_map]
  have e:(nI ids k es)[j]'(by rw [qw];exact h1)=aa (nI ids k es) j:=(dG _).symm
  rw [e]
  unfold nI
  rw [vB h1,dG h1]
  split<;>rfl
 rw [tC,tC,this]
theorem alb{tr:aY→aY}{z:Bool}{xs:List bz}(he:es.map aN.x=lB tr z (fun _=>rR) xs)(hk:es.length≤k):(nI ids k es).map aN.x=lB tr z ids xs:=by
 have hl:es.length=xs.length:=by have:=aC List.length he;rwa [bD,AN]at this
 apply Fj (by rw [bD,qw,AN];exact hl)
 intro j hj
 rw [bD,qw]at hj
 rw [vb (by rw [qw];exact hj),CM  oM]
 unfold nI
 rw [vB hj,aG  oM]
 have e:=aC (fun l=>aa l j) he
 rw [vb hj,CM  oM]at e
 unfold Q3
 rw [e];rfl
end
def n0(m:aD)(o:Nat)(c:bu)(A:Option Addr)(k:Nat):aD:={m with cs:=m.cs.set o c,CA:=A,cc:=k}
def AX(y:aw)(i:Nat)(m:aD)(A:Option Addr)(k:Nat):aw:={y with ms:=y.ms.set i m,MA:=A,mc:=k}
abbrev Q4(ms:List aD)(A:Option Addr)(k:Nat):ak:= .ae 79 22 A ms.length k (ms.map aD.enc)
abbrev Q5(cs:List bu)(A:Option Addr)(k:Nat):ak:= .ae 133 2 A cs.length k (cs.map bu.enc)
open Classical in
theorem Zg{α:Type}{a b:List α}(h:∀x,a.count x=b.count x):a.Perm b:=List.perm_iff_count.2 h
open Classical in
theorem alc{α:Type}{P F F' S G G' O c r1 r2 R0 R1 T K0 K1:List α}(hF:F.Perm ((T++(K0++G))++r1))(hF':F'.Perm ((T++(K1++G'))++r1))(hG:G.Perm (O++r2))(hG':G'.Perm (c++r2)):
  (P++((R0++F)++S)).Perm ((R0++(K0++O))++(P++(T++(r2++(r1++S)))))∧(P++((R1++F')++S)).Perm (R1++(K1++(c++(P++(T++(r2++(r1++S))))))):=by
 refine⟨Zg fun x=>?_,Zg fun x=>?_⟩
 ·have h1:=hF.count_eq x
  have h3:=hG.count_eq x
  simp only [List.count_append]at h1 h3⊢
  omega
 ·have h2:=hF'.count_eq x
  have h4:=hG'.count_eq x
  simp only [List.count_append]at h2 h4⊢
  omega
theorem ar.Zh{y:aw}{i o:Nat}{c:bu}{A B:Option Addr}{a b:Nat}{l:List ak}(hi:i<y.ms.length)(ho:o<(aa y.ms i).cs.length):
  ar (Q4 (y.ms.set i (n0 (aa y.ms i) o c B b)) A a::Q5 ((aa y.ms i).cs.set o c) B b:: .aT c.ae:: .aT y.ae::l) (.aT (AX y i (n0 (aa y.ms i) o c B b) A a).ae::l):=by
 obtain⟨r1,p1,q1⟩:=G7 (f:=aD.ae) hi
 obtain⟨r2,p2,q2⟩:=G7 (f:=bu.ae) ho
 have h:=alc (P:=Ay y.ps y.PA y.pc) (R0:= [Q4 y.ms y.MA y.mc]) (R1:= [Q4 (y.ms.set i (n0 (aa y.ms i) o c B b)) A a]) (F:=y.ms.flatMap aD.ae) (F':=(y.ms.set i (n0 (aa y.ms i) o c B b)).flatMap aD.ae)
  (S:= [.ae 89 7 y.SA y.sp.length y.sc (y.sp.map dS.enc),.ae 43 2 y.LA y.bk.length y.lc (y.bk.map ba.enc)]) (T:= [.ae 166 3 (aa y.ms i).TA (aa y.ms i).tm.length (aa y.ms i).tc ((aa y.ms i).tm.map nJ.enc)])
  (K0:= [Q5 (aa y.ms i).cs (aa y.ms i).CA (aa y.ms i).cc]) (K1:= [Q5 ((aa y.ms i).cs.set o c) B b]) p1 (q1 (n0 (aa y.ms i) o c B b)) p2 (q2 c)
 obtain⟨h1,h2⟩:=h
 refine .trans (.cons .ao .refl (.cons .ao .refl (.cons .ao .refl (.trans (.Ev h1) (.Q0 (j3 _ _)))))) ?_
 refine .trans (.cons .ao .refl (.cons .ao .refl .lq)) ?_
 refine .trans (.cons .ao .refl .fM) (.trans .fM (.Ev ?_))
 exact h2.symm
theorem Zi{y:aw}{i o:Nat}{c:bu}{A B:Option Addr}{a b:Nat}{R:bu→bu→Prop}(hi:i<y.ms.length)(ho:o<(aa y.ms i).cs.length)(hR:R (aa (aa y.ms i).cs o) c):Ii y (AX y i (n0 (aa y.ms i) o c B b) A a) i o R:=by
 have e1:aa (AX y i (n0 (aa y.ms i) o c B b) A a).ms i=n0 (aa y.ms i) o c B b:=by
  show aa (y.ms.set i _) i=_
  rw [rS hi,aG rfl]
 refine⟨rfl,rfl,rfl,rfl,rfl,eM,fun j hj iJ=>?_,?_⟩
 ·show(aa (y.ms.set i _) j).aJ=_
  rw [rS hi,ay fun h=>iJ h.symm]
 ·rw [e1]
  refine⟨rfl,rfl,eM,fun q hq iJ=>?_,?_⟩
  ·show(aa ((aa y.ms i).cs.set o c) q).aJ=_
   rw [rS ho,ay fun h=>iJ h.symm]
  ·show R _ (aa ((aa y.ms i).cs.set o c) o)
   rw [rS ho,aG rfl];exact hR
theorem Zj{y:aw}{i o:Nat}{c:bu}{A B:Option Addr}{a b:Nat}(h:∀m∈y.ms,xl m)(hi:i<y.ms.length)(hc:H3 c):∀m∈(AX y i (n0 (aa y.ms i) o c B b) A a).ms,xl m:=fun m hm=>by
 rcases xU hm with h1|rfl
 ·exact h m h1
 ·intro d hd
  rcases xU hd with h1|rfl
  ·exact h _ (aB hi) d h1
  ·exact hc
end
theorem apb{fI:ByteArray}{fJ:Bool}{abS:Option Addr}{abT abU:Nat}{abV:Option Addr}{abW abX:Nat}{abY:Option Addr}{abZ ab0:Nat}{ab1:Option Addr}{ab2 ab3:Nat}:prog.built 236 [(0,.agg #[.string fI,.bool fJ,.slice abS abT abU,.slice abV abW abX,.slice abY abZ ab0,.slice ab1 ab2 ab3])]=some #[.string fI,.bool fJ,.slice abS abT abU,.slice abV abW abX,.slice abY abZ ab0,.slice ab1 ab2 ab3,Iv 0,zq]:=by kernel_rfl
theorem aw.rd.dm{s:aw}{X:Nat→Prop}{w w':World}(h:s.rd w)(hk:aU X w w')(hX:∀b,X b→w.heap.size≤b):s.rd w':=h.az ⟨hk.os,hk.tape,hk.output,hk.size,fun k bO _=>hk.block k bO (fun e=>absurd (hX k e)  oM),hk.drawn⟩
theorem xB{s:aw}{W w w':World}{rs aQ:List ak}(hs:s.rd W)(hk:aU nX W w)(h:aU (aX rs) w w')(hm:Mem nX W (rs++aQ) w):s.rd w':=by
 refine hs.az ⟨h.os.trans hk.os,h.tape.trans hk.tape,h.output.trans hk.output,la hk.size h.size,fun k bO _=>?_,la hk.drawn h.drawn⟩;rw [h.block k (xP bO hk.size) ?_,hk.block k bO (fun e=>e)];rintro⟨r,hr,hb⟩;rcases hm.ae r (BC _ hr) k hb with h1|h1
 omega;exact h1
theorem ab4(s:aw)(W:World)(hs:s.rd W)(hB:cx s)(eK:s.ms.length≤s.mc):Calls prog 57 #[s.val] W (bK W nX fun v m=>∃vl O co,v= .slice O vl.length co∧m= [.ae 239 3 O (vl).length co ((vl).map bE.enc)]∧(vl= []↔mQ s)∧vl.length≤1000000):=by
 apply En 2 func57 ntmps57;refine Nw 5 fun b1=>?_;refine Qq 0 (bB rfl vZ (apb)) ?_;refine Nw 2 fun b9=>?_;apply kp 3 [2,3];refine Qq 1 (pH rfl (bf rfl) (bf rfl)) ?_;refine Qq 1 (pH rfl (bf rfl) (bf rfl)) ?_;refine Qq 1 (pH rfl (bf rfl) (bf rfl)) ?_;refine Qq 1 (pH rfl (bf rfl) (bf rfl)) ?_;refine Qq 1 (pH rfl (bf rfl) (bf rfl)) ?_;refine Qq 1 (pH rfl (bf rfl) (bf rfl)) ?_;refine Qq 1 (pH rfl (bf rfl) (bf rfl)) ?_;refine Qq 1 (pH rfl (bf rfl) (bf rfl)) ?_;refine Qq 1 (pH rfl (bf rfl) (bf rfl)) ?_;refine Qq 1 (pH rfl (bf rfl) (bf rfl)) ?_;refine Qq 1 (pH rfl (bf rfl) (bf rfl)) ?_;refine Qq 1 (pH rfl (bf rfl) (bf rfl)) ?_;refine Qq 1 (pH rfl (bf rfl) (bf rfl)) ?_;refine Qq 1 (pH rfl (bf rfl) (bf rfl)) ?_;refine Qq 1 (pH rfl (bf rfl) (bf rfl)) ?_;refine Qq 1 (pH rfl (bf rfl) (bf rfl)) ?_;refine Qq 0 (pH rfl (bf rfl) (bf rfl)) ?_;refine Nw 2 fun b44=>?_;apply kp 2 [2,3,4];refine rM (ar.cG 239 3) ?_;apply ab 6;refine ZO 18 ?_;refine h_ ?_;apply ab 12;refine Qq 0 (Qi 0 rfl (.ae sZ) (hq:=(by decide))) ?_;refine Qq 14 (Qk rfl (.ae sZ) rfl) ?_;refine rM (.cons (iZ 0) (show cN _ (.ai b9 236 (bm 0 (bA s 1 (.slice none (([]:List bE)).length 0))))from(.ai (eL [0,1,2,3,4,5,6,7]))) (dZ [0,0,0])) ?_;apply ab 36;refine Qq 6 (oa rfl rfl kZ (bf rfl) (fun w hk hm=>alM s 1 (.slice none (([]:List bE)).length 0) b9 w (jX rfl (ag.ao.holds hm)) (hs.az hk) hB)) ?_;refine h_ ?_;apply ab 12;refine Qq 0 (Qi 1 rfl (.ae sZ) (hq:=(by decide))) ?_;refine Qq 14 (Qk rfl (.ae sZ) rfl) ?_;refine rM (.cons (iZ 0) (show cN _ (.ai b9 236 (bm 0 (bA s 2 (.slice none (([]:List bE)).length 0))))from(.ai (eL [0,1,2,3,4,5,6,7]))) (dZ [0,0,0])) ?_;apply ab 36;refine Qq 6 (oa rfl rfl kZ (bf rfl) (fun w hk hm=>ami s 2 (.slice none (([]:List bE)).length 0) b9 w (jX rfl (ag.ao.holds hm)) (hs.az hk) hB)) ?_;refine h_ ?_;apply ab 12;refine Qq 0 (Qi 2 rfl (.ae sZ) (hq:=(by decide))) ?_;refine Qq 14 (Qk rfl (.ae sZ) rfl) ?_;refine rM (.cons (iZ 0) (show cN _ (.ai b9 236 (bm 0 (bA s 3 (.slice none (([]:List bE)).length 0))))from(.ai (eL [0,1,2,3,4,5,6,7]))) (dZ [0,0,0])) ?_;apply ab 36;refine Qq 6 (oa rfl rfl kZ (bf rfl) (fun w hk hm=>amm s 3 (.slice none (([]:List bE)).length 0) b9 w (jX rfl (ag.ao.holds hm)) (hs.az hk) hB)) ?_;refine h_ ?_;apply ab 12;refine Qq 0 (Qi 3 rfl (.ae sZ) (hq:=(by decide))) ?_;refine Qq 14 (Qk rfl (.ae sZ) rfl) ?_;refine rM (.cons (iZ 0) (show cN _ (.ai b9 236 (bm 0 (bA s 4 (.slice none (([]:List bE)).length 0))))from(.ai (eL [0,1,2,3,4,5,6,7]))) (dZ [0,0,0])) ?_;apply ab 36;refine Qq 6 (oa rfl rfl kZ (bf rfl) (fun w hk hm=>amy s 4 (.slice none (([]:List bE)).length 0) b9 w (jX rfl (ag.ao.holds hm)) (hs.az hk) hB)) ?_;refine h_ ?_;apply ab 12;refine Qq 0 (Qi 4 rfl (.ae sZ) (hq:=(by decide))) ?_;refine Qq 14 (Qk rfl (.ae sZ) rfl) ?_;refine rM (.cons (iZ 0) (show cN _ (.ai b9 236 (bm 0 (bA s 5 (.slice none (([]:List bE)).length 0))))from(.ai (eL [0,1,2,3,4,5,6,7]))) (dZ [0,0,0])) ?_;apply ab 36;refine Qq 6 (oa rfl rfl kZ (bf rfl) (fun w hk hm=>al4 s 5 (.slice none (([]:List bE)).length 0) b9 w (jX rfl (ag.ao.holds hm)) (hs.az hk) hB)) ?_;refine h_ ?_;apply ab 12;refine Qq 0 (Qi 5 rfl (.ae sZ) (hq:=(by decide))) ?_;refine Qq 14 (Qk rfl (.ae sZ) rfl) ?_;refine rM (.cons (iZ 0) (show cN _ (.ai b9 236 (bm 0 (bA s 6 (.slice none (([]:List bE)).length 0))))from(.ai (eL [0,1,2,3,4,5,6,7]))) (dZ [0,0,0])) ?_;apply ab 36;refine Qq 6 (oa rfl rfl kZ (bf rfl) (fun w hk hm=>anI s 6 (.slice none (([]:List bE)).length 0) b9 w (jX rfl (ag.ao.holds hm)) (hs.az hk) hB)) ?_;refine h_ ?_;apply ab 12;refine Qq 0 (Qi 6 rfl (.ae sZ) (hq:=(by decide))) ?_;refine Qq 14 (Qk rfl (.ae sZ) rfl) ?_;refine rM (.cons (iZ 0) (show cN _ (.ai b9 236 (bm 0 (bA s 7 (.slice none (([]:List bE)).length 0))))from(.ai (eL [0,1,2,3,4,5,6,7]))) (dZ [0,0,0])) ?_;apply ab 36;refine Qq 6 (oa rfl rfl kZ (bf rfl) (fun w hk hm=>anJ s 7 (.slice none (([]:List bE)).length 0) b9 w (jX rfl (ag.ao.holds hm)) (hs.az hk) hB)) ?_;refine h_ ?_;apply ab 12;refine Qq 0 (Qi 7 rfl (.ae sZ) (hq:=(by decide))) ?_;refine Qq 14 (Qk rfl (.ae sZ) rfl) ?_;refine rM (.cons (iZ 0) (show cN _ (.ai b9 236 (bm 0 (bA s 8 (.slice none (([]:List bE)).length 0))))from(.ai (eL [0,1,2,3,4,5,6,7]))) (dZ [0,0,0])) ?_;apply ab 36;refine Qq 6 (oa rfl rfl kZ (bf rfl) (fun w hk hm=>anL s 8 (.slice none (([]:List bE)).length 0) b9 w (jX rfl (ag.ao.holds hm)) (hs.az hk) hB)) ?_;refine h_ ?_;apply ab 12;refine Qq 0 (Qi 8 rfl (.ae sZ) (hq:=(by decide))) ?_;refine Qq 14 (Qk rfl (.ae sZ) rfl) ?_;refine rM (.cons (iZ 0) (show cN _ (.ai b9 236 (bm 0 (bA s 9 (.slice none (([]:List bE)).length 0))))from(.ai (eL [0,1,2,3,4,5,6,7]))) (dZ [0,0,0])) ?_;apply ab 36;refine Qq 6 (oa rfl rfl kZ (bf rfl) (fun w hk hm=>anN s 9 (.slice none (([]:List bE)).length 0) b9 w (jX rfl (ag.ao.holds hm)) (hs.az hk) hB)) ?_;refine h_ ?_;apply ab 12;refine Qq 0 (Qi 9 rfl (.ae sZ) (hq:=(by decide))) ?_;refine Qq 14 (Qk rfl (.ae sZ) rfl) ?_;refine rM (.cons (iZ 0) (show cN _ (.ai b9 236 (bm 0 (bA s 10 (.slice none (([]:List bE)).length 0))))from(.ai (eL [0,1,2,3,4,5,6,7]))) (dZ [0,0,0])) ?_;apply ab 36;refine Qq 6 (oa rfl rfl kZ (bf rfl) (fun w hk hm=>an8 s 10 (.slice none (([]:List bE)).length 0) b9 w (jX rfl (ag.ao.holds hm)) (hs.az hk) hB)) ?_;refine h_ ?_;apply ab 12;refine Qq 0 (Qi 10 rfl (.ae sZ) (hq:=(by decide))) ?_;refine Qq 14 (Qk rfl (.ae sZ) rfl) ?_;refine rM (.cons (iZ 0) (show cN _ (.ai b9 236 (bm 0 (bA s 11 (.slice none (([]:List bE)).length 0))))from(.ai (eL [0,1,2,3,4,5,6,7]))) (dZ [0,0,0])) ?_;apply ab 36;refine Qq 6 (oa rfl rfl kZ (bf rfl) (fun w hk hm=>aoi s 11 (.slice none (([]:List bE)).length 0) b9 w (jX rfl (ag.ao.holds hm)) (hs.az hk) hB)) ?_;refine h_ ?_;apply ab 12;refine Qq 0 (Qi 11 rfl (.ae sZ) (hq:=(by decide))) ?_;refine Qq 14 (Qk rfl (.ae sZ) rfl) ?_;refine rM (.cons (iZ 0) (show cN _ (.ai b9 236 (bm 0 (bA s 12 (.slice none (([]:List bE)).length 0))))from(.ai (eL [0,1,2,3,4,5,6,7]))) (dZ [0,0,0])) ?_;apply ab 36;refine Hh (xA [_,_] _ rfl rfl rfl rfl kZ (bf rfl) ((ag.aR ag.ao).trans (.cons _ (ag.aR ag.ao))) (Y:=fun _=>aX [_,_]) (fun _ _ h=>h) (fun w hk hm=>aoC s 12 b9 ([]:List bE) none 0 w ((hm.aR ((ag.aR ag.ao).trans (.cons _ (ag.aR ag.ao)))).fQ (rs:= [_,_])) (fun w' h'=>xB hs hk h' (hm.aR ((ag.aR ag.ao).trans (.cons _ (ag.aR ag.ao))))) hB sM)) ?_;rintro⟨xC,xD⟩ ⟨rfl,Ji,Na,Nb,rfl,Nc⟩;apply ab 2;by_cases Sm:Ji= [];subst Sm;have apc:LM s:=(Nc.1.1 rfl).2;apply ab 4;refine h_ ?_;apply ab 12;refine Qq 0 (Qi 12 rfl (.ae sZ) (hq:=(by decide))) ?_;refine Qq 14 (Qk rfl (.ae sZ) rfl) ?_;refine rM (.cons (iZ 0) (show cN _ (.ai b9 236 (bm 0 (bA s 13 (.slice Na (([]:List bE)).length Nb))))from(.ai (eL [0,1,2,3,4,5,6,7]))) (dZ [0,0,0])) ?_;apply ab 36;refine Hh (xA [_,_] _ rfl rfl rfl rfl kZ (bf rfl) ((ag.aR ag.ao).trans (.cons _ (ag.aR ag.ao))) (Y:=fun _=>aX [_,_]) (fun _ _ h=>h) (fun w hk hm=>abD s 13 b9 ([]:List bE) Na Nb w ((hm.aR ((ag.aR ag.ao).trans (.cons _ (ag.aR ag.ao)))).fQ (rs:= [_,_])) (fun w' h'=>xB hs hk h' (hm.aR ((ag.aR ag.ao).trans (.cons _ (ag.aR ag.ao))))) hB sM)) ?_;rintro⟨xC,xD⟩ ⟨rfl,xE,Du,Dv,rfl,Bd⟩;apply ab 2;by_cases Sq:xE= [];subst Sq;have apd:LN s:=(Bd.1.1 rfl).2;apply ab 4;refine h_ ?_;apply ab 12;refine Qq 0 (Qi 13 rfl (.ae sZ) (hq:=(by decide))) ?_;refine Qq 14 (Qk rfl (.ae sZ) rfl) ?_;refine rM (.cons (iZ 0) (show cN _ (.ai b9 236 (bm 0 (bA s 14 (.slice Du (([]:List bE)).length Dv))))from(.ai (eL [0,1,2,3,4,5,6,7]))) (dZ [0,0,0])) ?_;apply ab 36;refine Hh (xA [_,_] _ rfl rfl rfl rfl kZ (bf rfl) ((ag.aR ag.ao).trans (.cons _ (ag.aR ag.ao))) (Y:=fun _=>aX [_,_]) (fun _ _ h=>h) (fun w hk hm=>Sj s 14 b9 ([]:List bE) Du Dv w ((hm.aR ((ag.aR ag.ao).trans (.cons _ (ag.aR ag.ao)))).fQ (rs:= [_,_])) (fun w' h'=>xB hs hk h' (hm.aR ((ag.aR ag.ao).trans (.cons _ (ag.aR ag.ao))))) hB sM)) ?_;rintro⟨xC,xD⟩ ⟨rfl,kn,kK,kL,rfl,uu⟩;apply ab 2;by_cases Sr:kn= [];subst Sr;have ape:vu s:=(uu.1.1 rfl).2;apply ab 4;refine h_ ?_;apply ab 12;refine Qq 0 (Qi 14 rfl (.ae sZ) (hq:=(by decide))) ?_;refine Qq 14 (Qk rfl (.ae sZ) rfl) ?_;refine rM (.cons (iZ 0) (show cN _ (.ai b9 236 (bm 0 (bA s 15 (.slice kK (([]:List bE)).length kL))))from(.ai (eL [0,1,2,3,4,5,6,7]))) (dZ [0,0,0])) ?_;apply ab 36;refine Qq 6 (oa rfl rfl kZ (bf rfl) (fun w hk hm=>M4 s 15 (.slice kK (([]:List bE)).length kL) b9 w (jX rfl (ag.ao.holds hm)) (hs.az hk) hB eK)) ?_;refine h_ ?_;apply ab 12;refine Qq 0 (Qi 15 rfl (.ae sZ) (hq:=(by decide))) ?_;refine Qq 14 (Qk rfl (.ae sZ) rfl) ?_;refine rM (.cons (iZ 0) (show cN _ (.ai b9 236 (bm 0 (bA s 16 (.slice kK (([]:List bE)).length kL))))from(.ai (eL [0,1,2,3,4,5,6,7]))) (dZ [0,0,0])) ?_;apply ab 36;refine Qq 6 (oa rfl rfl kZ (bf rfl) (fun w hk hm=>M5 s 16 (.slice kK (([]:List bE)).length kL) b9 w (jX rfl (ag.ao.holds hm)) (hs.az hk) hB)) ?_;refine h_ ?_;apply ab 12;refine Qq 0 (Qi 16 rfl (.ae sZ) (hq:=(by decide))) ?_;refine Qq 14 (Qk rfl (.ae sZ) rfl) ?_;refine rM (.cons (iZ 0) (show cN _ (.ai b9 236 (bm 0 (bA s 17 (.slice kK (([]:List bE)).length kL))))from(.ai (eL [0,1,2,3,4,5,6,7]))) (dZ [0,0,0])) ?_;apply ab 36;refine Hh (xA [_,_] _ rfl rfl rfl rfl kZ (bf rfl) ((ag.aR ag.ao).trans (.cons _ (ag.aR ag.ao))) (Y:=fun _=>aX [_,_]) (fun _ _ h=>h) (fun w hk hm=>M_ s 17 b9 ([]:List bE) kK kL w ((hm.aR ((ag.aR ag.ao).trans (.cons _ (ag.aR ag.ao)))).fQ (rs:= [_,_])) (fun w' h'=>xB hs hk h' (hm.aR ((ag.aR ag.ao).trans (.cons _ (ag.aR ag.ao))))) hB sM)) ?_;rintro⟨xC,xD⟩ ⟨rfl,qy,Be,Bf,rfl,qz⟩;apply ab 2;by_cases Ss:qy= [];subst Ss;have apf:Cu s:=(qz.1.1 rfl).2;apply ab 4;refine h_ ?_;apply ab 15;apply kp 1 [2];apply Km 0 [1];exact ax rfl rfl ⟨([]:List bE),Be,Bf,rfl,rfl,⟨fun _=>⟨apc,apd,ape,apf⟩,fun _=>rfl⟩,by simp⟩;have Dw:qy≠ []:=Ss;have Su:∀x∈qy,10≤x.aS:=fun x hx=>by rcases qz.2.1 x hx with h|h;(· cases h);(· omega)
 have apg:¬Cu s:=fun h=>Ss (qz.1.2 ⟨rfl,h⟩);have Sv:=qz.2.2;have Sw:([]:List bE).length=0:=rfl;apply ab 4;refine h_ ?_;apply ab 15;apply kp 1 [2];apply Km 0 [1];exact ax rfl rfl ⟨qy,Be,Bf,rfl,rfl,⟨fun h=>absurd h Dw,fun h=>absurd h.2.2.2 apg⟩,oM⟩;have bY:kn≠ []:=Sr;have sr:∀x∈kn,10≤x.aS:=fun x hx=>by rcases uu.2.1 x hx with h|h;(· cases h);(· omega)
 have aph:¬vu s:=fun h=>Sr (uu.1.2 ⟨rfl,h⟩);have ab5:=uu.2.2;have Sw:([]:List bE).length=0:=rfl;apply ab 4;refine h_ ?_;apply ab 12;refine Qq 0 (Qi 14 rfl (.ae sZ) (hq:=(by decide))) ?_;refine Qq 14 (Qk rfl (.ae sZ) rfl) ?_;refine rM (.cons (iZ 0) (show cN _ (.ai b9 236 (bm 0 (bA s 15 (.slice kK (kn).length kL))))from(.ai (eL [0,1,2,3,4,5,6,7]))) (dZ [0,0,0])) ?_;apply ab 8;apply Qw (wP bY);apply Qw (wP bY);apply Qw (wP bY);apply Qw (wP bY);apply Qw (wP bY);apply Qw (wP bY);apply ab 10;refine Qq 1 (Qi 0 rfl (.ae sZ) (hq:=(eD.2 bY))) ?_;refine Qq 2 (Qf rfl (.ae sZ) (bX (eD.2 bY))) ?_;apply Qw (wP bY);refine Qq 1 (jx rfl rfl (dz (by have:=eD.2 bY;omega)) rfl) ?_;refine dB rfl (cn (by have:=sr _ (aB (eD.2 bY));omega)) ?_;apply ab 3;refine Qq 6 (oa rfl rfl kZ (bf rfl) (fun w hk hm=>M4 s 15 (.slice kK (kn).length kL) b9 w (jX rfl (ag.ao.holds hm)) (hs.az hk) hB eK)) ?_;refine h_ ?_;apply ab 12;refine Qq 0 (Qi 15 rfl (.ae sZ) (hq:=(by decide))) ?_;refine Qq 14 (Qk rfl (.ae sZ) rfl) ?_;refine rM (.cons (iZ 0) (show cN _ (.ai b9 236 (bm 0 (bA s 16 (.slice kK (kn).length kL))))from(.ai (eL [0,1,2,3,4,5,6,7]))) (dZ [0,0,0])) ?_;apply ab 8;apply Qw (wP bY);apply Qw (wP bY);apply Qw (wP bY);apply Qw (wP bY);apply Qw (wP bY);apply Qw (wP bY);apply ab 10;refine Qq 1 (Qi 0 rfl (.ae sZ) (hq:=(eD.2 bY))) ?_;refine Qq 2 (Qf rfl (.ae sZ) (bX (eD.2 bY))) ?_;apply Qw (wP bY);refine Qq 1 (jx rfl rfl (dz (by have:=eD.2 bY;omega)) rfl) ?_;refine dB rfl (cn (by have:=sr _ (aB (eD.2 bY));omega)) ?_;apply ab 3;refine Qq 6 (oa rfl rfl kZ (bf rfl) (fun w hk hm=>M5 s 16 (.slice kK (kn).length kL) b9 w (jX rfl (ag.ao.holds hm)) (hs.az hk) hB)) ?_;refine h_ ?_;apply ab 12;refine Qq 0 (Qi 16 rfl (.ae sZ) (hq:=(by decide))) ?_;refine Qq 14 (Qk rfl (.ae sZ) rfl) ?_;refine rM (.cons (iZ 0) (show cN _ (.ai b9 236 (bm 0 (bA s 17 (.slice kK (kn).length kL))))from(.ai (eL [0,1,2,3,4,5,6,7]))) (dZ [0,0,0])) ?_;apply ab 8;apply Qw (wP bY);apply Qw (wP bY);apply Qw (wP bY);apply Qw (wP bY);apply Qw (wP bY);apply Qw (wP bY);apply ab 10;refine Qq 1 (Qi 0 rfl (.ae sZ) (hq:=(eD.2 bY))) ?_;refine Qq 2 (Qf rfl (.ae sZ) (bX (eD.2 bY))) ?_;apply Qw (wP bY);refine Qq 1 (jx rfl rfl (dz (by have:=eD.2 bY;omega)) rfl) ?_;refine dB rfl (cn (by have:=sr _ (aB (eD.2 bY));omega)) ?_;apply ab 3;refine Hh (xA [_,_] _ rfl rfl rfl rfl kZ (bf rfl) ((ag.aR ag.ao).trans (.cons _ (ag.aR ag.ao))) (Y:=fun _=>aX [_,_]) (fun _ _ h=>h) (fun w hk hm=>M_ s 17 b9 kn kK kL w ((hm.aR ((ag.aR ag.ao).trans (.cons _ (ag.aR ag.ao)))).fQ (rs:= [_,_])) (fun w' h'=>xB hs hk h' (hm.aR ((ag.aR ag.ao).trans (.cons _ (ag.aR ag.ao))))) hB  oM)) ?_;rintro⟨xC,xD⟩ ⟨rfl,qy,Be,Bf,rfl,qz⟩;apply ab 2;have Dw:qy≠ []:=fun h=>bY (qz.1.1 h).1;have Su:∀x∈qy,10≤x.aS:=fun x hx=>by rcases qz.2.1 x hx with h|h;(· exact sr x h);(· omega)
 have Sv:=qz.2.2;apply ab 4;refine h_ ?_;apply ab 15;apply kp 1 [2];apply Km 0 [1];exact ax rfl rfl ⟨qy,Be,Bf,rfl,rfl,⟨fun h=>absurd h Dw,fun h=>absurd h.2.2.1 aph⟩,oM⟩;have k9:xE≠ []:=Sq;have Jj:∀x∈xE,10≤x.aS:=fun x hx=>by rcases Bd.2.1 x hx with h|h;(· cases h);(· omega)
 have api:¬LN s:=fun h=>Sq (Bd.1.2 ⟨rfl,h⟩);have apj:=Bd.2.2;have Sw:([]:List bE).length=0:=rfl;apply ab 4;refine h_ ?_;apply ab 12;refine Qq 0 (Qi 13 rfl (.ae sZ) (hq:=(by decide))) ?_;refine Qq 14 (Qk rfl (.ae sZ) rfl) ?_;refine rM (.cons (iZ 0) (show cN _ (.ai b9 236 (bm 0 (bA s 14 (.slice Du (xE).length Dv))))from(.ai (eL [0,1,2,3,4,5,6,7]))) (dZ [0,0,0])) ?_;apply ab 8;apply Qw (wP k9);apply Qw (wP k9);apply Qw (wP k9);apply Qw (wP k9);apply Qw (wP k9);apply Qw (wP k9);apply ab 10;refine Qq 1 (Qi 0 rfl (.ae sZ) (hq:=(eD.2 k9))) ?_;refine Qq 2 (Qf rfl (.ae sZ) (bX (eD.2 k9))) ?_;apply Qw (wP k9);refine Qq 1 (jx rfl rfl (dz (by have:=eD.2 k9;omega)) rfl) ?_;refine dB rfl (cn (by have:=Jj _ (aB (eD.2 k9));omega)) ?_;apply ab 3;refine Hh (xA [_,_] _ rfl rfl rfl rfl kZ (bf rfl) ((ag.aR ag.ao).trans (.cons _ (ag.aR ag.ao))) (Y:=fun _=>aX [_,_]) (fun _ _ h=>h) (fun w hk hm=>Sj s 14 b9 xE Du Dv w ((hm.aR ((ag.aR ag.ao).trans (.cons _ (ag.aR ag.ao)))).fQ (rs:= [_,_])) (fun w' h'=>xB hs hk h' (hm.aR ((ag.aR ag.ao).trans (.cons _ (ag.aR ag.ao))))) hB  oM)) ?_;rintro⟨xC,xD⟩ ⟨rfl,kn,kK,kL,rfl,uu⟩;apply ab 2;have bY:kn≠ []:=fun h=>k9 (uu.1.1 h).1;have sr:∀x∈kn,10≤x.aS:=fun x hx=>by rcases uu.2.1 x hx with h|h;(· exact Jj x h);(· omega)
 have ab5:=uu.2.2;apply ab 4;refine h_ ?_;apply ab 12;refine Qq 0 (Qi 14 rfl (.ae sZ) (hq:=(by decide))) ?_;refine Qq 14 (Qk rfl (.ae sZ) rfl) ?_;refine rM (.cons (iZ 0) (show cN _ (.ai b9 236 (bm 0 (bA s 15 (.slice kK (kn).length kL))))from(.ai (eL [0,1,2,3,4,5,6,7]))) (dZ [0,0,0])) ?_;apply ab 8;apply Qw (wP bY);apply Qw (wP bY);apply Qw (wP bY);apply Qw (wP bY);apply Qw (wP bY);apply Qw (wP bY);apply ab 10;refine Qq 1 (Qi 0 rfl (.ae sZ) (hq:=(eD.2 bY))) ?_;refine Qq 2 (Qf rfl (.ae sZ) (bX (eD.2 bY))) ?_;apply Qw (wP bY);refine Qq 1 (jx rfl rfl (dz (by have:=eD.2 bY;omega)) rfl) ?_;refine dB rfl (cn (by have:=sr _ (aB (eD.2 bY));omega)) ?_;apply ab 3;refine Qq 6 (oa rfl rfl kZ (bf rfl) (fun w hk hm=>M4 s 15 (.slice kK (kn).length kL) b9 w (jX rfl (ag.ao.holds hm)) (hs.az hk) hB eK)) ?_;refine h_ ?_;apply ab 12;refine Qq 0 (Qi 15 rfl (.ae sZ) (hq:=(by decide))) ?_;refine Qq 14 (Qk rfl (.ae sZ) rfl) ?_;refine rM (.cons (iZ 0) (show cN _ (.ai b9 236 (bm 0 (bA s 16 (.slice kK (kn).length kL))))from(.ai (eL [0,1,2,3,4,5,6,7]))) (dZ [0,0,0])) ?_;apply ab 8;apply Qw (wP bY);apply Qw (wP bY);apply Qw (wP bY);apply Qw (wP bY);apply Qw (wP bY);apply Qw (wP bY);apply ab 10;refine Qq 1 (Qi 0 rfl (.ae sZ) (hq:=(eD.2 bY))) ?_;refine Qq 2 (Qf rfl (.ae sZ) (bX (eD.2 bY))) ?_;apply Qw (wP bY);refine Qq 1 (jx rfl rfl (dz (by have:=eD.2 bY;omega)) rfl) ?_;refine dB rfl (cn (by have:=sr _ (aB (eD.2 bY));omega)) ?_;apply ab 3;refine Qq 6 (oa rfl rfl kZ (bf rfl) (fun w hk hm=>M5 s 16 (.slice kK (kn).length kL) b9 w (jX rfl (ag.ao.holds hm)) (hs.az hk) hB)) ?_;refine h_ ?_;apply ab 12;refine Qq 0 (Qi 16 rfl (.ae sZ) (hq:=(by decide))) ?_;refine Qq 14 (Qk rfl (.ae sZ) rfl) ?_;refine rM (.cons (iZ 0) (show cN _ (.ai b9 236 (bm 0 (bA s 17 (.slice kK (kn).length kL))))from(.ai (eL [0,1,2,3,4,5,6,7]))) (dZ [0,0,0])) ?_;apply ab 8;apply Qw (wP bY);apply Qw (wP bY);apply Qw (wP bY);apply Qw (wP bY);apply Qw (wP bY);apply Qw (wP bY);apply ab 10;refine Qq 1 (Qi 0 rfl (.ae sZ) (hq:=(eD.2 bY))) ?_;refine Qq 2 (Qf rfl (.ae sZ) (bX (eD.2 bY))) ?_;apply Qw (wP bY);refine Qq 1 (jx rfl rfl (dz (by have:=eD.2 bY;omega)) rfl) ?_;refine dB rfl (cn (by have:=sr _ (aB (eD.2 bY));omega)) ?_;apply ab 3;refine Hh (xA [_,_] _ rfl rfl rfl rfl kZ (bf rfl) ((ag.aR ag.ao).trans (.cons _ (ag.aR ag.ao))) (Y:=fun _=>aX [_,_]) (fun _ _ h=>h) (fun w hk hm=>M_ s 17 b9 kn kK kL w ((hm.aR ((ag.aR ag.ao).trans (.cons _ (ag.aR ag.ao)))).fQ (rs:= [_,_])) (fun w' h'=>xB hs hk h' (hm.aR ((ag.aR ag.ao).trans (.cons _ (ag.aR ag.ao))))) hB  oM)) ?_;rintro⟨xC,xD⟩ ⟨rfl,qy,Be,Bf,rfl,qz⟩;apply ab 2;have Dw:qy≠ []:=fun h=>bY (qz.1.1 h).1;have Su:∀x∈qy,10≤x.aS:=fun x hx=>by rcases qz.2.1 x hx with h|h;(· exact sr x h);(· omega)
 have Sv:=qz.2.2;apply ab 4;refine h_ ?_;apply ab 15;apply kp 1 [2];apply Km 0 [1];exact ax rfl rfl ⟨qy,Be,Bf,rfl,rfl,⟨fun h=>absurd h Dw,fun h=>absurd h.2.1 api⟩,oM⟩;have uv:Ji≠ []:=Sm;have ab6:∀x∈Ji,10≤x.aS:=fun x hx=>by rcases Nc.2.1 x hx with h|h;(· cases h);(· omega)
 have apk:¬LM s:=fun h=>Sm (Nc.1.2 ⟨rfl,h⟩);have awL:=Nc.2.2;have Sw:([]:List bE).length=0:=rfl;apply ab 4;refine h_ ?_;apply ab 12;refine Qq 0 (Qi 12 rfl (.ae sZ) (hq:=(by decide))) ?_;refine Qq 14 (Qk rfl (.ae sZ) rfl) ?_;refine rM (.cons (iZ 0) (show cN _ (.ai b9 236 (bm 0 (bA s 13 (.slice Na (Ji).length Nb))))from(.ai (eL [0,1,2,3,4,5,6,7]))) (dZ [0,0,0])) ?_;apply ab 8;apply Qw (wP uv);apply Qw (wP uv);apply Qw (wP uv);apply Qw (wP uv);apply Qw (wP uv);apply Qw (wP uv);apply ab 10;refine Qq 1 (Qi 0 rfl (.ae sZ) (hq:=(eD.2 uv))) ?_;refine Qq 2 (Qf rfl (.ae sZ) (bX (eD.2 uv))) ?_;apply Qw (wP uv);refine Qq 1 (jx rfl rfl (dz (by have:=eD.2 uv;omega)) rfl) ?_;refine dB rfl (cn (by have:=ab6 _ (aB (eD.2 uv));omega)) ?_;apply ab 3;refine Hh (xA [_,_] _ rfl rfl rfl rfl kZ (bf rfl) ((ag.aR ag.ao).trans (.cons _ (ag.aR ag.ao))) (Y:=fun _=>aX [_,_]) (fun _ _ h=>h) (fun w hk hm=>abD s 13 b9 Ji Na Nb w ((hm.aR ((ag.aR ag.ao).trans (.cons _ (ag.aR ag.ao)))).fQ (rs:= [_,_])) (fun w' h'=>xB hs hk h' (hm.aR ((ag.aR ag.ao).trans (.cons _ (ag.aR ag.ao))))) hB  oM)) ?_;rintro⟨xC,xD⟩ ⟨rfl,xE,Du,Dv,rfl,Bd⟩;apply ab 2;have k9:xE≠ []:=fun h=>uv (Bd.1.1 h).1;have Jj:∀x∈xE,10≤x.aS:=fun x hx=>by rcases Bd.2.1 x hx with h|h;(· exact ab6 x h);(· omega)
 have apj:=Bd.2.2;apply ab 4;refine h_ ?_;apply ab 12;refine Qq 0 (Qi 13 rfl (.ae sZ) (hq:=(by decide))) ?_;refine Qq 14 (Qk rfl (.ae sZ) rfl) ?_;refine rM (.cons (iZ 0) (show cN _ (.ai b9 236 (bm 0 (bA s 14 (.slice Du (xE).length Dv))))from(.ai (eL [0,1,2,3,4,5,6,7]))) (dZ [0,0,0])) ?_;apply ab 8;apply Qw (wP k9);apply Qw (wP k9);apply Qw (wP k9);apply Qw (wP k9);apply Qw (wP k9);apply Qw (wP k9);apply ab 10;refine Qq 1 (Qi 0 rfl (.ae sZ) (hq:=(eD.2 k9))) ?_;refine Qq 2 (Qf rfl (.ae sZ) (bX (eD.2 k9))) ?_;apply Qw (wP k9);refine Qq 1 (jx rfl rfl (dz (by have:=eD.2 k9;omega)) rfl) ?_;refine dB rfl (cn (by have:=Jj _ (aB (eD.2 k9));omega)) ?_;apply ab 3;refine Hh (xA [_,_] _ rfl rfl rfl rfl kZ (bf rfl) ((ag.aR ag.ao).trans (.cons _ (ag.aR ag.ao))) (Y:=fun _=>aX [_,_]) (fun _ _ h=>h) (fun w hk hm=>Sj s 14 b9 xE Du Dv w ((hm.aR ((ag.aR ag.ao).trans (.cons _ (ag.aR ag.ao)))).fQ (rs:= [_,_])) (fun w' h'=>xB hs hk h' (hm.aR ((ag.aR ag.ao).trans (.cons _ (ag.aR ag.ao))))) hB  oM)) ?_;rintro⟨xC,xD⟩ ⟨rfl,kn,kK,kL,rfl,uu⟩;apply ab 2;have bY:kn≠ []:=fun h=>k9 (uu.1.1 h).1;have sr:∀x∈kn,10≤x.aS:=fun x hx=>by rcases uu.2.1 x hx with h|h;(· exact Jj x h);(· omega)
 have ab5:=uu.2.2;apply ab 4;refine h_ ?_;apply ab 12;refine Qq 0 (Qi 14 rfl (.ae sZ) (hq:=(by decide))) ?_;refine Qq 14 (Qk rfl (.ae sZ) rfl) ?_;refine rM (.cons (iZ 0) (show cN _ (.ai b9 236 (bm 0 (bA s 15 (.slice kK (kn).length kL))))from(.ai (eL [0,1,2,3,4,5,6,7]))) (dZ [0,0,0])) ?_;apply ab 8;apply Qw (wP bY);apply Qw (wP bY);apply Qw (wP bY);apply Qw (wP bY);apply Qw (wP bY);apply Qw (wP bY);apply ab 10;refine Qq 1 (Qi 0 rfl (.ae sZ) (hq:=(eD.2 bY))) ?_;refine Qq 2 (Qf rfl (.ae sZ) (bX (eD.2 bY))) ?_;apply Qw (wP bY);refine Qq 1 (jx rfl rfl (dz (by have:=eD.2 bY;omega)) rfl) ?_;refine dB rfl (cn (by have:=sr _ (aB (eD.2 bY));omega)) ?_;apply ab 3;refine Qq 6 (oa rfl rfl kZ (bf rfl) (fun w hk hm=>M4 s 15 (.slice kK (kn).length kL) b9 w (jX rfl (ag.ao.holds hm)) (hs.az hk) hB eK)) ?_;refine h_ ?_;apply ab 12;refine Qq 0 (Qi 15 rfl (.ae sZ) (hq:=(by decide))) ?_;refine Qq 14 (Qk rfl (.ae sZ) rfl) ?_;refine rM (.cons (iZ 0) (show cN _ (.ai b9 236 (bm 0 (bA s 16 (.slice kK (kn).length kL))))from(.ai (eL [0,1,2,3,4,5,6,7]))) (dZ [0,0,0])) ?_;apply ab 8;apply Qw (wP bY);apply Qw (wP bY);apply Qw (wP bY);apply Qw (wP bY);apply Qw (wP bY);apply Qw (wP bY);apply ab 10;refine Qq 1 (Qi 0 rfl (.ae sZ) (hq:=(eD.2 bY))) ?_;refine Qq 2 (Qf rfl (.ae sZ) (bX (eD.2 bY))) ?_;apply Qw (wP bY);refine Qq 1 (jx rfl rfl (dz (by have:=eD.2 bY;omega)) rfl) ?_;refine dB rfl (cn (by have:=sr _ (aB (eD.2 bY));omega)) ?_;apply ab 3;refine Qq 6 (oa rfl rfl kZ (bf rfl) (fun w hk hm=>M5 s 16 (.slice kK (kn).length kL) b9 w (jX rfl (ag.ao.holds hm)) (hs.az hk) hB)) ?_;refine h_ ?_;apply ab 12;refine Qq 0 (Qi 16 rfl (.ae sZ) (hq:=(by decide))) ?_;refine Qq 14 (Qk rfl (.ae sZ) rfl) ?_;refine rM (.cons (iZ 0) (show cN _ (.ai b9 236 (bm 0 (bA s 17 (.slice kK (kn).length kL))))from(.ai (eL [0,1,2,3,4,5,6,7]))) (dZ [0,0,0])) ?_;apply ab 8;apply Qw (wP bY);apply Qw (wP bY);apply Qw (wP bY);apply Qw (wP bY);apply Qw (wP bY);apply Qw (wP bY);apply ab 10;refine Qq 1 (Qi 0 rfl (.ae sZ) (hq:=(eD.2 bY))) ?_;refine Qq 2 (Qf rfl (.ae sZ) (bX (eD.2 bY))) ?_;apply Qw (wP bY);refine Qq 1 (jx rfl rfl (dz (by have:=eD.2 bY;omega)) rfl) ?_;refine dB rfl (cn (by have:=sr _ (aB (eD.2 bY));omega)) ?_;apply ab 3;refine Hh (xA [_,_] _ rfl rfl rfl rfl kZ (bf rfl) ((ag.aR ag.ao).trans (.cons _ (ag.aR ag.ao))) (Y:=fun _=>aX [_,_]) (fun _ _ h=>h) (fun w hk hm=>M_ s 17 b9 kn kK kL w ((hm.aR ((ag.aR ag.ao).trans (.cons _ (ag.aR ag.ao)))).fQ (rs:= [_,_])) (fun w' h'=>xB hs hk h' (hm.aR ((ag.aR ag.ao).trans (.cons _ (ag.aR ag.ao))))) hB  oM)) ?_;rintro⟨xC,xD⟩ ⟨rfl,qy,Be,Bf,rfl,qz⟩;apply ab 2;have Dw:qy≠ []:=fun h=>bY (qz.1.1 h).1;have Su:∀x∈qy,10≤x.aS:=fun x hx=>by rcases qz.2.1 x hx with h|h;(· exact sr x h);(· omega)
 have Sv:=qz.2.2;apply ab 4;refine h_ ?_;apply ab 15;apply kp 1 [2];apply Km 0 [1];exact ax rfl rfl ⟨qy,Be,Bf,rfl,rfl,⟨fun h=>absurd h Dw,fun h=>absurd h.1 apk⟩,oM⟩
theorem ab7(s:aw)(W:World)(hs:s.rd W)(hB:cx s)(eK:s.ms.length≤s.mc):Calls prog 17 #[s.val] W (bK W nX fun v m=>∃(n:Nat) (O:Option Addr) (co:Nat),v= .slice O n co∧m= []∧(n=0↔mQ s)):=by
 apply En 2 func17 ntmps17;refine Nw 5 fun b1=>?_;refine Hh (Hc rfl fun w hk _=>ab4 s w (hs.az hk) hB eK) ?_;rintro⟨va,ma⟩ ⟨vl,O,co,rfl,rfl,cu,nP⟩;apply ab 2;apply kp 1 [2,3];refine uW ag.ao (fun je=>?_);apply ab 4;refine Qq 0 (N3 rfl rfl rfl) ?_;refine Qq 2 (BF rfl zU zS rfl rfl  oM) ?_;apply kp 1 [2];apply Km 0 [];exact ax rfl rfl ⟨min vl.length 200,O,co,by congr 1;omega,rfl,by rw [←cu,←List.length_eq_zero_iff];omega⟩
theorem FK(s:aw)(W:World)(hs:s.rd W)(hB:cx s)(eK:s.ms.length≤s.mc)(jY:mQ s):Calls prog 28 #[s.val] W (Hr.aK W (.bool true)):=by
 apply Ej 2 func28 ntmps28;refine Nw 5 fun b1=>?_;refine Hh (Hc rfl fun w hk _=>ab4 s w (hs.az hk) hB eK) ?_;rintro⟨va,ma⟩ ⟨vl,O,co,rfl,rfl,cu,nP⟩;apply ab 4;apply kp 1 [2];apply Km 0 [];exact ax rfl rfl (aC Value.bool (by rw [cu.2 jY];rfl))
theorem apl{ab8:Option Addr}{ab9 Ja:Nat}:prog.built 32 [(2,.slice ab8 ab9 Ja)]=some #[.string (ByteArray.mk #[]),.bool false,.slice ab8 ab9 Ja,zq,zq,zq]:=by kernel_rfl
def xF(i:jT):Prop:= -77≤i.cp∧i.cp≤77∧-140≤i.bF∧i.bF≤140
theorem apm(i a b:jT)(A:Option Addr)(W:World)(hm:Mem (aX [.ae 63 2 A 2 2 ([a,b].map jT.enc)]) W [.ae 63 2 A 2 2 ([a,b].map jT.enc)] W)(hi:xF i)(ha:xF a)(hb:xF b):Calls prog 119 #[i.val,.slice A 2 2] W (bK W (aX [.ae 63 2 A 2 2 ([a,b].map jT.enc)]) fun v m=>v= .tuple #[i.val,Iv 0]∧m= []):=by
 have eO:∀x∈ [a,b,i],xF x:=fun x hx=>by simp only [ib,zD,zF]at hx;rcases hx with rfl|rfl|rfl<;>assumption
 refine Ea (X:=_) func119 ntmps119 hm ?_;apply ab 2;refine Nw 0 fun b2=>?_;refine Nw 7 fun b4=>?_;refine Nw 0 fun iY=>?_;refine Hh (cY rfl rfl rfl zU zI rfl rfl sZ rfl (.ae sZ)  sM  (bQ rfl) (bQ rfl)  oM oM) ?_;rintro⟨A12,c12⟩-;apply ab 3;apply kp 1 [2,4,5,12,13,14];apply Ks 0 [14,2,4,5,12,13] [0,0,0,0];refine o7 (ι:=Nat) (fun k=>k≤3) (fun k=>Iv k) (fun k=> .ae 63 2 A12 3 c12 ([a,b,i].map jT.enc)) (fun k=>3-k) 0 dO rfl (.ae rfl rfl rfl rfl) ?_;rintro k ct;(try dsimp only at ct);apply Cd 5;intros;apply ab 5;refine Qq 0 (Qi k rfl (.ae sZ)) ?_;refine Qq 0 (Qe rfl (.ae sZ) (bX (by simp;omega))) ?_;refine Nw 5 fun b7=>?_;refine Qq 14 (Qc rfl fun w _ _=>Rc (aa [a,b,i] k) w (eO _ (aB (by simp;omega)))) ?_;apply kp 0 [2,4,5,12,13,14];refine Ag (k+1) ?_;omega;intros;apply ab 1;apply kp 7 [2,4,5];exact cK rfl oZ _ .nil ⟨rfl,rfl⟩
theorem apq(a b:jT)(W:World)(ha:xF a)(hb:xF b)(hd:xF ⟨a.cp-b.cp,a.bF-b.bF⟩):Calls prog 66 #[a.val,b.val] W (Hr.aK W (.tuple #[(jT.mk (a.cp-b.cp) (a.bF-b.bF)).val,Iv 0])):=by
 unfold xF at ha hb hd;apply Ej 2 func66 ntmps66;refine Nw 0 fun b2=>?_;refine Nw 0 fun b3=>?_;refine Nw 14 fun b4=>?_;refine Qq 2 (bB rfl vZ (Iy)) ?_;refine Nw 0 fun ss=>?_;refine Hh (Hx [0] rfl rfl fun w _ _ _ hg=>apm ⟨a.cp-b.cp,a.bF-b.bF⟩ a b (some ⟨ss,0,none⟩) w hg hd ha hb) ?_;rintro⟨v20,m20⟩ ⟨rfl,rfl⟩;apply ab 5;apply kp 1 [4,5];exact cK rfl oZ _ .nil rfl
theorem apt(r l:Int)(W:World)(h:1≤r∧r≤1000∧1≤l∧l≤8):Calls prog 19 #[.agg #[Iv r,Iv l]] W (Hr.aK W (Iv 0)):=by
 apply Ej 2 func19 ntmps19;refine Nw 12 fun b1=>?_;refine Qq 4 (df rfl rfl (cn  oM) rfl) ?_;refine Qq 4 (df rfl rfl (cn  oM) rfl) ?_;refine Qq 1 (df rfl rfl (cn  oM) rfl) ?_;apply kp 7 [2,20];exact ax rfl rfl rfl
theorem apu(s:aw)(k:Nat)(W:World)(hs:s.rd W)(hB:cx s)(eK:s.ms.length≤s.mc)(jY:mQ s)(bx:k<s.ps.length):Calls prog 18 #[s.val,Iv k] W (Hr.aK W (Iv 0)):=by
 apply Ej 2 func18 ntmps18;refine Nw 6 fun b2=>?_;refine Qq 15 (Qc rfl fun w hk _=>FK s w (hs.az hk) hB eK jY) ?_;refine Qq 1 (df rfl rfl (cn  oM) rfl) ?_;apply kp 7 [4,16];exact ax rfl rfl rfl
theorem apv{s:aw}{k:Nat}(hP:∀p∈s.ps,kS p)(hk:k<s.ps.length):dP s k<bC s.ps:=by
 have h1:=Hz hk;have h2:=LG (ps:=s.ps) (k:=k+1);have h3:=(hP _ (aB hk)).st;unfold dP;omega
def Nd(s:aw)(k:Nat):aw:=⟨ByteArray.mk #[],false,s.ps.take k, [], [], [],s.PA,s.pc,none,0,none,0,none,0⟩
theorem apw{s:aw}{k:Nat}(h:k<s.ps.length):(.agg #[.string (ByteArray.mk #[]),.bool false,.slice s.PA k s.pc,.slice none 0 0,.slice none 0 0,.slice none 0 0]:Value)=(Nd s k).val:=by
 have e:(s.ps.take k).length=k:=by rw [fL];omega
 unfold aw.val aw.enc Nd;rw [e];rfl
theorem Sy(s:aw)(k:Nat)(W:World)(hp:Rd W s.PA 6 (s.ps.map bw.enc))(Jk:∀x∈s.ps,x.rd W)(hl:s.ps.length≤3∧∀p∈s.ps,p.st.length≤2)(bx:k<s.ps.length)(vP:s.ps.length≤s.pc):Calls prog 32 #[s.val,Iv k] W (Hr.aK W (.tuple #[Iv (dP s k:Int),Iv 0])):=by
 apply Ej 2 func32 ntmps32;refine Nw 14 fun b2=>?_;refine Qq 1 (df rfl rfl (cn  oM) rfl) ?_;apply kp 7 [1,2,4,5,14];refine Qq 0 (BF rfl zU zS rfl rfl  oM) ?_;refine Qq 0 (bB rfl vZ (apl)) ?_;refine eh (au (.cons (s:=1) rfl (.cons (s:=2) rfl (.cons (s:=4) rfl (.cons (s:=5) rfl (.cons (s:=14) rfl (.cons (s:=15) rfl (.cons (s:=16) rfl (.cons (s:=17) rfl (.cons (s:=18) rfl (.aF (s:=19) (v':=(Nd s k).val) rfl (apw bx) .nil)))))))))) .refl) ?_;refine Qq 3 (Qc rfl fun w hk _=>Iw (Nd s k) w (by have h:=(hp.az hk).take k;rw [←xW]at h;exact h) (fun x hx=>(Jk x (wi hx)).az hk) ⟨by show(s.ps.take k).length≤3;rw [fL];omega,fun p hp=>hl.2 p (wi hp)⟩) ?_;apply kp 1 [4,5];exact eY rfl rfl rfl rfl
def xG(e:bz):Bool:=(e.n.bh==1)&&decide (0<(e.hs.length:Int))
def FL(v:aW):Bool:=v.es.any fun e=>xG e.x
def acd(m:aD)(c:Nat):Bool:= !(aa m.cs c).vs.any FL
theorem apP(e:aN)(W:World)(hf:e.x.dX):Calls prog 116 #[.agg e.enc.toArray] W (Hr.aK W (.bool (xG e.x))):=by
 apply Ej 2 func116 ntmps116;refine Nw 8 fun b1=>?_;apply Sd 0 6;intro _ g6;apply ab 7;apply kp 1 [2];exact ax rfl rfl (aC Value.bool (by first|(simp only [xG,g6,eN,gq,j5,kN,jv,l9,iu,l_,mf,lG];done)|(simp [xG,g6];done)));intro _ g6;apply ab 7;apply kp 1 [2];exact ax rfl rfl (aC Value.bool (by first|(simp only [xG,g6,eN,gq,j5,kN,jv,l9,iu,l_,mf,lG];done)|(simp [xG,g6];done)))
theorem apQ(l:List aN)(A:Option Addr)(ca:Nat)(W:World)(hr:Rd W A 13 (l.map aN.enc))(hl:l.length≤1000000)(xw:∀x∈l,x.x.dX):Calls prog 193 #[.slice A l.length ca,.func (.func 116) #[] #[]] W (Hr.aK W (Iv (bV.lO (fun e:aN=>xG e.x) l))):=by
 apply Ej 12 func193 ntmps193;apply Ks 0 [8,0,1,4,7] [];refine dI (ι:=Nat) (fun k=>k≤l.length∧bV.eI (fun e:aN=>xG e.x) l=k+bV.eI (fun e:aN=>xG e.x) (l.drop k)) (fun k=>Iv k) (fun k=>l.length-k) 0 (by(try dsimp only);exact⟨oM,by simp⟩) rfl ?_;rintro k hq;(try dsimp only at hq);obtain⟨hk,fh⟩:=hq;apply Cd 5;intros;apply ab 13;refine Qq 0 (Qi k rfl (.aq hr .no)) ?_;refine Qq 0 (Qe rfl (.aq hr .no)) ?_;refine Qq 1 (eU rfl rfl kZ (bf rfl) (fun w hk hm=>apP (aa l k) w (xw _ (aB  oM)))) ?_;apply kp 0 [0,1,4,5,7,8,16];apply Cd 0;intro _ fc;apply ab 5;apply kp 1 [0,1,4,7,8];exact ax rfl rfl (by rw [bV.yh  oM fh (by simpa using fc)]);intro _ fc;apply ab 6;apply kp 0 [0,1,4,7,8];refine Ag (k+1) ?_;exact⟨oM,bV.yg  oM fh (by simpa using fc)⟩;intros;apply ab 1;apply kp 5 [4];exact ax rfl rfl (by rw [bV.yi  oM fh])
theorem apR(l:List aN)(A:Option Addr)(ca:Nat)(W:World)(hr:Rd W A 13 (l.map aN.enc))(hl:l.length≤1000000)(xw:∀x∈l,x.x.dX):Calls prog 115 #[.slice A l.length ca,.func (.func 116) #[] #[]] W (Hr.aK W (.bool (l.any (fun e:aN=>xG e.x)))):=by
 apply Ej 8 func115 ntmps115;refine Qq 3 (Qc rfl fun w hk _=>apQ l A ca w (hr.az hk) hl xw) ?_;apply kp 1 [4];exact ax rfl rfl (aC Value.bool (G_ l))
theorem apS(v:aW)(W:World)(hv:v.rd W)(hs:xn v):Calls prog 114 #[.agg v.enc.toArray] W (Hr.aK W (.bool (FL v))):=by
 have he:=hs.es;apply Ej 2 func114 ntmps114;refine Nw 6 fun b1=>?_;refine Qq 2 (Qc rfl fun w hk _=>apR v.es v.EA v.ec w (hv.e.az hk)  oM hs.dX) ?_;apply kp 1 [2];exact ax rfl rfl rfl
theorem apT(l:List aW)(A:Option Addr)(ca:Nat)(W:World)(hr:Rd W A 2 (l.map aW.enc))(hl:l.length≤1000000)(Jl:∀x∈l,x.rd W∧xn x):Calls prog 192 #[.slice A l.length ca,.func (.func 114) #[] #[]] W (Hr.aK W (Iv (bV.lO FL l))):=by
 apply Ej 12 func192 ntmps192;apply Ks 0 [8,0,1,4,7] [];refine dI (ι:=Nat) (fun k=>k≤l.length∧bV.eI FL l=k+bV.eI FL (l.drop k)) (fun k=>Iv k) (fun k=>l.length-k) 0 (by(try dsimp only);exact⟨oM,by simp⟩) rfl ?_;rintro k hq;(try dsimp only at hq);obtain⟨hk,fh⟩:=hq;apply Cd 5;intros;apply ab 13;refine Qq 0 (Qi k rfl (.aq hr .no)) ?_;refine Qq 0 (Qe rfl (.aq hr .no)) ?_;refine Qq 1 (eU rfl rfl kZ (bf rfl) (fun w hk hm=>apS (aa l k) w ((Jl _ (aB  oM)).1.az hk) (Jl _ (aB  oM)).2)) ?_;apply kp 0 [0,1,4,5,7,8,16];apply Cd 0;intro _ fc;apply ab 5;apply kp 1 [0,1,4,7,8];exact ax rfl rfl (by rw [bV.yh  oM fh (by simpa using fc)]);intro _ fc;apply ab 6;apply kp 0 [0,1,4,7,8];refine Ag (k+1) ?_;exact⟨oM,bV.yg  oM fh (by simpa using fc)⟩;intros;apply ab 1;apply kp 5 [4];exact ax rfl rfl (by rw [bV.yi  oM fh])
theorem apU(l:List aW)(A:Option Addr)(ca:Nat)(W:World)(hr:Rd W A 2 (l.map aW.enc))(hl:l.length≤1000000)(Jl:∀x∈l,x.rd W∧xn x):Calls prog 113 #[.slice A l.length ca,.func (.func 114) #[] #[]] W (Hr.aK W (.bool (l.any FL))):=by
 apply Ej 8 func113 ntmps113;refine Qq 3 (Qc rfl fun w hk _=>apT l A ca w (hr.az hk) hl (fun x hx=>⟨(Jl x hx).1.az hk,(Jl x hx).2⟩)) ?_;apply kp 1 [4];exact ax rfl rfl (aC Value.bool (G_ l))
theorem apV(m:aD)(c:Nat)(W:World)(hr:m.rd W)(hs:yU m)(hc:c<m.cs.length):Calls prog 60 #[.agg m.enc.toArray,Iv c] W (Hr.aK W (.bool (acd m c))):=by
 have hc6:=hs.cs;have hv2:=(hs.c _ (aB hc)).vs;apply Ej 2 func60 ntmps60;refine Nw 13 fun b2=>?_;refine Qq 8 (df rfl rfl (cn  oM) rfl) ?_;refine Qq 1 (Qi c rfl (.aq hr.c .no)) ?_;refine Qq 0 (Qf rfl (.aq hr.c .no)) ?_;refine Qq 3 (Qc rfl fun w hk _=>apU (aa m.cs c).vs (aa m.cs c).VA (aa m.cs c).vc w (((hr.r _ (aB hc)).v).az hk)  oM (fun x hx=>⟨((hr.r _ (aB hc)).r x hx).az hk,(hs.c _ (aB hc)).v x hx⟩)) ?_;apply kp 1 [4];exact ax rfl rfl rfl
theorem apY(s:aw)(k:Nat)(W:World)(hs:s.rd W)(hB:cx s)(vP:s.ps.length≤s.pc)(bx:k<s.ps.length):Calls prog 24 #[s.val,Iv k] W (bK W nX fun v m=>∃(l:List Bool) (O:Option Addr) (co:Nat),v= .slice O l.length co∧m= [.ae 4 1 O l.length co (l.map qm)]∧l.length=s.ms.length):=by
 have dx:=hB.ml;have gS:=hB.pl;have r7:∀p∈s.ps,p.st.length≤2:=fun p hp=>by have:=(hB.ps p hp).st;omega
 have FM:=LG (ps:=s.ps) (k:=k+1);rw [Hz bx]at FM;have hS:=hB.mN;have hZ:=hB.sn;have hod:dP s k+(aa s.ps k).st.length≤bC s.ps:=FM;apply En 2 func24 ntmps24;refine Nw 6 fun b2=>?_;refine Qq 11 (Qc rfl fun w hk _=>Sy s k w (hs.p.az hk) (fun x hx=>(hs.pr x hx).az hk) ⟨gS.2,r7⟩ bx vP) ?_;refine Hh (GG (m:=s.ms.length) (cap:=s.ms.length) rfl rfl rfl zU zI rfl rfl (cm _)  oM oM) ?_;rintro fK-;apply ab 2;apply kp 9 [1,2,4,5,7];apply Ks 0 [24,1,2,4,5,7,22,23] [0,0];refine o7 (ι:=Nat×(List Bool)) (fun gg=>gg.1≤s.ms.length∧gg.2.length=s.ms.length) (fun gg=>Iv (gg.1:Int)) (fun gg=> .ae 4 1 (some ⟨fK,0,none⟩) s.ms.length s.ms.length ((gg.2).map qm)) (fun gg=>s.ms.length-gg.1) (0,List.replicate s.ms.length false) (by(try dsimp only);exact⟨oM,by simp⟩) rfl (.ae rfl rfl rfl (by rw [List.map_replicate];rfl)) ?_;rintro⟨i,l⟩ hq;(try dsimp only at hq);obtain⟨jZ,jL⟩:=hq;refine sW ⟨(24,Iv i)::_,.ae 4 1 (some ⟨fK,0,none⟩) s.ms.length s.ms.length ((l).map qm)::_⟩ ?_;apply Cd 5;intros;have bp:i<s.ms.length:=oM
 have ab_:(aa s.ms i).cs.length=bC s.ps:=(hB.g _ (aB bp)).cs;apply ab 6;refine Qq 0 (Qi i rfl (.aq hs.m .no)) ?_;refine Qq 0 (Qe rfl (.aq hs.m .no)) ?_;refine Nw 7 fun b9=>?_;refine Qq 0 (Qi i rfl (.ae sZ) (hl:=(by simp;omega))) ?_;refine Hh (oY rfl rfl zS rfl rfl rfl rfl rfl sZ  oM) ?_;rintro- -;apply ab 6;refine Qq 1 (Qi k rfl (.aq hs.p .no)) ?_;refine Qq 3 (Qf rfl (.aq hs.p .no)) ?_;apply kp 1 [1,2,4,5,7,8,9,22,23,24,38,39];apply Ks 0 [39,1,2,4,5,7,8,9,22,23,24,38] [0,0,0];refine o7 (ι:=Nat×(List Bool)) (fun gg=>gg.1≤(aa s.ps k).st.length∧gg.2.length=s.ms.length) (fun gg=>Iv (gg.1:Int)) (fun gg=> .ae 4 1 (some ⟨fK,0,none⟩) s.ms.length s.ms.length ((gg.2).map qm)) (fun gg=>(aa s.ps k).st.length-gg.1) (0,l.set i true) (by(try dsimp only);exact⟨oM,by simp;omega⟩) rfl (.ae rfl rfl rfl (by rw [gp];rfl)) ?_;rintro⟨j,l2⟩ hq;(try dsimp only at hq);obtain⟨Bi,vy⟩:=hq;refine sW ⟨(39,Iv j)::_,.ae 4 1 (some ⟨fK,0,none⟩) s.ms.length s.ms.length ((l2).map qm)::_⟩ ?_;apply Cd 5;intros;have gL:j<(aa s.ps k).st.length:=oM
 have ry:dP s k+j<(aa s.ms i).cs.length:=by rw [ab_];unfold dP;omega
 apply ab 13;refine Qq 0 (Qi i rfl (.ae sZ) (hl:=(by simp;omega))) ?_;refine Qq 1 (Qk rfl (.ae sZ)) ?_;apply Sd 0 48;intro _ g48;apply ab 4;refine eh (au (.cons (s:=39) rfl (.cons (s:=1) rfl (.cons (s:=2) rfl (.cons (s:=4) rfl (.cons (s:=5) rfl (.cons (s:=7) rfl (.cons (s:=8) rfl (.cons (s:=9) rfl (.cons (s:=22) rfl (.cons (s:=23) rfl (.cons (s:=24) rfl (.cons (s:=38) rfl (.cons (s:=40) rfl (.cons (s:=41) rfl (.cons (s:=10) rfl (.cons (s:=42) rfl (.cons (s:=43) rfl (.cons (s:=44) rfl (.cons (s:=45) rfl (.cons (s:=46) rfl (.cons (s:=47) rfl (.cons (s:=48) rfl (.cons (s:=49) rfl (.cons (s:=50) rfl (.cons (s:=51) rfl (.aF (s:=52) (v':=Iv ((dP s k+j:Nat):Int)) rfl (aO  oM) .nil)))))))))))))))))))))))))) .refl) ?_;refine Qq 1 (Qc rfl fun w hk _=>apV (aa s.ms i) (dP s k+j) w ((hs.mr _ (aB bp)).az hk) (hS.sm _ (aB bp))  oM) ?_;refine Qq 0 (Qi i rfl (.ae sZ) (hl:=(by simp;omega))) ?_;refine Hh (oY rfl rfl zS rfl rfl rfl rfl rfl sZ  oM) ?_;rintro- -;apply ab 1;apply kp 5 [1,2,4,5,7,8,9,22,23,24,38,39];refine Ag (j+1,l2.set i (acd (aa s.ms i) (dP s k+j))) ?_ (hs:=au nZ (.cons (iZ 0) (.ae rfl rfl rfl (by rw [gp];rfl)) mZ));exact⟨oM,by simp;omega⟩;intro _ g48;apply ab 6;refine Qq 0 (Qi i rfl (.ae sZ) (hl:=(by simp;omega))) ?_;refine Hh (oY rfl rfl zS rfl rfl rfl rfl rfl sZ  oM) ?_;rintro- -;apply ab 1;apply kp 5 [1,2,4,5,7,8,9,22,23,24,38,39];refine Ag (j+1,l2.set i false) ?_ (hs:=au nZ (.cons (iZ 0) (.ae rfl rfl rfl (by rw [gp];rfl)) mZ));exact⟨oM,by simp;omega⟩;intros;apply ab 1;apply kp 5 [1,2,4,5,7,22,23,24];refine Ag (i+1,l2) ?_;exact⟨oM,vy⟩;intros;apply ab 1;apply kp 6 [4,7];refine rM (.cons (iZ 0) (.ae (m':=l.length) (du:=l.map qm) rfl  oM rfl rfl) .nil) ?_;exact ax rfl rfl ⟨l,some ⟨fK,0,none⟩,s.ms.length,by rw [jL],rfl,jL⟩
theorem ap5(A:Option Addr)(n ca:Nat)(r q:Int)(W:World):Calls prog 23 #[.slice A n ca,.agg #[Iv r,Iv q]] W (bK W nX fun v m=>∃q2 q3:Nat,v= .func (.func 59) #[] #[.pointer (some ⟨q2,0,none⟩),.pointer (some ⟨q3,0,none⟩)]∧m= [.ai q3 39 [(0,Iv r),(1,Iv q)],.ai q2 102 [(0,.slice A n ca)]]):=by
 apply En 2 func23 ntmps23;refine Nw 0 fun b2=>?_;refine Nw 4 fun b3=>?_;refine Qq 2 (iN rfl (bf rfl)) ?_;apply kp 1 [4];refine rM (.cons (iZ 0) (.ai (eL [0,1])) (.cons (iZ 0) (.ai (eL [0])) .nil)) ?_;exact ax rfl rfl ⟨b2,b3,rfl,rfl⟩
def acg(p:Nat×Nat):List Value:= [Iv (p.1:Int),Iv (p.2:Int)]
theorem SB{R:Int}:∀{l:List Bool} {i f:Nat},(km R i f l).length≤l.length
 | [],_,_=>cm _
 |true::r,i,f=>by
  have:=SB (R:=R) (l:=r) (i:=i+1) (f:=f)
  show(km R (i+1) f r).length≤r.length+1
  omega
 |false::r,i,f=>by
  have:=SB (R:=R) (l:=r) (i:=i+1) (f:=i+1)
  rw [km]
  split
  ·rw [fW,fW];omega
  ·rw [fW];omega
theorem ap6(l:Nat)(bs:List Bool)(A:Option Addr)(ca b2 b3:Nat)(r q:Int)(J Jx:List (Nat×Nat)→List ak→Prop)(bt:List ak)(h0:J [] bt)(W:World)(gK:Mem (aX bt) W bt W){Ho:World→List ak→Prop}(hF:∀w rs,aU (aX bt) W w→(∀r∈rs,∀b,r.at b→W.heap.size≤b∨aX bt b)→Ho w rs)(hY:Nf prog l acg J Jx (fun bo x=>∃t,km r 0 0 bs=bo++x::t) Ho){W0:World}(ux:aU nX W0 W)(uy:∀b,aX bt b→W0.heap.size≤b)(nW:Rd W (some ⟨b2,0,none⟩) 1 [[.slice A bs.length ca]])(SC:oh (aX bt) (some ⟨b2,0,none⟩))(Nh:Rd W (some ⟨b3,0,none⟩) 2 [[Iv r,Iv q]])(SD:oh (aX bt) (some ⟨b3,0,none⟩))(zR:Rd W A 1 (bs.map qm))(srb:oh (aX bt) A)(fD:bs.length≤50)(MC:1≤r∧r≤1000):CallsIn Fence.wide 0 prog 59 #[.func (.yield l) #[] #[],.pointer (some ((bI (some ⟨b2,0,none⟩)).add (0*1))),.pointer (some ((bI (some ⟨b3,0,none⟩)).add (0*2)))] W (yt J Jx (fun xs=>xs=km r 0 0 bs) (fun _=>True) bt W):=by
 refine EH (X:=(aX bt)) (vs:= [.func (.yield l) #[] #[],.pointer (some ((bI (some ⟨b2,0,none⟩)).add (0*1))),.pointer (some ((bI (some ⟨b3,0,none⟩)).add (0*2)))]) func59 ntmps59 rfl rfl (Hn gK) ?_;apply ab 6;refine cE (.none rfl) rfl rfl (gV rfl zO rfl (.aq nW SC) (oL [.slice A bs.length ca])) ?_;apply ab 4;refine bS (au (eL [9,4,0,2,7,8]) (dZ [0])) ?_;refine Pn (ι:=Nat×Nat×(List ak)×(List (Nat×Nat))) (fun gg=>gg.1≤bs.length∧gg.2.1≤gg.1∧J gg.2.2.2 gg.2.2.1∧km r 0 0 bs=gg.2.2.2++km r gg.1 gg.2.1 (bs.drop gg.1)) (fun gg=>Iv (gg.1:Int)) (fun gg=>Iv (gg.2.1:Int)) (fun gg=> .aT gg.2.2.1) (fun gg=>bs.length-gg.1) (0,0,bt, []) (by(try dsimp only);exact⟨oM,oM,h0,by simp⟩) rfl rfl .refl ?_;rintro⟨i,f,js,bo⟩ hq;(try dsimp only at hq);obtain⟨jZ,hfi,hj,gy⟩:=hq;refine tf ⟨(9,Iv i)::(4,Iv f)::_,.aT js::_⟩ ?_;apply ab 5;refine nS rfl (fun mz=>?_) (fun mz=>?_);have R7:=td mz;have bp:i<bs.length:=oM
 apply ab 6;refine cE (.none rfl) rfl rfl (nC (q:=i) rfl zU zS rfl rfl (.aq zR srb)  sM  rfl  oM) ?_;refine cE (.none rfl) rfl rfl (gV rfl zO rfl (.aq zR srb) (bX  oM)) ?_;apply ab 3;refine bS (au (eL [0,2,4,5,6,7,8,9]) .refl) ?_;apply ab 5;refine nS rfl (fun re=>?_) (fun re=>?_);have R9:=td re;apply ab 1;refine bS (au (eL [0,2,4,7,8,9]) .refl) ?_;apply ab 4;have xH:aa bs i=true:=by simpa using re
 exact qc (i+1,f,js,bo) (by(try dsimp only);exact⟨oM,oM,hj,by rw [gy,akD bp xH]⟩) (by(try dsimp only);omega) (au (.aF (s:=9) rfl (aO  oM) (.aF (s:=4) rfl rfl (eL [0,2,7,8]))) (dZ [0]));have R9:=td re;apply ab 8;refine cE (.none rfl) rfl rfl (kP rfl zO rfl (.aq Nh SD) (oL [Iv r,Iv q]) rfl) ?_;apply ab 2;refine Wp 21 rfl (fun xt=>?_) (fun xt=>?_);have SE:=td xt;apply ab 3;refine acf (i,f) (.on rfl rfl rfl xt) rfl rfl rfl rfl (bf rfl) rfl ag.ao hF hY hj ⟨_,by rw [gy,Y3 bp (by simpa using re)  oM]⟩ (fun r9 kI=>?_) (fun r9 kI=>?_);apply ab 3;refine bS (au (eL [0,2,4,5,7,8,9,27]) .refl) ?_;apply ab 7;refine bS (au (eL [0,2,4,7,8,9]) .refl) ?_;apply ab 5;have xH:aa bs i=false:=by simpa using re
 exact qc (i+1,i+1,r9,bo++ [(i,f)]) (by(try dsimp only);exact⟨oM,oM,kI,by rw [gy,Y3 bp xH  oM,bP];rfl⟩) (by(try dsimp only);omega) (au (.aF (s:=9) rfl (aO (by(try dsimp only);omega)) (.aF (s:=4) rfl (aO (by(try dsimp only);omega)) (eL [0,2,7,8]))) (dZ [0]));apply ab 3;refine bS (au (eL [0,2,4,5,7,8,9,27]) .refl) ?_;apply ab 1;refine pg ?_;refine qN ?_;exact rJ _ rfl ag.ao (.inr ⟨trivial,kI⟩);have SE:=td xt;apply ab 7;refine bS (au (eL [0,2,4,5,7,8,9,27]) .refl) ?_;apply ab 7;refine bS (au (eL [0,2,4,7,8,9]) .refl) ?_;apply ab 5;have xH:aa bs i=false:=by simpa using re
 exact qc (i+1,i+1,js,bo) (by(try dsimp only);exact⟨oM,oM,hj,by rw [gy,akE bp xH  oM]⟩) (by(try dsimp only);omega) (au (.aF (s:=9) rfl (aO (by(try dsimp only);omega)) (.aF (s:=4) rfl (aO (by(try dsimp only);omega)) (eL [0,2,7,8]))) (dZ [0]));have R7:=td mz;apply ab 1;refine bS (au .nil .refl) ?_;refine qN ?_;exact rJ (km r 0 0 bs) rfl ag.ao (.inl ⟨rfl,by rw [gy,sA  oM];show J (bo++ []) js;rw [gT];exact hj⟩)
end Go.Proofs.YtdahjfmmndjcpaaGreat
