/- Part. -/
import Derived.Shelf.SlSortCmp.WholeK
import Derived.Test.YtdahjfmmndjcpaaGreatQ11
import Derived.Test.YtdahjfmmndjcpaaGreatQ16
set_option linter.unusedSimpArgs false
set_option linter.unusedVariables false
set_option maxHeartbeats 40000000
set_option maxRecDepth 100000
namespace Go.Proofs.YtdahjfmmndjcpaaGreat
open Go Go.RowKit Hr Go.Proofs.Tryz
theorem akt{s:aw}(hB:cx s){a b:Nat}(h:a<b)(hb:b≤s.ms.length):aa (dN s) a<aa (dN s) b:=by
 have h1:=Qv (s:=s) (k:=a)  oM
 have h2:=(hB.g _ (aB (show a<s.ms.length by omega))).met.ln.1
 have h3:=H5 hB (show a+1≤b by omega) hb
 omega
theorem YN{s:aw}(hB:cx s){x:Int}{k:Nat}(hk:k≤s.ms.length)(yS:∀j,j<k→aa (dN s) j<x)(YO:∀j,k≤j→j≤s.ms.length→x≤aa (dN s) j){i:Nat}(hi:i<s.ms.length)(h1:aa (dN s) i≤x)(h2:x<aa (dN s) (i+1)):
  (aa (dN s) k=x∧k=i)∨(aa (dN s) k≠x∧k=i+1):=by
 by_cases he:aa (dN s) i=x
 ·refine .inl ?_
  have GL:k≤i:=by
   by_cases h:k≤i
   ·exact h
   ·have:=yS i  oM ;omega
  have hik:i≤k:=by
   by_cases h:i≤k
   ·exact h
   ·have a1:=YO k (cm _)  oM
    have a2:=akt hB (show k<i by omega)  oM
    omega
  have:k=i:=oM
  exact⟨by rw [this];exact he,this⟩
 ·have GL:i<k:=by
   by_cases h:i<k
   ·exact h
   ·have:=YO i  oM oM ;omega
  have hik:k≤i+1:=by
   by_cases h:k≤i+1
   ·exact h
   ·have:=yS (i+1)  oM ;omega
  have ct:k=i+1:=oM
  exact .inr ⟨by rw [ct];omega,ct⟩
theorem an9:prog.stoodInHeld 150=false:=by kernel_rfl
theorem an_{a0 a1 a2 a3 a4 a5 a6 b0 b1 b2 b3 b4 b5 b6:Int}(w:World):(Op.equalIn 10000 150 (.agg #[Iv a0,Iv a1,Iv a2,Iv a3,Iv a4,Iv a5,Iv a6]) (.agg #[Iv b0,Iv b1,Iv b2,Iv b3,Iv b4,Iv b5,Iv b6])).run prog w= .ok (a0==b0&&(a1==b1&&(a2==b2&&(a3==b3&&(a4==b4&&(a5==b5&&(a6==b6))))))) w:=by
 rw [na w 9999 150 _ _ (by simp only [Program.fieldsOf,underlying150]) an9];simp only [Program.fieldsOf,underlying150];exact rl (ep (by decide) (bW zO rfl) (bW zO rfl) (dQ w 9998 3 .i64 .i64 a0 b0 bR) (ep (by decide) (bW zO rfl) (bW zO rfl) (dQ w 9998 3 .i64 .i64 a1 b1 bR) (ep (by decide) (bW zO rfl) (bW zO rfl) (dQ w 9998 3 .i64 .i64 a2 b2 bR) (ep (by decide) (bW zO rfl) (bW zO rfl) (dQ w 9998 3 .i64 .i64 a3 b3 bR) (ep (by decide) (bW zO rfl) (bW zO rfl) (dQ w 9998 3 .i64 .i64 a4 b4 bR) (ep (by decide) (bW zO rfl) (bW zO rfl) (dQ w 9998 3 .i64 .i64 a5 b5 bR) (ep (by decide) (bW zO rfl) (bW zO rfl) (dQ w 9998 3 .i64 .i64 a6 b6 bR) tU))))))) (by simp only [gq,sG])
theorem aoa(a b c d e f g:Int)(em:Bool)(w:World):(Instr.checkKey em 10000 150 (.agg #[Iv a,Iv b,Iv c,Iv d,Iv e,Iv f,Iv g])).run prog w= .ok () w:=by
 have h3:∀(v:Int) (w:World),(Instr.checkKey em 9999 3 (Iv v)).run prog w= .ok () w:=fun v w=>MapKept.run_checkKey (d:= .int .i64) bR (by simp [MapKept.IsKey]) em 9998;unfold Instr.checkKey;simp [cL underlying150,part,n3.1,h3,Result.andThen]
def MX(v:Value):Prop:=∃i:ql,v= .agg i.enc.toArray
theorem aob:Hr.AF prog 150 MX:=P8 (by rw [underlying150]) (fun k hk em w=>by obtain⟨i,rfl⟩:=hk;exact aoa i.bh i.part i.sX i.sY i.oA i.PK i.yD em w) (fun x y hx hy w=>by
 obtain⟨i,rfl⟩:=hx
 obtain⟨j,rfl⟩:=hy
 refine⟨_,an_ w,?_⟩
 cases i;cases j
 simp [ql.enc])
theorem ql.key(i:ql):MX (.agg i.enc.toArray):=⟨i,rfl⟩
def I5(x:bz)(n:Nat):Bool:=decide ((x.ls.length:Int)≤(n:Int))||(ga (aa x.ls n).gC (ByteArray.mk #[])&&((aa x.ls n).mE==0))
theorem aoc{x:bz}{n:Nat}(h:I5 x n=false):n<x.ls.length:=by
 unfold I5 at h;rw [J_]at h;have:=of_decide_eq_false h.1;omega
theorem aod(e:aN)(n:Nat)(W:World)(hr:e.rd W):Calls prog 241 #[lM e.x e.p,Iv n] W (Hr.aK W (.bool (I5 e.x n))):=by
 apply Ej 2 func241 ntmps241;refine Nw 10 fun b2=>?_;apply Sd 0 10;intro _ mz;apply ab 10;apply kp 1 [4];exact ax rfl rfl (aC Value.bool (by rw [I5,mz,jv]));intro _ mz;apply ab 3;refine Qq 0 (Qi n rfl (.aq (iP.l hr) .no)) ?_;refine Qq 0 (Qe rfl (.aq (iP.l hr) .no)) ?_;refine Qq 0 (bB rfl vZ (aaJ)) ?_;refine Qq 3 (rq rfl rfl rfl Rs (fun w=>Rt w)) ?_;apply kp 1 [4];exact ax rfl rfl (aC Value.bool (by rw [I5,mz,iu]))
theorem lA.lnk{v:aW}{n a:Int}(h:lA v n a):∀x∈v.es,∀y∈x.x.ls,y.mE=0:=fun x hx y hy=>by
 rcases h.ev x hx with⟨st,id,e⟩|⟨id,lg,d,e,_⟩
 ·rw [e]at hy;simp [oy]at hy
 ·rcases e.ls with e1|⟨q,_,e1⟩
  ·rw [e1]at hy;cases hy
  ·rw [e1]at hy;rw [cS.1 hy]
theorem aof(s:aw)(aS:Int)(L:Value)(b:Nat)(k v n mb:Nat)(W:World)(hb:Rd W (some ⟨b,0,none⟩) 8 [bA s aS L])(hs:s.rd W)(hB:cx s):Calls prog 179 #[.pointer (some ((bI (some ⟨b,0,none⟩)).add (0*8))),Iv k,Iv v,Iv n,.map (some mb)] W (Hr.aK W (.tuple #[])):=by
 have bn:ed W s.ms s.MA:=⟨hs.m,hs.mr⟩;have dx:=hB.ml;have gS:=hB.pl;have hZ:=hB.sn;have iF:=hB.sl;have jL:=hB.ll;apply Ej 2 func179 ntmps179;refine Nw 3 fun gl=>?_;refine Nw 7 fun iY=>?_;refine Qq 0 (ky (d2:=3) rfl jJ rfl rfl zS rfl) ?_;refine Qq 3 (Qf rfl (.aq hb .no) rfl) ?_;apply kp 1 [1,2,3,4,10,11,22,23,24];apply Ks 0 [24,1,2,3,4,10,11,22,23] [1,0];refine ov (ι:=Nat×ByteArray×ql) (fun gg=>gg.1≤s.ms.length) (fun gg=>Iv (gg.1:Int)) (fun gg=> .ai gl 276 [(0,.string gg.2.1),(1,Iv 0)]) (fun gg=> .ai iY 150 (bm 0 (gg.2.2).enc)) (fun gg=>s.ms.length-gg.1) (0,ByteArray.mk #[],ql.mk 0 0 0 0 0 0 0) dO rfl (.ai (eL [0,1])) (.ai (eL [0,1,2,3,4,5,6])) ?_;rintro⟨i,T_,pl⟩ jd;(try dsimp only at jd);refine sW ⟨(24,Iv i)::_,.ai gl 276 [(0,.string T_),(1,Iv 0)]:: .ai iY 150 (bm 0 (pl).enc)::_⟩ ?_;apply Cd 5;intros;have bp:i<s.ms.length:=oM
 apply ab 6;refine Qq 0 (Qi i rfl (.aq hs.m .no)) ?_;refine Qq 0 (Qe rfl (.aq hs.m .no)) ?_;refine Nw 3 fun vI=>?_;apply kp 9 [1,2,3,4,10,11,12,13,22,23,24];apply Sd 0 34;intro _ k6;apply ab 13;apply kp 4 [1,2,3,4,10,11,22,23,24];refine Ag (i+1,T_,pl) ?_;omega;intro _ k6;have bx:k<(aa s.ms i).cs.length:=oM
 apply ab 4;refine Qq 1 (Qi k rfl (.aq (bn.cs bp) .no)) ?_;refine Qq 4 (Qf rfl (.aq (bn.cs bp) .no)) ?_;apply kp 0 [1,2,3,4,10,11,12,13,22,23,24,44];apply Cd 0;intros;apply ab 1;apply kp 4 [1,2,3,4,10,11,22,23,24];refine Ag (i+1,T_,pl) ?_;omega;intros;have eC:v<((aa (aa s.ms i).cs k)).vs.length:=oM
 obtain⟨aV,jm⟩:=(hB.cell bp bx).2.2 v eC;have gM:=jm.len;apply ab 6;refine Qq 1 (Qi k rfl (.aq (bn.cs bp) .no)) ?_;refine Qq 1 (Qf rfl (.aq (bn.cs bp) .no)) ?_;refine Qq 1 (Qi v rfl (.aq (bn.vs bp bx) .no)) ?_;refine Qq 3 (Qf rfl (.aq (bn.vs bp bx) .no)) ?_;apply kp 1 [1,2,3,4,10,11,12,22,23,24,54,55,56];apply Ks 0 [56,1,2,3,4,10,11,12,22,23,24,54,55] [1,1,0];refine ov (ι:=Nat×ByteArray×ql) (fun gg=>gg.1≤((aa (aa (aa s.ms i).cs k).vs v)).es.length) (fun gg=>Iv (gg.1:Int)) (fun gg=> .ai gl 276 [(0,.string gg.2.1),(1,Iv 0)]) (fun gg=> .ai iY 150 (bm 0 (gg.2.2).enc)) (fun gg=>((aa (aa (aa s.ms i).cs k).vs v)).es.length-gg.1) (0,T_,pl) dO rfl (.ai (eL [0,1])) (.ai (eL [0,1,2,3,4,5,6])) ?_;rintro⟨x,T_,pl⟩ pA;(try dsimp only at pA);refine sW ⟨(56,Iv x)::_,.ai gl 276 [(0,.string T_),(1,Iv 0)]:: .ai iY 150 (bm 0 (pl).enc)::_⟩ ?_;apply Cd 5;intros;have gG:x<((aa (aa (aa s.ms i).cs k).vs v)).es.length:=oM
 apply ab 6;refine Qq 0 (Qi x rfl (.aq (bn.es bp bx eC) .no)) ?_;refine Qq 0 (Qe rfl (.aq (bn.es bp bx eC) .no)) ?_;refine Nw 3 fun vM=>?_;apply kp 5 [1,2,3,4,10,11,12,14,15,22,23,24,54,55,56];refine Qq 1 (Qc rfl fun w hk _=>aod ((aa (aa (aa (aa s.ms i).cs k).vs v).es x)) n w ((bn.ev bp bx eC gG).az hk)) ?_;apply Cd 0;intros;apply ab 1;apply kp 4 [1,2,3,4,10,11,12,22,23,24,54,55,56];refine Ag (x+1,T_,pl) ?_;omega;intro _ g63;have Df:=aoc g63;have kJ:=jm.lnk _ (aB gG) _ (aB Df);apply ab 2;apply(Mv);apply Bs [0,1,2,3];refine Bq 4 rfl (bB rfl vZ (RX)) ?_;apply Bs [5,6,7];refine Bq 8 rfl (Qi n rfl (.aq (iP.l (bn.ev bp bx eC gG)) .no)) ?_;refine Bq 9 rfl (Qe rfl (.aq (iP.l (bn.ev bp bx eC gG)) .no)) ?_;refine vC 10 11 ?_ ?_;refine Bh rfl (dU rfl rfl rfl zI) ?_;rintro sk-;refine Bg 11 rfl (dU rfl rfl rfl zI) ?_;rintro FI-;refine Bg 12 rfl (cC rfl rfl zS rfl rfl rfl rfl rfl sZ rfl) ?_;rintro- -;refine Bg 13 rfl (cC rfl rfl zS rfl rfl rfl rfl rfl sZ rfl) ?_;rintro- -;apply jH 12;apply kp 7 [1,2,3,4,10,11,12,16,17,22,23,24,54,55,56,81];refine Qq 1 (G2 rfl rfl rfl) ?_;apply Sd 0 87;intro _ R6;apply ab 8;refine Qq 1 (df rfl rfl (ku.2  oM) rfl) ?_;apply kp 2 [1,2,3,4,10,11,12,16,17,22,23,24,54,55,56,96];refine uZ xZ (by kernel_rfl) ((ag.aQ (.aj (.aj (.aj ag.ao)))).trans (ag.aQ (.aj (.aj (.aj ag.ao))))) ?_;apply Bs [0,1];refine Bg 2 rfl (cC rfl rfl zS rfl rfl rfl rfl rfl sZ rfl) ?_;rintro- -;refine Bg 3 rfl (cC rfl rfl zS rfl rfl rfl rfl rfl sZ rfl) ?_;rintro- -;apply jH 0;apply kp 5 [1,2,3,4,10,11,12,22,23,24,54,55,56];exact uN (x+1,(aa ((aa (aa (aa (aa s.ms i).cs k).vs v).es x)).x.ls n).gC,⟨4,0,k,i,v,x,0⟩) dO (by(try dsimp only);omega) (au (.aF (s:=56) rfl (aO  oM) (eL [1,2,3,4,10,11,12,22,23,24,54,55])) (.cons (iZ 1) (.ai (.cons (s:=0) rfl (.aF (s:=1) (v':=Iv 0) rfl (aO kJ) .nil))) (.cons (iZ 0) (.ai (eL [0,1,2,3,4,5,6])) (dZ [3]))));intro _ R6;apply ab 10;apply kp 2 [1,2,3,4,10,11,12,16,17,22,23,24,54,55,56,96];refine uZ xZ (by kernel_rfl) ((ag.aQ (.aj (.aj (.aj ag.ao)))).trans (ag.aQ (.aj (.aj (.aj ag.ao))))) ?_;apply Bs [0,1];refine Bg 2 rfl (cC rfl rfl zS rfl rfl rfl rfl rfl sZ rfl) ?_;rintro- -;refine Bg 3 rfl (cC rfl rfl zS rfl rfl rfl rfl rfl sZ rfl) ?_;rintro- -;apply jH 0;apply kp 5 [1,2,3,4,10,11,12,22,23,24,54,55,56];exact uN (x+1,(aa ((aa (aa (aa (aa s.ms i).cs k).vs v).es x)).x.ls n).gC,⟨4,0,k,i,v,x,0⟩) dO (by(try dsimp only);omega) (au (.aF (s:=56) rfl (aO  oM) (eL [1,2,3,4,10,11,12,22,23,24,54,55])) (.cons (iZ 1) (.ai (.cons (s:=0) rfl (.aF (s:=1) (v':=Iv 0) rfl (aO kJ) .nil))) (.cons (iZ 0) (.ai (eL [0,1,2,3,4,5,6])) (dZ [3]))));refine Bh rfl (dU rfl rfl rfl zI) ?_;rintro FI-;refine Bg 10 rfl (dU rfl rfl rfl zI) ?_;rintro sk-;refine Bg 12 rfl (cC rfl rfl zS rfl rfl rfl rfl rfl sZ rfl) ?_;rintro- -;refine Bg 13 rfl (cC rfl rfl zS rfl rfl rfl rfl rfl sZ rfl) ?_;rintro- -;apply jH 12;apply kp 7 [1,2,3,4,10,11,12,16,17,22,23,24,54,55,56,81];refine Qq 1 (G2 rfl rfl rfl) ?_;apply Sd 0 87;intro _ R6;apply ab 8;refine Qq 1 (df rfl rfl (ku.2  oM) rfl) ?_;apply kp 2 [1,2,3,4,10,11,12,16,17,22,23,24,54,55,56,96];refine uZ xZ (by kernel_rfl) ((ag.aQ (.aj (.aj (.aj ag.ao)))).trans (ag.aQ (.aj (.aj (.aj ag.ao))))) ?_;apply Bs [0,1];refine Bg 2 rfl (cC rfl rfl zS rfl rfl rfl rfl rfl sZ rfl) ?_;rintro- -;refine Bg 3 rfl (cC rfl rfl zS rfl rfl rfl rfl rfl sZ rfl) ?_;rintro- -;apply jH 0;apply kp 5 [1,2,3,4,10,11,12,22,23,24,54,55,56];exact uN (x+1,(aa ((aa (aa (aa (aa s.ms i).cs k).vs v).es x)).x.ls n).gC,⟨4,0,k,i,v,x,0⟩) dO (by(try dsimp only);omega) (au (.aF (s:=56) rfl (aO  oM) (eL [1,2,3,4,10,11,12,22,23,24,54,55])) (.cons (iZ 1) (.ai (.cons (s:=0) rfl (.aF (s:=1) (v':=Iv 0) rfl (aO kJ) .nil))) (.cons (iZ 0) (.ai (eL [0,1,2,3,4,5,6])) (dZ [3]))));intro _ R6;apply ab 10;apply kp 2 [1,2,3,4,10,11,12,16,17,22,23,24,54,55,56,96];refine uZ xZ (by kernel_rfl) ((ag.aQ (.aj (.aj (.aj ag.ao)))).trans (ag.aQ (.aj (.aj (.aj ag.ao))))) ?_;apply Bs [0,1];refine Bg 2 rfl (cC rfl rfl zS rfl rfl rfl rfl rfl sZ rfl) ?_;rintro- -;refine Bg 3 rfl (cC rfl rfl zS rfl rfl rfl rfl rfl sZ rfl) ?_;rintro- -;apply jH 0;apply kp 5 [1,2,3,4,10,11,12,22,23,24,54,55,56];exact uN (x+1,(aa ((aa (aa (aa (aa s.ms i).cs k).vs v).es x)).x.ls n).gC,⟨4,0,k,i,v,x,0⟩) dO (by(try dsimp only);omega) (au (.aF (s:=56) rfl (aO  oM) (eL [1,2,3,4,10,11,12,22,23,24,54,55])) (.cons (iZ 1) (.ai (.cons (s:=0) rfl (.aF (s:=1) (v':=Iv 0) rfl (aO kJ) .nil))) (.cons (iZ 0) (.ai (eL [0,1,2,3,4,5,6])) (dZ [3]))));intros;apply ab 1;apply kp 5 [1,2,3,4,10,11,22,23,24];refine Ag (i+1,T_,pl) ?_;omega;intros;apply ab 7;apply kp 2 [4,11,105];apply Km 0 [];exact di rfl rfl
theorem Dj{abk:Go.Fn}{abl Bb:Array Value}{abm:Go.Fn}{abn abo:Array Value}{abp:Go.Fn}{abq Ja:Array Value}{abr:Go.Fn}{abt Jb:Array Value}{abu:Go.Fn}{abv abw:Array Value}{abx:Go.Fn}{aby abz:Array Value}{abA:Go.Fn}{abB abC:Array Value}:prog.built 365 [(0,.func abk abl Bb),(1,.func abm abn abo),(2,.func abp abq Ja),(3,.func abr abt Jb),(4,.func abu abv abw),(5,.func abx aby abz),(6,.func abA abB abC)]=some #[.func abk abl Bb,.func abm abn abo,.func abp abq Ja,.func abr abt Jb,.func abu abv abw,.func abx aby abz,.func abA abB abC]:=by kernel_rfl
theorem Dm:Hr.f_ prog 309:=⟨fun w=>by simp [isAgg,cL underlying309],Hr.Sz.of (by kernel_rfl)⟩
theorem aoD(a b:gP)(W:World)(hg:mq a b=false):Calls prog 182 #[a.val,b.val] W (Hr.aK W (.bool (mO a b))):=by
 apply Ej 2 func182 ntmps182;refine Nw 0 fun b2=>?_;refine Nw 7 fun b3=>?_;refine Qq 2 (Qc rfl fun w _ _=>A_ _ _ w) ?_;apply kp 0 [2,3,4,11];refine pP rfl (by rw [hg];rfl) ?_;apply ab 5;exact ax rfl rfl (aC Value.bool (by rw [mO,hg,j5]))
theorem aoE(a b:gP)(W:World)(hg:mq a b=true)(ct:a.bh=1):Calls prog 182 #[a.val,b.val] W (Hr.aK W (.bool (mO a b))):=by
 apply Ej 2 func182 ntmps182;refine Nw 0 fun b2=>?_;refine Nw 7 fun b3=>?_;refine Qq 2 (Qc rfl fun w _ _=>A_ _ _ w) ?_;refine dB rfl (by rw [hg];rfl) ?_;apply ab 17;refine Qq 0 (bB rfl vZ (Dj)) ?_;refine Nw 3 fun b7=>?_;apply Dd 3 [0,1,2,3,4,5,6,7,8];refine Dq 0 rfl (C8 (q:=0) rfl underlying365 zS rfl rfl  oM (by decide)) ?_;refine rA rfl rfl (.none rfl) rfl rfl (gV rfl Dm rfl (ie.C9 ag.ao (.cons rfl (.cons rfl (.cons rfl (.cons rfl (.cons rfl (.cons rfl (.cons rfl lj.nil)))))))) rfl) ?_;apply ab 2;refine Dq 2 rfl (eU rfl rfl kZ (bf rfl) (fun w hk hm=>aov _ _ w)) ?_;apply kp 1 [4];exact ax rfl rfl (aC Value.bool (by rw [mO,hg,eN,aG ct]))
theorem aoF(a b:gP)(W:World)(hg:mq a b=true)(ct:a.bh=2):Calls prog 182 #[a.val,b.val] W (Hr.aK W (.bool (mO a b))):=by
 apply Ej 2 func182 ntmps182;refine Nw 0 fun b2=>?_;refine Nw 7 fun b3=>?_;refine Qq 2 (Qc rfl fun w _ _=>A_ _ _ w) ?_;refine dB rfl (by rw [hg];rfl) ?_;apply ab 17;refine Qq 0 (bB rfl vZ (Dj)) ?_;refine Nw 3 fun b7=>?_;apply Dd 3 [0,1,2,3,4,5,6,7,8];refine Dq 0 rfl (C8 (q:=1) rfl underlying365 zS rfl rfl  oM (by decide)) ?_;refine rA rfl rfl (.none rfl) rfl rfl (gV rfl Dm rfl (ie.C9 ag.ao (.cons rfl (.cons rfl (.cons rfl (.cons rfl (.cons rfl (.cons rfl (.cons rfl lj.nil)))))))) rfl) ?_;apply ab 2;refine Dq 2 rfl (eU rfl rfl kZ (bf rfl) (fun w hk hm=>Sa _ _ w)) ?_;apply kp 1 [4];exact ax rfl rfl (aC Value.bool (by rw [mO,hg,eN,ay  oM,aG  oM]))
theorem aoG(a b:gP)(W:World)(hg:mq a b=true)(ct:a.bh=3):Calls prog 182 #[a.val,b.val] W (Hr.aK W (.bool (mO a b))):=by
 apply Ej 2 func182 ntmps182;refine Nw 0 fun b2=>?_;refine Nw 7 fun b3=>?_;refine Qq 2 (Qc rfl fun w _ _=>A_ _ _ w) ?_;refine dB rfl (by rw [hg];rfl) ?_;apply ab 17;refine Qq 0 (bB rfl vZ (Dj)) ?_;refine Nw 3 fun b7=>?_;apply Dd 3 [0,1,2,3,4,5,6,7,8];refine Dq 0 rfl (C8 (q:=2) rfl underlying365 zS rfl rfl  oM (by decide)) ?_;refine rA rfl rfl (.none rfl) rfl rfl (gV rfl Dm rfl (ie.C9 ag.ao (.cons rfl (.cons rfl (.cons rfl (.cons rfl (.cons rfl (.cons rfl (.cons rfl lj.nil)))))))) rfl) ?_;apply ab 2;refine Dq 2 rfl (eU rfl rfl kZ (bf rfl) (fun w hk hm=>Sa _ _ w)) ?_;apply kp 1 [4];exact ax rfl rfl (aC Value.bool (by rw [mO,hg,eN,ay  oM,aG  oM]))
theorem aoH(a b:gP)(W:World)(hg:mq a b=true)(ct:a.bh=4):Calls prog 182 #[a.val,b.val] W (Hr.aK W (.bool (mO a b))):=by
 apply Ej 2 func182 ntmps182;refine Nw 0 fun b2=>?_;refine Nw 7 fun b3=>?_;refine Qq 2 (Qc rfl fun w _ _=>A_ _ _ w) ?_;refine dB rfl (by rw [hg];rfl) ?_;apply ab 17;refine Qq 0 (bB rfl vZ (Dj)) ?_;refine Nw 3 fun b7=>?_;apply Dd 3 [0,1,2,3,4,5,6,7,8];refine Dq 0 rfl (C8 (q:=3) rfl underlying365 zS rfl rfl  oM (by decide)) ?_;refine rA rfl rfl (.none rfl) rfl rfl (gV rfl Dm rfl (ie.C9 ag.ao (.cons rfl (.cons rfl (.cons rfl (.cons rfl (.cons rfl (.cons rfl (.cons rfl lj.nil)))))))) rfl) ?_;apply ab 2;refine Dq 2 rfl (eU rfl rfl kZ (bf rfl) (fun w hk hm=>Sb _ _ w)) ?_;apply kp 1 [4];exact ax rfl rfl (aC Value.bool (by rw [mO,hg,eN,ay  oM,ay  oM]))
theorem aoI(a b:gP)(W:World)(hg:mq a b=true)(ct:a.bh=5):Calls prog 182 #[a.val,b.val] W (Hr.aK W (.bool (mO a b))):=by
 apply Ej 2 func182 ntmps182;refine Nw 0 fun b2=>?_;refine Nw 7 fun b3=>?_;refine Qq 2 (Qc rfl fun w _ _=>A_ _ _ w) ?_;refine dB rfl (by rw [hg];rfl) ?_;apply ab 17;refine Qq 0 (bB rfl vZ (Dj)) ?_;refine Nw 3 fun b7=>?_;apply Dd 3 [0,1,2,3,4,5,6,7,8];refine Dq 0 rfl (C8 (q:=4) rfl underlying365 zS rfl rfl  oM (by decide)) ?_;refine rA rfl rfl (.none rfl) rfl rfl (gV rfl Dm rfl (ie.C9 ag.ao (.cons rfl (.cons rfl (.cons rfl (.cons rfl (.cons rfl (.cons rfl (.cons rfl lj.nil)))))))) rfl) ?_;apply ab 2;refine Dq 2 rfl (eU rfl rfl kZ (bf rfl) (fun w hk hm=>Sb _ _ w)) ?_;apply kp 1 [4];exact ax rfl rfl (aC Value.bool (by rw [mO,hg,eN,ay  oM,ay  oM]))
theorem aoJ(a b:gP)(W:World)(hg:mq a b=true)(ct:a.bh=6):Calls prog 182 #[a.val,b.val] W (Hr.aK W (.bool (mO a b))):=by
 apply Ej 2 func182 ntmps182;refine Nw 0 fun b2=>?_;refine Nw 7 fun b3=>?_;refine Qq 2 (Qc rfl fun w _ _=>A_ _ _ w) ?_;refine dB rfl (by rw [hg];rfl) ?_;apply ab 17;refine Qq 0 (bB rfl vZ (Dj)) ?_;refine Nw 3 fun b7=>?_;apply Dd 3 [0,1,2,3,4,5,6,7,8];refine Dq 0 rfl (C8 (q:=5) rfl underlying365 zS rfl rfl  oM (by decide)) ?_;refine rA rfl rfl (.none rfl) rfl rfl (gV rfl Dm rfl (ie.C9 ag.ao (.cons rfl (.cons rfl (.cons rfl (.cons rfl (.cons rfl (.cons rfl (.cons rfl lj.nil)))))))) rfl) ?_;apply ab 2;refine Dq 2 rfl (eU rfl rfl kZ (bf rfl) (fun w hk hm=>Sa _ _ w)) ?_;apply kp 1 [4];exact ax rfl rfl (aC Value.bool (by rw [mO,hg,eN,ay  oM,aG  oM]))
theorem aoK(a b:gP)(W:World)(hg:mq a b=true)(ct:a.bh=7):Calls prog 182 #[a.val,b.val] W (Hr.aK W (.bool (mO a b))):=by
 apply Ej 2 func182 ntmps182;refine Nw 0 fun b2=>?_;refine Nw 7 fun b3=>?_;refine Qq 2 (Qc rfl fun w _ _=>A_ _ _ w) ?_;refine dB rfl (by rw [hg];rfl) ?_;apply ab 17;refine Qq 0 (bB rfl vZ (Dj)) ?_;refine Nw 3 fun b7=>?_;apply Dd 3 [0,1,2,3,4,5,6,7,8];refine Dq 0 rfl (C8 (q:=6) rfl underlying365 zS rfl rfl  oM (by decide)) ?_;refine rA rfl rfl (.none rfl) rfl rfl (gV rfl Dm rfl (ie.C9 ag.ao (.cons rfl (.cons rfl (.cons rfl (.cons rfl (.cons rfl (.cons rfl (.cons rfl lj.nil)))))))) rfl) ?_;apply ab 2;refine Dq 2 rfl (eU rfl rfl kZ (bf rfl) (fun w hk hm=>Sb _ _ w)) ?_;apply kp 1 [4];exact ax rfl rfl (aC Value.bool (by rw [mO,hg,eN,ay  oM,ay  oM]))
theorem aoL(a b:gP)(W:World):Calls prog 182 #[a.val,b.val] W (aK W (.bool (mO a b))):=by
 cases hg:mq a b with
 |false=>exact aoD a b W hg
 |true=>
  have h0:0<xe a.bh:=by unfold mq at hg;rw [ft]at hg;exact zK hg.1
  have h1:=aot h0
  have:a.bh=1∨a.bh=2∨a.bh=3∨a.bh=4∨a.bh=5∨a.bh=6∨a.bh=7:=oM
  rcases this with h|h|h|h|h|h|h
  ·exact aoE a b W hg h
  ·exact aoF a b W hg h
  ·exact aoG a b W hg h
  ·exact aoH a b W hg h
  ·exact aoI a b W hg h
  ·exact aoJ a b W hg h
  ·exact aoK a b W hg h
theorem aoV{w:World}{b:Nat}{t:TypeId}{cs:List (Nat×Value)}{m:aD}(h:(ak.ai b t cs).holds w)(he:cs=(List.range 22).zip m.enc):Rd w (some ⟨b,0,none⟩) 22 [m.enc]:=
 KD h fun i u hu=>by
  have hi:i<22:=(xQ.1 hu).1
  subst he
  have:i=0∨i=1∨i=2∨i=3∨i=4∨i=5∨i=6∨i=7∨i=8∨i=9∨i=10∨i=11∨i=12∨i=13∨i=14∨i=15∨i=16∨i=17∨i=18∨i=19∨i=20∨i=21:=oM
  rcases this with rfl|rfl|rfl|rfl|rfl|rfl|rfl|rfl|rfl|rfl|rfl|rfl|rfl|rfl|rfl|rfl|rfl|rfl|rfl|rfl|rfl|rfl<;>exact hu
theorem aoW(l:List aD)(A:Option Addr)(ca n:Nat)(g:Nat)(cap:List Value)(W:World)(hr:Rd W A 22 (l.map aD.enc))(hl:l.length≤1000000)(hn:n≤l.length)(gm:Hr.eG prog g)
  (hw:∀k,k<n→∀w,aU nX W w→Calls prog g ([Value.agg (aD.enc (aa l k)).toArray]++cap).toArray w (aK w (.bool false))):Calls prog 188 #[.slice A n ca,.func (.func g) #[] cap.toArray] W (aK W (.bool false)):=by
 have e:(l.take n).length=n:=by rw [fL];omega
 have h:=amI (l.take n) A ca g cap W (by rw [xW];exact hr.take n)  oM gm (fun k hk w lf=>by
  have bO:k<n:=oM
  have:aa (l.take n) k=aa l k:=by rw [aa,aa,zy,zy,List.getElem?_take_of_lt bO]
  rw [this];exact hw k bO w lf)
 rw [e]at h
 exact h
theorem aoX(s:aw)(i k b4:Nat)(W:World)(hB:cx s)(hi:i<s.ms.length)(cR:k<s.ms.length)(Jd:Rd W (some ⟨b4,0,none⟩) 22 [(aa s.ms i).enc]):Calls prog 187 #[.agg (aD.enc (aa s.ms k)).toArray,.pointer (some ((bI (some ⟨b4,0,none⟩)).add (0*22)))] W (Hr.aK W (.bool false)):=by
 obtain⟨aM,fU⟩:=hB.me hi;obtain⟨aM2,hMk⟩:=hB.me cR;have gz:=fU.eP;have nW:=hMk.eP;apply Ej 2 func187 ntmps187;refine Nw 5 fun b2=>?_;refine Qq 5 (Qf rfl (.aq Jd .no) rfl) ?_;refine Qq 2 (df rfl rfl (lF.2  oM) rfl) ?_;refine Qq 2 (Qf rfl (.aq Jd .no) rfl) ?_;refine Qq 4 (BT rfl rfl rfl) ?_;apply kp 1 [3];exact ax rfl rfl (by rw [gz.2.2.2.1,nW.2.2.2.1];rfl)
theorem aoZ(s:aw)(aS:Int)(L:Value)(b:Nat)(i:Nat)(W:World)(hi:i<1000):Calls prog 189 #[.pointer (some ((bI (some ⟨b,0,none⟩)).add (0*8))),Iv 0,Iv i] W (Hr.aK W (.bool true)):=by
 apply Ej 2 func189 ntmps189;refine Nw 0 fun b3=>?_;refine Nw 4 fun b5=>?_;refine Qq 51 (iN rfl (bf rfl)) ?_;apply kp 1 [6];exact ax rfl rfl rfl
theorem ao0(s:aw)(aS:Int)(L:Value)(b:Nat)(i b1:Nat)(W:World)(hb:Rd W (some ⟨b,0,none⟩) 8 [bA s aS L])(hs:s.rd W)(hB:cx s)(mU:Rd W (some ⟨b1,0,none⟩) 1 [[.pointer (some ((bI (some ⟨b,0,none⟩)).add (0*8)))]])(hi:i<s.ms.length)(eK:s.ms.length≤s.mc):Calls prog 186 #[Iv i,(aa s.ms i).val,.pointer (some ((bI (some ⟨b1,0,none⟩)).add (0*1)))] W (Hr.aK W (.bool false)):=by
 have bn:ed W s.ms s.MA:=⟨hs.m,hs.mr⟩;obtain⟨aM,fU⟩:=hB.me hi;have xq:=fU.cs;have hZ:=hB.sn;have dx:=hB.ml;have gz:=fU.eP;apply Ej 2 func186 ntmps186;refine Nw 7 fun b4=>?_;refine Qq 4 (Qc rfl fun w _ _=>n4 _ _ _ w  oM) ?_;refine Qq 10 (Qc rfl fun w _ _=>n4 _ _ _ w  oM) ?_;refine Qq 9 (df rfl rfl (lF.2  oM) rfl) ?_;refine Qq 2 (df rfl rfl (lF.2  oM) rfl) ?_;apply kp 4 [0,2,4,5,36];refine Qq 4 (iN rfl (bf rfl)) ?_;refine Qq 2 (Qk rfl (.aq mU .no) rfl) ?_;refine Qq 0 (ky (d2:=3) rfl jJ rfl rfl zS rfl) ?_;refine Qq 1 (Qf rfl (.aq hb .no) rfl) ?_;refine Qq 1 (BF rfl zU zS rfl rfl  oM) ?_;refine Qq 1 (Qc rfl fun w hk hm=>aoW s.ms s.MA s.mc i 187 [.pointer (some ⟨b4,0,none⟩)] w (hs.m.az hk)  oM oM kZ (fun k h w' bO=>aoX s i k b4 w' hB hi  oM ((aoV (m:=aa s.ms i) (ag.ao.holds hm) rfl).az bO))) ?_;refine Qq 3 (Qk rfl (.aq mU .no) rfl) ?_;refine Qq 4 (Qc rfl fun w _ _=>(gz.2.2.1▸aoZ s aS L b i w  oM)) ?_;apply kp 1 [5];exact ax rfl rfl rfl
theorem M4(s:aw)(aS:Int)(L:Value)(b:Nat)(W:World)(hb:Rd W (some ⟨b,0,none⟩) 8 [bA s aS L])(hs:s.rd W)(hB:cx s)(eK:s.ms.length≤s.mc):Calls prog 110 #[.pointer (some ((bI (some ⟨b,0,none⟩)).add (0*8)))] W (Hr.aK W (.tuple #[])):=by
 have bn:ed W s.ms s.MA:=⟨hs.m,hs.mr⟩;have dx:=hB.ml;have gS:=hB.pl;have hZ:=hB.sn;have iF:=hB.sl;have jL:=hB.ll;apply Ej 2 func110 ntmps110;refine Nw 3 fun b1=>?_;refine Qq 0 (iN rfl (bf rfl)) ?_;refine Qq 1 (Qc rfl fun w hk hm=>CZ s aS L b 186 [.pointer (some ⟨b1,0,none⟩)] w (hb.az hk) (hs.az hk) hB kZ (fun i hi w' bO=>ao0 s aS L b i b1 w' (hb.az (hk.fu bO)) (hs.az (hk.fu bO)) hB ((iv (ag.ao.holds hm)).az bO) hi eK)) ?_;apply kp 0 [];exact di rfl rfl
namespace Hr
section
variable{P:Program}{fn:Func}{R:Ending→World→Prop}{X:Nat→Prop}{W:World}{n:Nat}{k:List K}{S:St}{ah:List (Nat×Value)}{mem:List ak}{M0:List ak}{an:Array Oper}{aL:Array Bool}{m:Nat}{dt:List Nat}{c:Bool}
theorem Jo{i d:Nat}{o:Oper}{v:Value}(hi:an[i]?=some o)(hr:((Region.ready .any an aL).contains i&&Region.free .any an aL i)=true)(hw:cW an ah o true)(hd:o.dst=some d)(hdn:Nat.blt d n=true)(h:∀W':World,Q1 P nX W' n ⟨ah, []⟩ o v)
  (hk:gi P fn R X W n k M0 dt c an m (aL.setIfInBounds i true) ⟨(d,v)::ah,mem⟩):gi P fn R X W n k M0 dt c an (m+1) aL ⟨ah,mem⟩:=by
 intro cQ bT a w hs hC
 simp only [ft]at hr
 have j6:i∈Region.ready .any an aL:=by simpa using hr.1
 have hy:ot P an (fun _=>True) o v a:= .inl ⟨hw.eq hs,fun w' _=>h w' a w' ⟨hs.size,hs.defers,hs.ah,aU.refl nX w',Mem.nil⟩⟩
 refine fF.first (C:=fun _=>True) (v:=v) hi (Gc cQ) (fun _ _ _ _=>trivial) (fun w1 w' hk _ h=>h.up hk) (fun _ _ _ _ _ _ _ _ _=>trivial) _ _ _ _ bT (Ge hi hr.2) j6 hy trivial ?_
 have:=hk cQ (bT.step j6) (a.put (some d) v) w (hs.put hdn v) hC
 rw [hd]
 exact this
theorem aqi{P:Program}{o:Oper}{t:TypeId}{x y z:Operand}(ho:o.op= .mapUpdate t x y z):mo P o:= .Wi (by rw [ho];intro c h;cases h) fun ρ=>⟨_,by simp only [execOp,ho];rfl⟩
theorem acm{size f:Nat}{vs:List Value}(hf:f+vs.length≤size):∀(ls:List (List Value)) (q:Nat) (cs:List Value),(∀z∈ls,z.length=size)→ls[q]?=some cs→
  (ls.set q (cs.take f++vs++cs.drop (f+vs.length))).flatten=ls.flatten.take (q*size+f)++vs++ls.flatten.drop (q*size+f+vs.length)
 | [],q,cs,_,h=>by simp at h
 |z::ls,0,cs,hz,h=>by
  simp only [J3,Option.some.injEq]at h
  subst h
  have hl:=hz z sM
  simp only [List.set_cons_zero,tA,Nat.zero_mul,xR]
  rw [Gi  oM,List.drop_append_of_le_length  oM]
  simp [bP]
 |z::ls,q+1,cs,hz,h=>by
  simp only [List.getElem?_cons_succ]at h
  have hl:=hz z sM
  have ih:=acm hf ls q cs (fun x hx=>hz x (by simp [hx])) h
  have e1:(q+1)*size+f=z.length+(q*size+f):=by rw [F9];omega
  simp only [F8,tA]
  rw [ih,e1,List.take_length_add_append,zt z.length,NQ]
  simp [bP]
theorem SR{X:Nat→Prop}{W:World}{P:Program}{n:Nat}{ah:List (Nat×Value)}{mem:List ak}{o:Oper}{t e:TypeId}{x y:Operand}{A:Option Addr}{m c size q f r:Nat}{ls:List (List Value)}{l:List ak}{cs:List Value}{v:Value}(ho:o.op= .store t x y)(hd:o.dst=none)(gr:Sz P t r)(hx:ev ah x=some (.pointer (some (((bI A).add (q*size)).add f))))(hy:ev ah y=some v)
  (hv:zT v=false)(hl:(dC v).length=r)(h1:iL (dC v)=true)(hs:ag mem (.ae e size A m c ls) l)(hq:q<m)(hf:f+r≤size)(wY:0<r)(hc:ls[q]?=some cs):
  H1 P X W n ⟨ah,mem⟩ o (fun _:Unit=>True) (fun _=>⟨ah,.ae e size A m c (ls.set q (cs.take f++dC v++cs.drop (f+(dC v).length)))::l⟩):=by
 subst hl
 intro a w cF k Q hk
 have hh:=hs.holds cF.mem
 obtain⟨g,fe,rfl,hg,h3,h4,h5,h6⟩:=GC hh  oM
 obtain⟨_,fD,hz⟩:=hh
 have Un:q*size+size≤m*size:=by rw [←F9];exact uF _ hq
 have uR:m*size≤c*size:=uF _ h3
 have cX:=J0 P g (q*size+f) e (dC v) 0 fe w hg  oM (BG h1)
 have fO:(execOp a.eval o).run P w= .ok .skip (w.setRow g (fe.toList.take (q*size+f)++dC v++fe.toList.drop (q*size+f+(dC v).length)).toArray):=by
  have GD:((bI (some ⟨g,0,none⟩)).add (q*size)).add f=⟨g,q*size+f,none⟩:=by rw [zP];simp [bI,wg]
  simp only [execOp,ho,cF.eval hx,cF.eval hy,Instr.storeAt,Instr.sureAddr,storeVar,GD,D7 hv]
  simp [gr.run,cX]
 refine GB fO ?_
 rw [hd]
 refine hk () _ _ trivial ?_
 have bT:cs.length=size:=hz cs (BB hc)
 have hw:=Kk (ls:=ls) (gu:=ls.set q (cs.take f++dC v++cs.drop (f+(dC v).length))) (vs:=dC v) hg h3 h4 h5 h6  oM (by simpa using fD) (fun z oX=>by
  rcases xU oX with h|rfl
  ·exact hz z h
  ·simp only [aP,fL,pM];omega) (acm hf ls q cs hz hc)
 have hm:Mem (fun k=>k=g) w [.ae e size (some ⟨g,0,none⟩) m c (ls.set q (cs.take f++dC v++cs.drop (f+(dC v).length)))] _:=Mem.nil.cons hw (fun k hk=> .inr (by simpa [ak.at,eq_comm]using hk)) sM
 exact cF.change (Y:=fun k=>k=g) (cs:= [.ae e size (some ⟨g,0,none⟩) m c ls]) (ls:=l) hs.aR Gz (fun k hk=>⟨.ae e size (some ⟨g,0,none⟩) m c ls,by simp,by simp [hk,ak.at]⟩) hm
end
theorem aqx{w w':World}(h:aU nX w w'):∃q os,w'=Go.Sort.grow (w.drewN q) os:=by
 refine⟨w'.drawn-w.drawn,w'.heap.extract w.heap.size w'.heap.size,?_⟩
 have hd:=h.drawn
 have hh:w'.heap=w.heap++w'.heap.extract w.heap.size w'.heap.size:=by
  apply Array.ext_getElem?
  intro i
  have hs:=h.size
  rw [Array.getElem?_append]
  split
  ·rename_i hi
   exact h.block i hi (fun e=>e)
  ·rename_i hi
   rw [Array.getElem?_extract]
   split
   ·congr 1;omega
   ·rename_i bG
    rw [DR]
    omega
 have e:w.drawn+(w'.drawn-w.drawn)=w'.drawn:=oM
 obtain⟨h1,h2,h3,h4,h5⟩:=w'
 obtain⟨g1,g2,g3,g4,g5⟩:=w
 have a1:=h.os
 have a2:=h.tape
 have a3:=h.output
 simp only at a1 a2 a3 hh e hd
 subst a1;subst a2;subst a3
 simp only [Go.Sort.grow,World.drewN,e]
 rw [←hh]
theorem get!_toArray{α:Type} [Inhabited α](l:List α)(i:Nat)(h:i<l.length):(l.toArray)[i]! =aa l i:=by
 simp [aa,h]
theorem aqy{α:Type}(f:α→Int)(cf:α→α→Int)(h:∀x y,cf x y<0↔f x<f y):Go.Sort.SWO (ltOf cf) where
 irrefl x:=by simp [ltOf,h]
 trans x y z h1 h2:=by simp [ltOf,h]at*;omega
 ntrans x y z h1 h2:=by simp [ltOf,h]at*;omega
section
variable{P:Program}{ρ:Go.Shelf.Ren}{α:Type} [Inhabited α]
theorem acq{enc:α→List Value}{k t g c m:Nat}{xs ys:List α}{w:World}{fe:Array Value}{os:Array Obj}(bx:0<k)(hk:∀x,(enc x).length=k)(hg:w.heap[g]?=some (.cells fe t (0,0)))(hn:xs.length≤c)(hc:c≤maxLen)(iG:fe.size=c*k)(hl:ys.length=xs.length):
  aU (fun b=>b=g) w (sortWorldK enc k w g 0 m ys.toArray os)∧(ak.ae t k (some ⟨g,0,none⟩) xs.length c (ys.map enc)).holds (sortWorldK enc k w g 0 m ys.toArray os):=by
 have bG:=tG hg
 have hb:(sortWorldK enc k w g 0 m ys.toArray os).heap[g]?=some (.cells (Go.Sort.putCells id 0 (Go.Sort.flatK enc k ys.toArray) fe) t (0,0)):=by
  unfold sortWorldK Go.Sort.grow Go.Sort.putRowK Go.Sort.putRow Go.Sort.mapBlock Go.Sort.ahead
  simp only
  rw [JW (by simpa using bG),Array.getElem?_modify,aG rfl,hg]
  rfl
 refine⟨⟨rfl,rfl,rfl,by simp [sortWorldK,Go.Sort.putRowK,Go.Sort.ahead],fun b nf hx=>?_,by show w.drawn≤w.drawn+m;omega⟩,?_⟩
 ·unfold sortWorldK Go.Sort.grow Go.Sort.putRowK Go.Sort.putRow Go.Sort.mapBlock Go.Sort.ahead
  simp only
  rw [JW (by simpa using nf),Array.getElem?_modify,ay (fun e=>hx e.symm)]
 ·have BJ:∀z∈ys.map enc,z.length=k:=fun z hz=>by obtain⟨y,_,rfl⟩:=cM.1 hz;exact hk y
  refine⟨⟨by rw [tL _ BJ,bD,hl],.inr ⟨g,c,_,rfl,gA _,hb,hn,hc,by simp [Go.Sort.putCells,iG],?_⟩⟩,by simp [hl],BJ⟩
  have je:xs.length*k≤fe.size:=by rw [iG];exact uF _ hn
  apply xT
  intro i
  rw [DT]
  split
  ·rename_i hi
   have hq:i/k<ys.length:=by rw [hl];exact Nat.div_lt_of_lt_mul (by rw [By];exact hi)
   have hr:i%k<k:=Nat.mod_lt _ bx
   have h2:=Gx (ys.map enc) k BJ (i/k) (enc (aa ys (i/k))) (bX hq) (i%k) ((enc (aa ys (i/k)))[i%k]'(by rw [hk];exact hr)) (j4 _)
   have e:i/k*k+i%k=i:=by rw [By];exact Nat.div_add_mod _ _
   rw [e]at h2
   rw [h2,Array.getElem?_toList]
   simp only [Go.Sort.putCells,Array.getElem?_mapIdx]
   have sI:i<fe.size:=oM
   rw [NS sI]
   simp only [tz]
   rw [aG ⟨gA _,by rw [Go.Sort.size_flatK];simpa [hl]using hi⟩]
   simp only [Nat.sub_zero,id]
   rw [Go.Sort.get_flatK _ _ _ _ (by simpa [hl]using hi),get!_toArray _ _ hq]
   congr 1
   rw [List.getElem!_eq_getElem?_getD,j4 (by rw [hk];exact hr)]
   rfl
  ·rename_i hi
   rw [tB]
   rw [tL _ BJ,bD,hl]
   omega
theorem acr(L:SlLaysF0.n6 P ρ)(k t:Nat)(bx:0<k)(aE:∀w,(isAgg (ρ.t 24)).run P w= .ok true w)(zE:∀w,(Go.sizeOf (ρ.t 24)).run P w= .ok k w)(enc:α→List Value)(hk:∀x,(enc x).length=k)(h1:∀x,∀v∈enc x,v.oneCell'=true)(f:α→Int)(cf:α→α→Int)(qO:∀x y,cf x y<0↔f x<f y)(g:Nat)(cb:Array Value)(A:Option Addr)(c:Nat)(xs:List α)(W:World)
  (hm:Mem (aX [.ae t k A xs.length c (xs.map enc)]) W [.ae t k A xs.length c (xs.map enc)] W)(hn:0<xs.length)(gr:xs.length<4611686018427387904)(eg:eG P g)
  (aqz:∀x y w,aU (aX [.ae t k A xs.length c (xs.map enc)]) W w→Calls P g (#[.agg (enc x).toArray,.agg (enc y).toArray]++cb) w (aK w (.int .i64 (cf x y)))):
  Calls P (ρ.f 6) #[.slice A xs.length c,.func (.func g) #[] cb] W (bK W (aX [.ae t k A xs.length c (xs.map enc)]) fun v m=>v= .tuple #[]∧∃ys:List α,ys.Perm xs∧(∀i j,i<j→j<xs.length→¬cf (aa ys j) (aa ys i)<0)∧m= [.ae t k A xs.length c (ys.map enc)]):=by
 have hh:(ak.ae t k A xs.length c (xs.map enc)).holds W:=hm.holds _ sM
 obtain⟨b,fe,rfl,hg,h3,h4,h5,h6⟩:=GC hh hn
 have hY:∀q,aX [.ae t k (some ⟨b,0,none⟩) xs.length c (xs.map enc)] q↔q=b:=fun q=>by simp [aX,ak.at,eq_comm]
 have aqA:=tG hg
 have BJ:∀z∈xs.map enc,z.length=k:=fun z hz=>by obtain⟨y,_,rfl⟩:=cM.1 hz;exact hk y
 have cj:=bL hh
 have hH:Go.Sort.HoldsK enc k W b 0 xs.toArray:=by
  intro j hj
  have er:j<xs.length*k:=by simpa using hj
  have hq:j/k<xs.length:=Nat.div_lt_of_lt_mul (by rw [By];exact er)
  have hr:j%k<k:=Nat.mod_lt _ bx
  have e:j/k*k+j%k=j:=by rw [By];exact Nat.div_add_mod _ _
  constructor
  ·rcases cj with h|⟨ad,ha,h⟩
   ·have:xs= []:=by simpa using h
    subst this;simp at hn
   ·obtain rfl:=Option.some.inj ha
    have h2:=h (j/k) _ (bX hq) (j%k) ((enc (aa xs (j/k)))[j%k]'(by rw [hk];exact hr)) (j4 _)
    have ea:(Addr.add ⟨b,0,none⟩ (j/k*k+j%k))=⟨b,0+j,none⟩:=by rw [wg,e]
    rw [ea]at h2
    rw [h2,Go.Sort.get_flatK _ _ _ _ (by simpa using er),get!_toArray _ _ hq]
    congr 1
    simp only [id]
    rw [List.getElem!_eq_getElem?_getD,j4 (by rw [hk];exact hr)]
    rfl
  ·simp [World.frozen?,hg]
 have hO:=aqy f cf qO
 have Nn:xs.toArray.size=xs.length:=by simp
 have bT:CmpLays P g cb enc k cf b 0 xs.toArray.size W:=by
  intro m os dk hdk x y
  have LW:=(acq (m:=m) (os:=os) (ys:=dk.toList) bx hk hg h3 h4 h5 (by rw [DU,hdk];simp)).1
  rw [Array.toArray_toList]at LW
  refine(aqz x y _ ((aU.refl _ W).step LW fun q _ hx e=>hx ((hY q).2 e))).mono ?_
  rintro e w' ⟨he,hw⟩
  obtain⟨q,os',h⟩:=aqx hw
  exact⟨he,q,os',h⟩
 have Bj:=AnyQ.slices_SortFunc L k aE zE enc hk h1 cf hO g cb b 0 c xs.toArray W eg bT hH aqA (by rw [Nn];exact gr)
 rw [Nn]at Bj
 refine Bj.mono ?_
 rintro e w' ⟨rfl,d',n,os,hp,mA,rfl⟩
 obtain⟨eH,_,No⟩:=hp
 rw [Nn]at eH
 have e1:d'.extract 0 xs.length=d':=by rw [←eH];simp
 have e2:xs.toArray.extract 0 xs.length=xs.toArray:=by rw [←Nn];simp
 rw [e1,e2]at No
 have hw:=acq (m:=n) (os:=os) (ys:=d'.toList) bx hk hg h3 h4 h5 (by rw [DU,eH])
 rw [Array.toArray_toList]at hw
 have gh:∀i j,i<j→j<xs.length→¬cf (aa d'.toList j) (aa d'.toList i)<0:=fun i j j7 hj=>by
  have hl:d'.toList.length=xs.length:=by simpa using eH
  have h:=mA i j (gA _) j7 hj
  have e1:d'[j]! =aa d'.toList j:=by rw [←get!_toArray d'.toList j  oM,Array.toArray_toList]
  have e2:d'[i]! =aa d'.toList i:=by rw [←get!_toArray d'.toList i  oM,Array.toArray_toList]
  rw [e1,e2]at h
  simpa [ltOf]using h
 refine⟨_,_,⟨rfl,d'.toList,by simpa using No,gh,rfl⟩,rfl,(aU.refl _ W).step hw.1 (fun q _ hx e=>hx ((hY q).2 e)),?_⟩
 exact Mem.nil.cons hw.2 (fun q hq=> .inr ((hY q).2 (by simpa [ak.at,eq_comm]using hq)))  sM 
end
end Hr
end Go.Proofs.YtdahjfmmndjcpaaGreat
