/- Part. -/
import Derived.Test.YtdahjfmmndjcpaaGreatQ14
import Derived.Test.YtdahjfmmndjcpaaGreatQ20
set_option linter.unusedSimpArgs false
set_option linter.unusedVariables false
set_option maxHeartbeats 40000000
set_option maxRecDepth 100000
namespace Go.Proofs.YtdahjfmmndjcpaaGreat
open Go Go.RowKit Hr Go.Proofs.Tryz
theorem aoh(p:ql)(e:aN)(mb b2:Nat)(W:World)(gK:(ak.fR mb MX (fun _=>none)).holds W)(nW:Rd W (some ⟨b2,0,none⟩) 1 [[.map (some mb)]]):Calls prog 180 #[.agg p.enc.toArray,.agg (aN.enc e).toArray,.pointer (some ((bI (some ⟨b2,0,none⟩)).add (0*1)))] W (Hr.aK W (.bool false)):=by
 apply Ej 2 func180 ntmps180;refine Nw 0 fun b3=>?_;refine Nw 4 fun b4=>?_;refine Qq 1 (Qk rfl (.aq nW .no) rfl) ?_;refine Qq 2 (HN (v:= .bool false) rfl underlying304 aob rfl rfl (.aq gK) (ql.key p) C7 rfl) ?_;apply kp 1 [5];exact ax rfl rfl rfl
theorem aoi(s:aw)(aS:Int)(L:Value)(b:Nat)(W:World)(hb:Rd W (some ⟨b,0,none⟩) 8 [bA s aS L])(hs:s.rd W)(hB:cx s):Calls prog 106 #[.pointer (some ((bI (some ⟨b,0,none⟩)).add (0*8)))] W (Hr.aK W (.tuple #[])):=by
 have bn:ed W s.ms s.MA:=⟨hs.m,hs.mr⟩;have dx:=hB.ml;have gS:=hB.pl;have hZ:=hB.sn;have iF:=hB.sl;have jL:=hB.ll;apply Ej 2 func106 ntmps106;refine Hh (HM (K:=MX) rfl rfl rfl) ?_;rintro b7-;refine Nw 7 fun b2=>?_;refine Qq 0 (jO rfl zA rfl (.aq hb .no) (show([bA s aS L]:List (List Value))[0]?=some (bA s aS L)from rfl) rfl rfl) ?_;refine Qq 2 (Qc rfl fun w hk _=>Iw s w (hs.p.az hk) (fun x hx=>(hs.pr x hx).az hk) ⟨gS.2,fun p hp=>by have:=(hB.ps p hp).st;omega⟩) ?_;apply kp 7 [0,2,3];apply Ks 0 [14,0,2,13] [0,0];refine dI (ι:=Nat) (fun k=>k≤bC s.ps) (fun k=>Iv k) (fun k=>bC s.ps-k) 0 dO rfl ?_;rintro k ct;(try dsimp only at ct);apply Cd 5;intros;apply ab 13;apply Ks 0 [17,0,2,4,13,14] [0,0];refine dI (ι:=Nat) (fun v=>v≤2) (fun v=>Iv v) (fun v=>2-v) 0 dO rfl ?_;rintro v vz;(try dsimp only at vz);apply Cd 5;intros;apply ab 13;apply Ks 0 [20,0,2,4,5,13,14,17] [0,0];refine dI (ι:=Nat) (fun n=>n≤4) (fun n=>Iv n) (fun n=>4-n) 0 dO rfl ?_;rintro n hn1;(try dsimp only at hn1);apply Cd 5;intros;apply ab 14;refine Qq 1 (Qc rfl fun w hk _=>aof s aS L b k v n b7 w (hb.az hk) (hs.az hk) hB) ?_;apply kp 5 [0,2,4,5,13,14,17,20];refine Ag (n+1) ?_;omega;intros;apply ab 1;apply kp 5 [0,2,4,13,14,17];refine Ag (v+1) ?_;omega;intros;apply ab 1;apply kp 5 [0,2,13,14];refine Ag (k+1) ?_;omega;intros;apply ab 1;apply kp 0 [0,2];refine rM (.cons (iZ 0) (.ai (eL [0])) (dZ [0])) ?_;apply ab 2;refine Qq 0 (iN rfl (bf rfl)) ?_;refine Qq 1 (Qc rfl fun w hk hm=>MS s aS L b 180 [.pointer (some ⟨b2,0,none⟩)] w (hb.az hk) (hs.az hk) hB kZ (fun i c v x hi hc hv hx w' bO=>aoh ⟨4,0,c,i,v,x,0⟩ ((aa (aa (aa (aa s.ms i).cs c).vs v).es x)) b7 b2 w' (Qh ((ag.aj ag.ao).holds hm) bO) ((iv (ag.ao.holds hm)).az bO))) ?_;apply kp 0 [];apply Km 0 [];exact di rfl rfl
theorem ao1(s:aw)(i:Nat)(W:World)(bn:ed W s.ms s.MA)(hB:cx s)(hi:i<s.ms.length):Calls prog 190 #[Iv i,(aa s.ms i).val] W (Hr.aK W (.bool false)):=by
 obtain⟨aM,fU⟩:=hB.me hi
 have xq:=fU.cs
 have hZ:=hB.sn
 have dx:=hB.ml
 have gz:=fU.eP
 have xh:=fU.met.ln.1
 have tY:(aa s.ms i).tm.length≤1∧∀j,j<(aa s.ms i).tm.length→(aa (aa s.ms i).tm j).cD=0∧300000≤(aa (aa s.ms i).tm j).ye∧(aa (aa s.ms i).tm j).ye≤2850000:=by
   rcases fU.tm with e|⟨t,e,h1,h2,h3⟩
   ·rw [e];exact⟨by simp,fun j hj=>absurd hj sM⟩
   ·rw [e];exact⟨by simp,fun j hj=>by
    obtain rfl:j=0:=by simpa using hj
    exact⟨h1,h2,h3⟩⟩
 apply Ej 2 func190 ntmps190
 refine Nw 5 fun b3=>?_
 refine Qq 6 (Qc rfl fun w _ _=>yZ (aa s.ms i) w fU.met fU.sU) ?_
 apply kp 6 [3,4,5]
 apply Sd 0 18
 ·intro _ q_
  apply ab 2
  refine Qq 5 (Qc rfl fun w _ _=>n4 _ _ _ w  oM) ?_
  refine Qq 4 (Qc rfl fun w _ _=>n4 _ _ _ w  oM) ?_
  apply kp 9 [3,4,5,7]
  apply Ks 0 [33,7,3,4,5,31,32] [0]
  refine kR (ι:=Nat) (fun j=>j≤(aa s.ms i).tm.length) (fun j=>Iv j) (fun j=> .bool false) (fun j=>(aa s.ms i).tm.length-j) 0 dO rfl rfl ?_
  rintro j kI
  (try dsimp only at kI)
  apply Cd 5
  ·intros
   have gL:j<(aa s.ms i).tm.length:=oM
   have hjt:=tY.2 j gL
   apply ab 6
   refine Qq 0 (Qi j rfl (.aq (bn.r _ (aB hi)).t .no)) ?_
   refine Qq 0 (Qe rfl (.aq (bn.r _ (aB hi)).t .no)) ?_
   refine Nw 3 fun b9=>?_
   apply kp 0 [3,4,5,7,8,9,31,32,33]
   apply Dd 6 [0,1,2,3,4,5,6,7,8,9,10,11,12,13,14,15,16,17,18,19,20,21,22,23,24,25,26,27,28,29,30,31]
   refine Dq 5 rfl (Qc rfl fun w _ _=>n4 _ _ _ w  oM) ?_
   refine Dq 16 rfl (Qc rfl fun w _ _=>n4 _ _ _ w  oM) ?_
   refine Dq 3 rfl (df rfl rfl (cn  oM) rfl) ?_
   apply kp 5 [3,4,5,7,31,32,33]
   refine Ag (j+1) ?_
   omega
  ·intros
   apply ab 1
   apply kp 6 [4,7]
   exact ax rfl rfl rfl
 ·intro _ q_
  apply ab 8
  refine Qq 4 (Qc rfl fun w _ _=>n4 _ _ _ w  oM) ?_
  apply kp 9 [3,4,5,7]
  apply Ks 0 [33,7,3,4,5,31,32] [0]
  refine kR (ι:=Nat) (fun j=>j≤(aa s.ms i).tm.length) (fun j=>Iv j) (fun j=> .bool false) (fun j=>(aa s.ms i).tm.length-j) 0 dO rfl rfl ?_
  rintro j kI
  (try dsimp only at kI)
  apply Cd 5
  ·intros
   have gL:j<(aa s.ms i).tm.length:=oM
   have hjt:=tY.2 j gL
   apply ab 6
   refine Qq 0 (Qi j rfl (.aq (bn.r _ (aB hi)).t .no)) ?_
   refine Qq 0 (Qe rfl (.aq (bn.r _ (aB hi)).t .no)) ?_
   refine Nw 3 fun b9=>?_
   apply kp 0 [3,4,5,7,8,9,31,32,33]
   apply Dd 6 [0,1,2,3,4,5,6,7,8,9,10,11,12,13,14,15,16,17,18,19,20,21,22,23,24,25,26,27,28,29,30,31]
   refine Dq 5 rfl (Qc rfl fun w _ _=>n4 _ _ _ w  oM) ?_
   refine Dq 16 rfl (Qc rfl fun w _ _=>n4 _ _ _ w  oM) ?_
   refine Dq 3 rfl (df rfl rfl (cn  oM) rfl) ?_
   apply kp 5 [3,4,5,7,31,32,33]
   refine Ag (j+1) ?_
   omega
  ·intros
   apply ab 1
   apply kp 6 [4,7]
   exact ax rfl rfl rfl
theorem M5(s:aw)(aS:Int)(L:Value)(b:Nat)(W:World)(hb:Rd W (some ⟨b,0,none⟩) 8 [bA s aS L])(hs:s.rd W)(hB:cx s):Calls prog 111 #[.pointer (some ((bI (some ⟨b,0,none⟩)).add (0*8)))] W (Hr.aK W (.tuple #[])):=by
 have bn:ed W s.ms s.MA:=⟨hs.m,hs.mr⟩;have dx:=hB.ml;have gS:=hB.pl;have hZ:=hB.sn;have iF:=hB.sl;have jL:=hB.ll;apply Ej 2 func111 ntmps111;refine Qq 1 (Qc rfl fun w hk _=>CZ s aS L b 190 [] w (hb.az hk) (hs.az hk) hB kZ (fun i hi w' bO=>ao1 s i w' (bn.az (hk.fu bO)) hB hi)) ?_;apply kp 0 [];exact di rfl rfl
namespace Hr
def Nf{α:Type}(P:Program)(l:Nat)(encs:α→List Value)(J Jx:List α→List ak→Prop)(B:List α→α→Prop)(Ho:World→List ak→Prop):Prop:=
 ∀bo x rs w,J bo rs→Mem (aX rs) w rs w→B bo x→Ho w rs→
  YieldAt Fence.wide 0 P l (encs x).toArray w fun e w'=>∃bZ,EG rs bZ w w'∧((e= .returned (.bool true)∧J (bo++ [x]) bZ)∨(e= .returned (.bool false)∧Jx (bo++ [x]) bZ))
def ace{α:Type}(P:Program)(f:Nat)(Hm:List Value)(encs:α→List Value)(S Sp:List α→Prop)(B:List α→α→Prop)(Ho:World→List ak→Prop)(bt:List ak)(w:World):Prop:=
 ∀(l:Nat) (J Jx:List α→List ak→Prop),J [] bt→Nf P l encs J Jx B Ho→CallsIn Fence.wide 0 P f (.func (.yield l) #[] #[]::Hm).toArray w (yt J Jx S Sp bt w)
section
variable{P:Program}{fn:Func}{ρ:Option Nat}{Qb:Exit→Act→World→Prop}{ds:List Deferred}{X:Nat→Prop}{W:World}{n:Nat}{k:List K}{S:St}{ah:List (Nat×Value)}{mem:List ak}{all:Array Oper}{aQ:List Oper}{o:Oper}
theorem ap0{α:Type}{g:Operand}{ps:Array Tmp}{fG body:Code}{gf:Nat}{B:List α→α→Prop}{lb:List Value}{encs:α→List Value}{Sd Sp:List α→Prop}(J:List α→List ak→Prop)(Jx:Code→List α→List ak→Prop)(bt aQ:List ak)(Ho:World→List ak→Prop)
  (hg:ev ah g=some (.func (.func gf) #[] lb.toArray))(qO:eG P gf)(eH:∀x,(encs x).length=ps.size)(yu:∀p∈ps.toList,Nat.blt p n=true)(hp:ar mem (bt++aQ))(h0:J [] bt)
  (B6:∀r w,aU X W w→Mem X W (r::(bt++aQ)) w→ace P gf lb encs Sd Sp B Ho (r::bt) w)
  (B7:∀l r w bo x rs,r.state= .ready→r.pending=none→J bo rs→B bo x→Mem (aX (cw l r::rs)) w (cw l r::rs) w→Ho w (cw l r::rs)→
   RF (some l) P QF [] (aX (cw l r::rs)) w n [.bq fG,.stop (Hq P l body (RQ P l r J Jx (bo++ [x]) (cw l r::rs) w))] ⟨(ps.toList.zip (encs x)).foldl (fun e p=>p::e) ah,cw l r::rs⟩)
  (B8:∀D xs rs,Sd xs→J xs rs→RF none P Qb (qe D::ds) X W n k ⟨ah,dq [D]::(rs++aQ)⟩)
  (B9:∀D c xs rs,Sp xs→Jx c xs rs→RF none P Qb (qe D::ds) X W n (.bq c::k) ⟨ah,dq [D]::(rs++aQ)⟩):
  RF none P Qb ds X W n (.bq (.rangeFunc g ps fG body)::k) ⟨ah,mem⟩:=by
 intro a w jk
 have ei:cd X W n ⟨ah,bt++aQ⟩ {a with defers:= []} w:=au dR.refl hp _ _ jk.1
 refine Pk (jk.eval hg) qO fun lQ=>?_
 generalize cj:({state:= .ready,pending:=none,fn:=lQ,tmps:=a.tmps,params:=ps,assign:=fG,body,defers:=w.heap.size}:Loop)=ch
 have cX:ch.state= .ready:=by rw [←cj]
 have gy:ch.pending=none:=by rw [←cj]
 have k1:aU nX w (w.alloc (.deferred (some []))):=aU.alloc _ _
 have k2:aU nX (w.alloc (.deferred (some []))) ((w.alloc (.deferred (some []))).alloc (.loop ch)):=aU.alloc _ _
 have e1:(w.alloc (.deferred (some []))).heap.size=w.heap.size+1:=World.size_alloc ..
 have g1:(w.alloc (.deferred (some []))).heap[w.heap.size]?=some (.deferred (some [])):=DX _ _
 have g2:((w.alloc (.deferred (some []))).alloc (.loop ch)).heap[w.heap.size+1]?=some (.loop ch):=by rw [←e1];exact DX _ _
 have B_:=ei.dm.size
 have m1:Mem X W (dq [w.heap.size]::(bt++aQ)) (w.alloc (.deferred (some []))):=by
  refine(ei.mem.uL k1).cons ⟨by simp,fun D hD=>?_⟩ (fun b hb=>?_) (fun s hs b hb jw=>?_)
  ·obtain rfl:=cS.1 hD;exact g1
  ·obtain rfl:=cS.1 hb;exact .inl B_
  ·obtain rfl:=cS.1 hb;exact absurd (ei.mem.lt s hs _ jw) (Bw _)
 have m2:Mem X W (cw (w.heap.size+1) ch::dq [w.heap.size]::(bt++aQ)) ((w.alloc (.deferred (some []))).alloc (.loop ch)):=by
  refine(m1.uL k2).cons g2 (fun b hb=>?_) (fun s hs b hb jw=>?_)
  ·obtain rfl:w.heap.size+1=b:=hb;exact .inl  oM
  ·obtain rfl:w.heap.size+1=b:=hb
   have:=m1.lt s hs _ jw
   rw [e1]at this
   exact absurd this (Bw _)
 have eR:cd X W n ⟨ah,cw (w.heap.size+1) ch::dq [w.heap.size]::(bt++aQ)⟩ {a with defers:= []} ((w.alloc (.deferred (some []))).alloc (.loop ch)):=ei.D2 ((ei.dm.fu k1).fu k2) m2
 generalize (w.alloc (.deferred (some []))).alloc (.loop ch)=w2 at*
 have mL:cd X W n ⟨ah,cw (w.heap.size+1) ch::(bt++dq [w.heap.size]::aQ)⟩ {a with defers:= []} w2:=au dR.refl (ar.aR (.cons _ (List.perm_middle.symm))) _ _ eR
 have hc:=B6 (cw (w.heap.size+1) ch) w2 mL.dm ((mL.mem.sub (.cons_cons _ (List.Sublist.append_left (zx _ _) _)))) (w.heap.size+1)
  (fun bo bZ=>∃rs,bZ=cw (w.heap.size+1) ch::rs∧J bo rs) (fun bo bZ=>∃rs c,bZ=cw (w.heap.size+1) {ch with state:= .done,pending:=some c}::rs∧Jx c bo rs) ⟨bt,rfl,h0⟩ ?yr
 case yr=>
  rintro bo x bZ w3 ⟨rs,rfl,hJ⟩ hm hN yv
  have hl:w3.heap[w.heap.size+1]?=some (.loop ch):=hm.head.1
  have vd:ch.params=ps:=by rw [←cj]
  have tY:ch.tmps=a.tmps:=by rw [←cj]
  have kC:ch.body=body:=by rw [←cj]
  have has:ch.assign=fG:=by rw [←cj]
  have hy:=run_yield (P:=P) (args:=(encs x).toArray) hl (by rw [vd];simp [eH])
  rw [vd,tY,kC,has]at hy
  refine⟨_,_,_,_,hy,roundIn_of_wpIn trivial ?_⟩
  have gh:cd (aX (cw (w.heap.size+1) ch::rs)) w3 n ⟨ah,cw (w.heap.size+1) ch::rs⟩ {a with defers:= []} w3:=⟨jk.1.size,rfl,jk.1.ah,aU.refl _ _,hm⟩
  have ng:=Hs (ps.toList.zip (encs x)) _ _ _ gh (fun p hp=>yu _ (List.of_mem_zip hp).1)
  have he:({tmps:=(ps.zip (encs x).toArray).foldl (fun t (p,v)=>t.setIfInBounds p v) a.tmps,defers:= []}:Act)={({a with defers:= []}:Act)with tmps:=(ps.toList.zip (encs x)).foldl (fun t p=>t.setIfInBounds p.1 p.2) a.tmps}:=by
   congr 1
   rw [←Ga,Array.toList_zip]
  rw [he]
  refine B7 (w.heap.size+1) ch w3 bo x rs cX gy hJ hN hm yv _ w3 ?_
  exact⟨ng,rfl⟩
 have ea:(#[.func (.yield (w.heap.size+1)) #[] #[]]++lb.toArray:Array Value)=(.func (.yield (w.heap.size+1)) #[] #[]::lb).toArray:=by simp
 rw [ea]
 refine hc.mono ?_
 rintro e w4 ⟨⟨v,rfl⟩,xs,bZ,⟨yw,Ca⟩,Cb⟩
 have ve:cd X W n ⟨ah,bZ++dq [w.heap.size]::aQ⟩ {a with defers:= []} w4:=mL.change (cs:=cw (w.heap.size+1) ch::bt) (ls:=dq [w.heap.size]::aQ) (m:=bZ) (Y:=aX (cw (w.heap.size+1) ch::bt)) (List.Perm.refl _) yw (fun b hb=>hb) Ca
 have sQ:∀r rs,bZ=cw (w.heap.size+1) r::rs→r.state≠ .busy→∃w5,(Instr.endLoop (w.heap.size+1)).run P w4= .ok r.pending w5∧SF (qe w.heap.size::ds) X W n ⟨ah,dq [w.heap.size]::(rs++aQ)⟩ {a with defers:= [qe w.heap.size]++a.defers} w5:=by
  rintro r rs rfl hb
  have hl:w4.heap[w.heap.size+1]?=some (.loop r):=ve.mem.head.1
  refine⟨_,run_endLoop hl hb,?_,by simp [jk.2]⟩
  have h5:=(show cd X W n ⟨ah,cw (w.heap.size+1) r::(rs++dq [w.heap.size]::aQ)⟩ {a with defers:= []} w4 from ve).EJ (r':={r with state:= .exhausted})
  exact au dR.refl ((ar.sub (zx _ _)).trans (ar.aR wk)) _ _ h5
 rcases Cb with⟨hS,rs,ij,hJ⟩|⟨hS,rs,c,ij,hJ⟩
 ·obtain⟨w5,lr,qP⟩:=sQ _ _ ij (by rw [cX];intro h;cases h)
  refine⟨none,w5,by rw [lr,gy],?_⟩
  exact B8 _ xs rs hS hJ _ _ qP
 ·obtain⟨w5,lr,qP⟩:=sQ _ _ ij (by intro h;cases h)
  refine⟨some c,w5,lr,?_⟩
  exact B9 _ c xs rs hS hJ _ _ qP
end
section
variable{ρ:Option Nat}{P:Program}{Qb:Exit→Act→World→Prop}{ds:List Deferred}{X:Nat→Prop}{W:World}{n:Nat}{k:List K}{S:St}{ah:List (Nat×Value)}{mem:List ak}{all:Array Oper}{aQ:List Oper}{o:Oper}
theorem acf{α:Type}{l d:Nat}{B:List α→α→Prop}{encs:α→List Value}{J Jx:List α→List ak→Prop}{bo:List α}{rs ls:List ak}(x:α){y:Operand}{xs:Array Operand}{ts:Array TypeId}{vs:List Value}(hw:cW all ah o true)(ho:o.op= .call {callee:= .value y,args:=xs,argTypes:=ts})(hd:o.dst=some d)(hdn:Nat.blt d n=true)
  (hy:ev ah y=some (.func (.yield l) #[] #[]))(hx:kv ah xs.toList vs)(he:vs=encs x)(cQ:ag mem (.aT rs) ls){Ho:World→List ak→Prop}(hF:∀w rs,aU X W w→(∀r∈rs,∀b,r.at b→W.heap.size≤b∨X b)→Ho w rs)(hY:Nf P l encs J Jx B Ho)(hJ:J bo rs)(hN:B bo x)
  (h1:∀bZ,J (bo++ [x]) bZ→RF ρ P Qb ds X W n (.an all aQ::k) ⟨(d,.bool true)::ah,.aT bZ::ls⟩)
  (h2:∀bZ,Jx (bo++ [x]) bZ→RF ρ P Qb ds X W n (.an all aQ::k) ⟨(d,.bool false)::ah,.aT bZ::ls⟩):RF ρ P Qb ds X W n (.an all (o::aQ)::k) ⟨ah,mem⟩:=by
 intro a w hs
 refine wpListIn_step fun K hK=>?_
 rw [aG (Pj hw hs)]
 have hm:=(ar.tJ _ _ _ (hs.1.mem.aR cQ.aR)).1
 obtain⟨f,tmps,fG,body,tW,hR⟩:=hY bo x rs w hJ hm.fQ hN (hF _ _ hs.1.dm (fun r hr=>hm.ae r (BC _ hr)))
 unfold Oper.wpIn
 refine⟨fun f _=>trivial,?_⟩
 rw [zJ (Fr ρ) _ _ (by rw [ho];intro c h;cases h)]
 have z6:xs.map a.eval=(encs x).toArray:=J6.1 (by have:=hx.map hs.1;rw [Ak]at this;rw [Array.toList_map,this,←he])
 have fO:(execOp a.eval o).run P w= .ok (.round l f tmps fG body) w:=by
  simp [execOp,ho,resolve,invoke,Deferred.ofValue,hs.eval hy,z6,tW]
 rw [fO,Oper.uponIn_round]
 refine⟨(fun h=>by cases h),RoundIn.mono hR fun e w' B3=>?_⟩
 obtain⟨bZ,⟨hk,wQ⟩,hj⟩:=B3
 have eR:=(hs.1.change (cs:= [.aT rs]) (ls:=ls) (m:= [.aT bZ]) (Y:=aX rs) cQ.aR hk (fun b hb=>⟨.aT rs,by simp,hb⟩) ((ar.close_ (rs:=bZ) (l:= []) _ _ _ (by rw [gT];exact wQ)).1))
 rcases hj with⟨rfl,hj⟩|⟨rfl,hj⟩
 ·refine hK _ _ (h1 bZ hj _ _ ⟨?_,?_⟩)
  ·rw [hd];exact eR.put hdn _
  ·rw [sO];exact hs.2
 ·refine hK _ _ (h2 bZ hj _ _ ⟨?_,?_⟩)
  ·rw [hd];exact eR.put hdn _
  ·rw [sO];exact hs.2
end
theorem ap1{P:Program}{g:Operand}{ps:Array Tmp}{fG body:Code}{gf:Nat}{lb:Array Value}{Q:Exit→Act→World→Prop}{a:Act}{w:World}{l0:Nat}{r0:Loop}(ia:w.heap[l0]?=some (.loop r0))(hg:a.eval g= .func (.func gf) #[] lb)(qO:eG P gf)
  (h:∀lQ,CallsIn Fence.wide 0 P gf (#[.func (.yield w.heap.size) #[] #[]]++lb) (w.alloc (.loop {state:= .ready,pending:=none,fn:=lQ,tmps:=a.tmps,params:=ps,assign:=fG,body,defers:=r0.defers}))
   (rangePost (Fr (some l0)) 0 P w.heap.size Q a)):(Code.rangeFunc g ps fG body).wpIn (Fr (some l0)) 0 P Q a w:=by
 refine wpIn_rangeFunc fun lQ _=>?_
 refine⟨w.heap.size, [],w.alloc (.loop {state:= .ready,pending:=none,fn:=lQ,tmps:=a.tmps,params:=ps,assign:=fG,body,defers:=r0.defers}),{target:= .fn (.func gf) lb,args:= #[.func (.yield w.heap.size) #[] #[]]},w.alloc (.loop {state:= .ready,pending:=none,fn:=lQ,tmps:=a.tmps,params:=ps,assign:=fG,body,defers:=r0.defers}),gf,#[.func (.yield w.heap.size) #[] #[]]++lb,w.alloc (.loop {state:= .ready,pending:=none,fn:=lQ,tmps:=a.tmps,params:=ps,assign:=fG,body,defers:=r0.defers}),run_enterLoop_inner ia _ _ _ _ _,?_,?_,?_,?_,?_⟩
 ·simp only [resolve,hg]
  simp [go_sem]
 ·intro f' _;trivial
 ·have:=qO (#[.func (.yield w.heap.size) #[] #[]]++lb) (w.alloc (.loop {state:= .ready,pending:=none,fn:=lQ,tmps:=a.tmps,params:=ps,assign:=fG,body,defers:=r0.defers}))
  simp only [invoke,go_sem]
  simpa using this
 ·intro h;cases h
 ·exact h lQ
section
variable{P:Program}{fn:Func}{ρ:Option Nat}{Qb:Exit→Act→World→Prop}{ds:List Deferred}{X:Nat→Prop}{W:World}{n:Nat}{k:List K}{S:St}{ah:List (Nat×Value)}{mem:List ak}{all:Array Oper}{aQ:List Oper}{o:Oper}
theorem ap2{α:Type}{g:Operand}{ps:Array Tmp}{fG body:Code}{gf:Nat}{B:List α→α→Prop}{lb:List Value}{encs:α→List Value}{Sd Sp:List α→Prop}(J:List α→List ak→Prop)(Jx:Code→List α→List ak→Prop)(bt aQ:List ak)(Ho:World→List ak→Prop){l0:Nat}{r0:Loop}(ap3:cw l0 r0∈aQ)
  (hg:ev ah g=some (.func (.func gf) #[] lb.toArray))(qO:eG P gf)(eH:∀x,(encs x).length=ps.size)(yu:∀p∈ps.toList,Nat.blt p n=true)(hp:ar mem (bt++aQ))(h0:J [] bt)
  (B6:∀r w,aU X W w→Mem X W (r::(bt++aQ)) w→ace P gf lb encs Sd Sp B Ho (r::bt) w)
  (B7:∀l r w bo x rs,r.state= .ready→r.pending=none→J bo rs→B bo x→Mem (aX (cw l r::rs)) w (cw l r::rs) w→Ho w (cw l r::rs)→
   RF (some l) P QF [] (aX (cw l r::rs)) w n [.bq fG,.stop (Hq P l body (RQ P l r J Jx (bo++ [x]) (cw l r::rs) w))] ⟨(ps.toList.zip (encs x)).foldl (fun e p=>p::e) ah,cw l r::rs⟩)
  (B8:∀xs rs,Sd xs→J xs rs→RF (some l0) P Qb ds X W n k ⟨ah,rs++aQ⟩)
  (B9:∀c xs rs,Sp xs→Jx c xs rs→RF (some l0) P Qb ds X W n (.bq c::k) ⟨ah,rs++aQ⟩):
  RF (some l0) P Qb ds X W n (.bq (.rangeFunc g ps fG body)::k) ⟨ah,mem⟩:=by
 intro a w jk
 have ei:cd X W n ⟨ah,bt++aQ⟩ {a with defers:= []} w:=au dR.refl hp _ _ jk.1
 have ia:w.heap[l0]?=some (.loop r0):=ei.mem.holds _ (J8 _ ap3)
 refine ap1 ia (jk.eval hg) qO fun lQ=>?_
 generalize cj:({state:= .ready,pending:=none,fn:=lQ,tmps:=a.tmps,params:=ps,assign:=fG,body,defers:=r0.defers}:Loop)=ch
 have cX:ch.state= .ready:=by rw [←cj]
 have gy:ch.pending=none:=by rw [←cj]
 have k2:aU nX w (w.alloc (.loop ch)):=aU.alloc _ _
 have g2:(w.alloc (.loop ch)).heap[w.heap.size]?=some (.loop ch):=DX _ _
 have B_:=ei.dm.size
 have m2:Mem X W (cw w.heap.size ch::(bt++aQ)) (w.alloc (.loop ch)):=by
  refine(ei.mem.uL k2).cons g2 (fun b hb=>?_) (fun s hs b hb jw=>?_)
  ·obtain rfl:w.heap.size=b:=hb;exact .inl B_
  ·obtain rfl:w.heap.size=b:=hb;exact absurd (ei.mem.lt s hs _ jw) (Bw _)
 have mL:cd X W n ⟨ah,cw w.heap.size ch::(bt++aQ)⟩ {a with defers:= []} (w.alloc (.loop ch)):=ei.D2 (ei.dm.fu k2) m2
 generalize w.alloc (.loop ch)=w2 at*
 have hc:=B6 (cw w.heap.size ch) w2 mL.dm mL.mem w.heap.size
  (fun bo bZ=>∃rs,bZ=cw w.heap.size ch::rs∧J bo rs) (fun bo bZ=>∃rs c,bZ=cw w.heap.size {ch with state:= .done,pending:=some c}::rs∧Jx c bo rs) ⟨bt,rfl,h0⟩ ?yr
 case yr=>
  rintro bo x bZ w3 ⟨rs,rfl,hJ⟩ hm hN yv
  have hl:w3.heap[w.heap.size]?=some (.loop ch):=hm.head.1
  have vd:ch.params=ps:=by rw [←cj]
  have tY:ch.tmps=a.tmps:=by rw [←cj]
  have kC:ch.body=body:=by rw [←cj]
  have has:ch.assign=fG:=by rw [←cj]
  have hy:=run_yield (P:=P) (args:=(encs x).toArray) hl (by rw [vd];simp [eH])
  rw [vd,tY,kC,has]at hy
  refine⟨_,_,_,_,hy,roundIn_of_wpIn trivial ?_⟩
  have gh:cd (aX (cw w.heap.size ch::rs)) w3 n ⟨ah,cw w.heap.size ch::rs⟩ {a with defers:= []} w3:=⟨jk.1.size,rfl,jk.1.ah,aU.refl _ _,hm⟩
  have ng:=Hs (ps.toList.zip (encs x)) _ _ _ gh (fun p hp=>yu _ (List.of_mem_zip hp).1)
  have he:({tmps:=(ps.zip (encs x).toArray).foldl (fun t (p,v)=>t.setIfInBounds p v) a.tmps,defers:= []}:Act)={({a with defers:= []}:Act)with tmps:=(ps.toList.zip (encs x)).foldl (fun t p=>t.setIfInBounds p.1 p.2) a.tmps}:=by
   congr 1
   rw [←Ga,Array.toList_zip]
  rw [he]
  refine B7 w.heap.size ch w3 bo x rs cX gy hJ hN hm yv _ w3 ?_
  exact⟨ng,rfl⟩
 have ea:(#[.func (.yield w.heap.size) #[] #[]]++lb.toArray:Array Value)=(.func (.yield w.heap.size) #[] #[]::lb).toArray:=by simp
 rw [ea]
 refine hc.mono ?_
 rintro e w4 ⟨⟨v,rfl⟩,xs,bZ,⟨yw,Ca⟩,Cb⟩
 have ve:cd X W n ⟨ah,bZ++aQ⟩ {a with defers:= []} w4:=mL.change (cs:=cw w.heap.size ch::bt) (ls:=aQ) (m:=bZ) (Y:=aX (cw w.heap.size ch::bt)) (List.Perm.refl _) yw (fun b hb=>hb) Ca
 have sQ:∀r rs,bZ=cw w.heap.size r::rs→r.state≠ .busy→∃w5,(Instr.endLoop w.heap.size).run P w4= .ok r.pending w5∧SF ds X W n ⟨ah,rs++aQ⟩ a w5:=by
  rintro r rs rfl hb
  have hl:w4.heap[w.heap.size]?=some (.loop r):=ve.mem.head.1
  refine⟨_,run_endLoop hl hb,?_,jk.2⟩
  have h5:=(show cd X W n ⟨ah,cw w.heap.size r::(rs++aQ)⟩ {a with defers:= []} w4 from ve).EJ (r':={r with state:= .exhausted})
  exact au dR.refl (ar.sub (zx _ _)) _ _ h5
 rcases Cb with⟨hS,rs,ij,hJ⟩|⟨hS,rs,c,ij,hJ⟩
 ·obtain⟨w5,lr,qP⟩:=sQ _ _ ij (by rw [cX];intro h;cases h)
  refine⟨none,w5,by rw [lr,gy],?_⟩
  exact B8 xs rs hS hJ _ _ qP
 ·obtain⟨w5,lr,qP⟩:=sQ _ _ ij (by intro h;cases h)
  refine⟨some c,w5,lr,?_⟩
  exact B9 c xs rs hS hJ _ _ qP
end
theorem ap4{P:Program}{o:Oper}{t:TypeId}{xs:Array (Nat×Operand)}(ho:o.op= .build t xs):mo P o:= .Lb (by rw [ho];intro c h;cases h) fun ρ=>⟨_,by simp only [execOp,ho];rfl⟩
def FN(W:World)(w:World)(rs:List ak):Prop:=aU nX W w∧∀b,aX rs b→W.heap.size≤b
theorem Ng{X:Nat→Prop}{W0 W w:World}{rs l:List ak}(h0:aU nX W0 W)(hn:∀b,X b→W0.heap.size≤b)(hm:Mem X W (rs++l) w):∀b,aX rs b→W0.heap.size≤b:=
 Ld h0 hn fun r hr=>hm.ae r (BC _ hr)
theorem FN.of{X:Nat→Prop}{W0 W w w':World}{rs bZ l:List ak}(h0:aU nX W0 W)(hn:∀b,X b→W0.heap.size≤b)(hk:aU X W w)(hm:Mem X W (rs++l) w)(h1:aU (aX rs) w w')(h2:∀r∈bZ,∀b,r.at b→w.heap.size≤b∨aX rs b):FN W0 w' bZ:=
 ⟨sP (sP h0 hn hk) (Ng h0 hn hm) h1,Ld (sP h0 hn hk) (Ng h0 hn hm) h2⟩
end Hr
theorem NL:prog.built 128 []=some #[Iv 0,Iv 0,Iv 0,Iv 0,Iv 0,zq,zq,Iv 0,Iv 0,Iv 0,zq,Iv 0,Iv 0]:=by kernel_rfl
theorem aun(e:aN)(p:aY)(W:World)(hr:Rd W e.p.HA 5 (e.x.hs.map Hd.enc))(hl:e.x.hs.length≤100000):Calls prog 56 #[lM e.x e.p,p.val] W (Hr.aK W (.bool (tZ e p))):=by
 apply Ej 2 func56 ntmps56;refine Nw 0 fun b2=>?_;refine Nw 8 fun b3=>?_;apply Ks 0 [5,2,3,4] [0,0];refine dI (ι:=Nat) (fun k=>k≤e.x.hs.length∧(e.x.n.bh=1→∀j,j<k→((aa e.x.hs j).step==p.step&&((aa e.x.hs j).bU==p.bU&&(aa e.x.hs j).bH==p.bH))=false)) (fun k=>Iv k) (fun k=>e.x.hs.length-k) 0 (by(try dsimp only);exact⟨oM,fun _ j hj=>oM⟩) rfl ?_;rintro k hq;(try dsimp only at hq);obtain⟨bx,j8⟩:=hq;apply ab 9;apply kp 0 [2,3,4,5,10];apply Cd 0;intros;apply ab 4;apply Dd 4 [0,1,2,3,4,5,6,7,8,9,10,11,12];refine qG 16 rfl (fun fc=>?_) (fun fc=>?_);have auo:=td fc;apply ab 3;refine Dq 1 rfl (Qi k rfl (.aq hr .no)) ?_;refine Dq 1 rfl (jO rfl zA rfl (.aq hr .no) (bX  oM) rfl rfl) ?_;refine Dq 2 rfl (rq rfl rfl rfl R2 (fun w=>I3 w)) ?_;apply kp 0 [2,3,4,5,25];apply Cd 0;intro _ xz;apply ab 5;exact ax rfl rfl (aC Value.bool (ahI (by simpa using fc)  oM xz).symm);intro _ xz;apply ab 7;apply kp 0 [2,3,4,5];refine Ag (k+1) ?_;exact⟨oM,fun h1 j hj=>by by_cases e1:j=k;(· subst e1;exact xz);(· exact j8 h1 j  oM)⟩;have auo:=td fc;apply ab 18;apply kp 0 [2,3,4,5];refine Ag (k+1) ?_;exact⟨oM,fun h1=>absurd h1 (by simpa using fc)⟩;intros;apply ab 1;apply kp 5 [4];exact ax rfl rfl (aC Value.bool (ahJ  oM j8).symm)
theorem aup(s:aw)(i c v x:Nat)(W:World)(hR:ed W s.ms s.MA)(dL:i<s.ms.length)(fk:c<(aa s.ms i).cs.length)(gv:v<((aa (aa s.ms i).cs c)).vs.length)(qB:x<((aa (aa (aa s.ms i).cs c).vs v)).es.length)(nP:s.ms.length≤100000∧((aa (aa (aa s.ms i).cs c).vs v)).es.length≤100000):Calls prog 55 #[s.val,Iv i,Iv c,Iv v,Iv x] W (Hr.aK W (.tuple #[lM (mM s.ms i c v x).x (mM s.ms i c v x).p,.bool (qk s.ms i c v x)])):=by
 apply Ej 2 func55 ntmps55;refine Nw 0 fun b5=>?_;refine Nw 7 fun gl=>?_;refine Qq 1 (Qi i rfl (.aq hR.m .no)) ?_;refine Qq 1 (Qf rfl (.aq hR.m .no)) ?_;refine Qq 1 (Qi c rfl (.aq (hR.cs dL) .no)) ?_;refine Qq 1 (Qf rfl (.aq (hR.cs dL) .no)) ?_;refine Qq 1 (Qi v rfl (.aq (hR.vs dL fk) .no)) ?_;refine Qq 11 (Qf rfl (.aq (hR.vs dL fk) .no)) ?_;apply kp 0 [1,2,3,4,5,10,11,12,31];apply Cd 0;intros;apply ab 5;refine Qq 0 (Qi (x+1) rfl (.aq (hR.es dL fk gv) .no)) ?_;refine Qq 3 (Qe rfl (.aq (hR.es dL fk gv) .no)) ?_;apply kp 1 [1,2,3,5,10,11];exact cK rfl oZ _ .nil (by rw [(Pz  oM).1,(Pz  oM).2];rfl);intros;apply Sd 11 43;intro _ g43;apply ab 47;apply kp 3 [1,2,3,5,10,11,89];refine Qq 4 (bB rfl vZ (NL)) ?_;exact cK rfl oZ _ .nil (by rw [(yz  oM oM).1,(yz  oM oM).2];rfl);intro _ g43;apply ab 5;refine Qq 1 (Qi (i+1) rfl (.aq hR.m .no)) ?_;refine Qq 4 (Qf rfl (.aq hR.m .no)) ?_;apply Sd 0 55;intro _ IV;apply ab 35;apply kp 3 [1,2,3,5,10,11,89];refine Qq 4 (bB rfl vZ (NL)) ?_;exact cK rfl oZ _ .nil (by rw [(yz  oM oM).1,(yz  oM oM).2];rfl);intro _ IV;apply ab 5;refine Qq 1 (Qi (i+1) rfl (.aq hR.m .no)) ?_;refine Qq 1 (Qf rfl (.aq hR.m .no)) ?_;refine Qq 1 (Qi c rfl (.aq (hR.cs (i:=i+1)  oM) .no)) ?_;refine Qq 4 (Qf rfl (.aq (hR.cs (i:=i+1)  oM) .no)) ?_;apply Sd 0 71;intro _ g71;apply ab 19;apply kp 3 [1,2,3,5,10,11,89];refine Qq 4 (bB rfl vZ (NL)) ?_;exact cK rfl oZ _ .nil (by rw [(yz  oM oM).1,(yz  oM oM).2];rfl);intro _ g71;apply ab 4;refine Qq 1 (Qi (i+1) rfl (.aq hR.m .no)) ?_;refine Qq 1 (Qf rfl (.aq hR.m .no)) ?_;refine Qq 1 (Qi c rfl (.aq (hR.cs (i:=i+1)  oM) .no)) ?_;refine Qq 1 (Qf rfl (.aq (hR.cs (i:=i+1)  oM) .no)) ?_;refine Qq 1 (Qi v rfl (.aq (hR.vs (i:=i+1)  oM oM) .no)) ?_;refine Qq 4 (Qf rfl (.aq (hR.vs (i:=i+1)  oM oM) .no)) ?_;apply kp 0 [1,2,3,5,10,11,89];apply Cd 0;intros;apply ab 2;refine Qq 4 (bB rfl vZ (NL)) ?_;exact cK rfl oZ _ .nil (by rw [(yz  oM oM).1,(yz  oM oM).2];rfl);intros;apply ab 7;refine Qq 1 (Qi (i+1) rfl (.aq hR.m .no)) ?_;refine Qq 1 (Qf rfl (.aq hR.m .no)) ?_;refine Qq 1 (Qi c rfl (.aq (hR.cs (i:=i+1)  oM) .no)) ?_;refine Qq 1 (Qf rfl (.aq (hR.cs (i:=i+1)  oM) .no)) ?_;refine Qq 1 (Qi v rfl (.aq (hR.vs (i:=i+1)  oM oM) .no)) ?_;refine Qq 0 (Qf rfl (.aq (hR.vs (i:=i+1)  oM oM) .no)) ?_;refine Qq 0 (Qi 0 rfl (.aq (hR.es (i:=i+1)  oM oM oM) .no)) ?_;refine Qq 3 (Qe rfl (.aq (hR.es (i:=i+1)  oM oM oM) .no)) ?_;apply kp 1 [10,11];exact cK rfl oZ _ .nil (by rw [(PB  oM oM oM oM oM).1,(PB  oM oM oM oM oM).2];rfl)
theorem aus(s:aw)(k:Nat)(n:Int)(b:Nat)(W:World)(hm:Mem (aX [.ai b 32 (bm 0 [.string s.cT,.bool s.eQ,.slice s.PA s.ps.length s.pc,.slice s.MA s.ms.length s.mc,.slice s.SA s.sp.length s.sc,.slice s.LA s.bk.length s.lc]),.aT (jV s.ms s.MA s.mc)]) W [.ai b 32 (bm 0 [.string s.cT,.bool s.eQ,.slice s.PA s.ps.length s.pc,.slice s.MA s.ms.length s.mc,.slice s.SA s.sp.length s.sc,.slice s.LA s.bk.length s.lc]),.aT (jV s.ms s.MA s.mc)] W)(hg:Gd k n s.ms)(dx:s.ms.length≤6)(Iz:k≤6):Calls prog 14 #[.pointer (some ⟨b,0,none⟩)] W (bK W (aX [.ai b 32 (bm 0 [.string s.cT,.bool s.eQ,.slice s.PA s.ps.length s.pc,.slice s.MA s.ms.length s.mc,.slice s.SA s.sp.length s.sc,.slice s.LA s.bk.length s.lc]),.aT (jV s.ms s.MA s.mc)]) fun v m=>v= .tuple #[]∧∃ms,m= [.ai b 32 (bm 0 [.string s.cT,.bool s.eQ,.slice s.PA s.ps.length s.pc,.slice s.MA ms.length s.mc,.slice s.SA s.sp.length s.sc,.slice s.LA s.bk.length s.lc]),.aT (jV ms s.MA s.mc)]∧vk k n s.ms ms∧w8 ms):=by
 refine Ea (X:=_) func14 ntmps14 hm ?_;apply ab 5;apply Ks 0 [2,0] [0,0];refine ov (ι:=Nat×(List aD)) (fun gg=>gg.1≤gg.2.length∧vk k n s.ms gg.2∧Dn gg.2 gg.1 0 0 0 0) (fun gg=>Iv (gg.1:Int)) (fun gg=> .ai b 32 (bm 0 [.string s.cT,.bool s.eQ,.slice s.PA s.ps.length s.pc,.slice s.MA gg.2.length s.mc,.slice s.SA s.sp.length s.sc,.slice s.LA s.bk.length s.lc])) (fun gg=> .aT (jV gg.2 s.MA s.mc)) (fun gg=>s.ms.length-gg.1) (0,s.ms) (by(try dsimp only);exact⟨oM,⟨hg,rfl,rfl,rfl⟩,Dn.start⟩) rfl .refl .refl ?_;rintro⟨i,JR⟩ hq;(try dsimp only at hq);obtain⟨bp,sy,hdn⟩:=hq;refine sW ⟨(2,Iv i)::_,.ai b 32 (bm 0 [.string s.cT,.bool s.eQ,.slice s.PA s.ps.length s.pc,.slice s.MA JR.length s.mc,.slice s.SA s.sp.length s.sc,.slice s.LA s.bk.length s.lc]):: .aT (jV JR s.MA s.mc)::_⟩ ?_;have ym:=sy.l;apply ab 11;apply kp 0 [0,2,16];apply Cd 0;intros;have dL:i<JR.length:=oM
 apply ab 8;apply Ks 0 [3,0,2] [0,0];refine ov (ι:=Nat×(List aD)) (fun gg=>i<gg.2.length∧gg.1≤(aa gg.2 i).cs.length∧vk k n s.ms gg.2∧Dn gg.2 i gg.1 0 0 0) (fun gg=>Iv (gg.1:Int)) (fun gg=> .ai b 32 (bm 0 [.string s.cT,.bool s.eQ,.slice s.PA s.ps.length s.pc,.slice s.MA gg.2.length s.mc,.slice s.SA s.sp.length s.sc,.slice s.LA s.bk.length s.lc])) (fun gg=> .aT (jV gg.2 s.MA s.mc)) (fun gg=>k-gg.1) (0,JR) (by(try dsimp only);exact⟨dL,oM,sy,hdn⟩) rfl .refl .refl ?_;rintro⟨c,jl⟩ hq;(try dsimp only at hq);obtain⟨dL,dT,F0,hdn⟩:=hq;refine sW ⟨(3,Iv c)::_,.ai b 32 (bm 0 [.string s.cT,.bool s.eQ,.slice s.PA s.ps.length s.pc,.slice s.MA jl.length s.mc,.slice s.SA s.sp.length s.sc,.slice s.LA s.bk.length s.lc]):: .aT (jV jl s.MA s.mc)::_⟩ ?_;have uA:(aa jl i).cs.length=k:=(F0.g.at dL).elim fun a h=>h.cs;apply ab 9;refine Qq 1 (Qi i rfl (fun w hk hm=>(jD ((ag.aj sZ).holds hm)).m)) ?_;refine Qq 3 (Qf rfl (fun w hk hm=>(jD ((ag.aj sZ).holds hm)).m)) ?_;apply kp 0 [0,2,3,29];apply Cd 0;intros;have fk:c<(aa jl i).cs.length:=oM
 apply ab 8;apply Ks 0 [4,0,2,3] [0,0];refine ov (ι:=Nat×(List aD)) (fun gg=>i<gg.2.length∧c<(aa gg.2 i).cs.length∧gg.1≤((aa (aa gg.2 i).cs c)).vs.length∧vk k n s.ms gg.2∧Dn gg.2 i c gg.1 0 0) (fun gg=>Iv (gg.1:Int)) (fun gg=> .ai b 32 (bm 0 [.string s.cT,.bool s.eQ,.slice s.PA s.ps.length s.pc,.slice s.MA gg.2.length s.mc,.slice s.SA s.sp.length s.sc,.slice s.LA s.bk.length s.lc])) (fun gg=> .aT (jV gg.2 s.MA s.mc)) (fun gg=>2-gg.1) (0,jl) (by(try dsimp only);exact⟨dL,fk,oM,F0,hdn⟩) rfl .refl .refl ?_;rintro⟨v,mY⟩ hq;(try dsimp only at hq);obtain⟨dL,fk,eC,T1,hdn⟩:=hq;refine sW ⟨(4,Iv v)::_,.ai b 32 (bm 0 [.string s.cT,.bool s.eQ,.slice s.PA s.ps.length s.pc,.slice s.MA mY.length s.mc,.slice s.SA s.sp.length s.sc,.slice s.LA s.bk.length s.lc]):: .aT (jV mY s.MA s.mc)::_⟩ ?_;have gM:=T1.g.vl dL fk;apply ab 9;refine Qq 1 (Qi i rfl (fun w hk hm=>(jD ((ag.aj sZ).holds hm)).m)) ?_;refine Qq 1 (Qf rfl (fun w hk hm=>(jD ((ag.aj sZ).holds hm)).m)) ?_;refine Qq 1 (Qi c rfl (fun w hk hm=>(jD ((ag.aj sZ).holds hm)).cs dL)) ?_;refine Qq 3 (Qf rfl (fun w hk hm=>(jD ((ag.aj sZ).holds hm)).cs dL)) ?_;apply kp 0 [0,2,3,4,46];apply Cd 0;intros;have gv:v<((aa (aa mY i).cs c)).vs.length:=oM
 apply ab 10;refine Qq 1 (Qi i rfl (fun w hk hm=>(jD ((ag.aj sZ).holds hm)).m)) ?_;refine Qq 1 (Qf rfl (fun w hk hm=>(jD ((ag.aj sZ).holds hm)).m)) ?_;refine Qq 1 (Qi c rfl (fun w hk hm=>(jD ((ag.aj sZ).holds hm)).cs dL)) ?_;refine Qq 1 (Qf rfl (fun w hk hm=>(jD ((ag.aj sZ).holds hm)).cs dL)) ?_;refine Qq 1 (Qi v rfl (fun w hk hm=>(jD ((ag.aj sZ).holds hm)).vs dL fk)) ?_;refine Qq 2 (Qf rfl (fun w hk hm=>(jD ((ag.aj sZ).holds hm)).vs dL fk)) ?_;apply kp 5 [0,2,3,4,5];apply Ks 0 [6,5,0,2,3,4] [0,0];refine BK (ι:=Nat×(List aD)) (fun gg=>i<gg.2.length∧c<(aa gg.2 i).cs.length∧v<((aa (aa gg.2 i).cs c)).vs.length∧gg.1≤((aa (aa (aa gg.2 i).cs c).vs v)).es.length∧vk k n s.ms gg.2∧Dn gg.2 i c v gg.1 0) (fun gg=>Iv (gg.1:Int)) (fun gg=>Al gg.2 i c v) (fun gg=> .ai b 32 (bm 0 [.string s.cT,.bool s.eQ,.slice s.PA s.ps.length s.pc,.slice s.MA gg.2.length s.mc,.slice s.SA s.sp.length s.sc,.slice s.LA s.bk.length s.lc])) (fun gg=> .aT (jV gg.2 s.MA s.mc)) (fun gg=>56-gg.1) (0,mY) (by(try dsimp only);exact⟨dL,fk,gv,oM,T1,hdn⟩) rfl rfl .refl .refl ?_;rintro⟨x,k_⟩ hq;(try dsimp only at hq);obtain⟨dL,fk,gv,gG,DN,hdn⟩:=hq;refine sW ⟨(6,Iv x)::(5,Al k_ i c v)::_,.ai b 32 (bm 0 [.string s.cT,.bool s.eQ,.slice s.PA s.ps.length s.pc,.slice s.MA k_.length s.mc,.slice s.SA s.sp.length s.sc,.slice s.LA s.bk.length s.lc]):: .aT (jV k_ s.MA s.mc)::_⟩ ?_;have ur:=DN.g.el dL fk gv;apply ab 8;apply kp 0 [0,2,3,4,5,6,68];apply Cd 0;intros;have qB:x<((aa (aa (aa k_ i).cs c).vs v)).es.length:=oM
 apply ab 12;refine Qq 3 (Qc rfl fun w _ hm=>aup (scU s k_) i c v x w (jD ((ag.aj ag.ao).holds hm)) dL fk gv qB ⟨by have:=DN.l;show k_.length≤100000;omega,by have:=DN.g.el dL fk gv;show((aa (aa (aa k_ i).cs c).vs v)).es.length≤100000;omega⟩) ?_;refine Nw 3 fun b7=>?_;apply kp 1 [0,2,3,4,5,6,7,8];have aut:=ahO (x:=x) DN.g dL fk gv;apply ab 4;apply Ks 0 [9,5,0,2,3,4,6,7,8] [1,1,0];refine BK (ι:=Nat×(List aD)) (fun gg=>i<gg.2.length∧c<(aa gg.2 i).cs.length∧v<((aa (aa gg.2 i).cs c)).vs.length∧x<((aa (aa (aa gg.2 i).cs c).vs v)).es.length∧gg.1≤((aa (aa (aa (aa gg.2 i).cs c).vs v).es x)).x.hs.length∧vk k n s.ms gg.2∧Dn gg.2 i c v x gg.1∧lS gg.2 i c v x=lS k_ i c v x) (fun gg=>Iv (gg.1:Int)) (fun gg=>Al gg.2 i c v) (fun gg=> .ai b 32 (bm 0 [.string s.cT,.bool s.eQ,.slice s.PA s.ps.length s.pc,.slice s.MA gg.2.length s.mc,.slice s.SA s.sp.length s.sc,.slice s.LA s.bk.length s.lc])) (fun gg=> .aT (jV gg.2 s.MA s.mc)) (fun gg=>100000-gg.1) (0,k_) (by(try dsimp only);exact⟨dL,fk,gv,qB,oM,DN,hdn,rfl⟩) rfl rfl .refl .refl ?_;rintro⟨h,jn⟩ hq;(try dsimp only at hq);obtain⟨dL,fk,gv,qB,tu,F1,hdn,JS⟩:=hq;refine sW ⟨(9,Iv h)::(5,Al jn i c v)::_,.ai b 32 (bm 0 [.string s.cT,.bool s.eQ,.slice s.PA s.ps.length s.pc,.slice s.MA jn.length s.mc,.slice s.SA s.sp.length s.sc,.slice s.LA s.bk.length s.lc]):: .aT (jV jn s.MA s.mc)::_⟩ ?_;have IX:=F1.g.hl dL fk gv qB;have ayG:=IX.1;apply ab 6;refine Qq 1 (Qi x rfl (fun w hk hm=>(jD ((ag.aj sZ).holds hm)).es dL fk gv)) ?_;refine Qq 3 (Qf rfl (fun w hk hm=>(jD ((ag.aj sZ).holds hm)).es dL fk gv)) ?_;apply kp 0 [0,2,3,4,5,6,7,8,9,89];apply Cd 0;intros;have ew:nV jn i c v x h:=⟨dL,fk,gv,qB,oM⟩;apply ab 3;apply Fo [33];apply Bs [0,1];refine Lq 2 rfl (Qi x rfl (fun w hk hm=>(jD ((ag.aj sZ).holds hm)).es dL fk gv)) ?_;apply Bs [3];refine Lq 4 rfl (Qf rfl (fun w hk hm=>(jD ((ag.aj sZ).holds hm)).es dL fk gv)) ?_;apply Bs [5,6,7];refine Lq 8 rfl (Qi x rfl (fun w hk hm=>(jD ((ag.aj sZ).holds hm)).es dL fk gv)) ?_;apply Bs [9];refine Lq 10 rfl (Qf rfl (fun w hk hm=>(jD ((ag.aj sZ).holds hm)).es dL fk gv)) ?_;apply Bs [11];refine Lq 12 rfl (Qi h rfl (fun w hk hm=>(jD ((ag.aj sZ).holds hm)).hs dL fk gv qB)) ?_;apply Bs [13];refine Lq 14 rfl (Qf rfl (fun w hk hm=>(jD ((ag.aj sZ).holds hm)).hs dL fk gv qB)) ?_;apply Bs [15];refine WQ 107 rfl (fun T2=>?_) (fun T2=>?_);have auu:=td T2;apply Bs [16,17,18];refine WQ 110 rfl (fun JT=>?_) (fun JT=>?_);have auv:=td JT;apply Bs [19,20,21];refine Lq 22 rfl (Qi x rfl (fun w hk hm=>(jD ((ag.aj sZ).holds hm)).es dL fk gv)) ?_;apply Bs [23];refine Lq 24 rfl (Qf rfl (fun w hk hm=>(jD ((ag.aj sZ).holds hm)).es dL fk gv)) ?_;apply Bs [25];refine Lq 26 rfl (Qi h rfl (fun w hk hm=>(jD ((ag.aj sZ).holds hm)).hs dL fk gv qB)) ?_;apply Bs [27];refine Lq 28 rfl (jO rfl zA rfl (fun w hk hm=>(jD ((ag.aj sZ).holds hm)).hs dL fk gv qB) (bX  oM) rfl rfl) ?_;refine Lq 29 rfl (Qc rfl fun w _ hm=>aun (mM k_ i c v x) (aa ((aa (aa (aa (aa jn i).cs c).vs v).es x)).x.hs h).pt w (ahM JS (jD ((ag.aj ag.ao).holds hm)) dL fk gv JT).h (aut.1)) ?_;apply Bs [30];refine Lq 31 rfl (Qi h rfl (fun w hk hm=>(jD ((ag.aj sZ).holds hm)).hs dL fk gv qB)) ?_;apply Bs [32];apply fH 33;refine Ll rfl (Py (ms:=jn) rfl rfl zS rfl rfl (.aj ag.ao) ew) ?_;rintro- -;apply iq 0;apply kp 6 [0,2,3,4,5,6,7,8,9];have fE:=Px (b:=(tZ (mM k_ i c v x) (aa ((aa (aa (aa (aa jn i).cs c).vs v).es x)).x.hs h).pt)) ew;refine Ag (h+1,kd jn i c v x h (tZ (mM k_ i c v x) (aa ((aa (aa (aa (aa jn i).cs c).vs v).es x)).x.hs h).pt)) ?_ (hs:=au (.aF rfl (aO  oM) (.aF rfl (by unfold Al;rw [fE.sa.1,fE.sa.2,fE.sx]) nZ)) (.cons (iZ 1) (.eq (by rw [Ce])) mZ));exact⟨by rw [fE.si];exact dL,by rw [fE.sc];exact fk,by rw [fE.sv];exact gv,by rw [fE.sx];exact qB,by rw [fE.sh];exact ew.lh,F1.step ew,hdn.nh ew (fun hb=>ahN JS dL fk gv JT hb),fE.sn.trans JS⟩;have auv:=td JT;apply Bs [19,20,21,22,23,24,25,26,27,28,29,30];refine Lq 31 rfl (Qi h rfl (fun w hk hm=>(jD ((ag.aj sZ).holds hm)).hs dL fk gv qB)) ?_;apply Bs [32];apply fH 33;refine Ll rfl (Py (ms:=jn) rfl rfl zS rfl rfl (.aj ag.ao) ew) ?_;rintro- -;apply iq 0;apply kp 6 [0,2,3,4,5,6,7,8,9];have fE:=Px (b:=false) ew;refine Ag (h+1,kd jn i c v x h false) ?_ (hs:=au (.aF rfl (aO  oM) (.aF rfl (by unfold Al;rw [fE.sa.1,fE.sa.2,fE.sx]) nZ)) (.cons (iZ 1) (.eq (by rw [Ce])) mZ));exact⟨by rw [fE.si];exact dL,by rw [fE.sc];exact fk,by rw [fE.sv];exact gv,by rw [fE.sx];exact qB,by rw [fE.sh];exact ew.lh,F1.step ew,hdn.nh ew (fun hb=>by cases hb),fE.sn.trans JS⟩;have auu:=td T2;apply Bs [16,17,18,19,20,21,22,23,24,25,26,27,28,29,30];refine Lq 31 rfl (Qi h rfl (fun w hk hm=>(jD ((ag.aj sZ).holds hm)).hs dL fk gv qB)) ?_;apply Bs [32];apply fH 33;refine Ll rfl (Py (ms:=jn) rfl rfl zS rfl rfl (.aj ag.ao) ew) ?_;rintro- -;apply iq 0;apply kp 6 [0,2,3,4,5,6,7,8,9];have fE:=Px (b:=false) ew;refine Ag (h+1,kd jn i c v x h false) ?_ (hs:=au (.aF rfl (aO  oM) (.aF rfl (by unfold Al;rw [fE.sa.1,fE.sa.2,fE.sx]) nZ)) (.cons (iZ 1) (.eq (by rw [Ce])) mZ));exact⟨by rw [fE.si];exact dL,by rw [fE.sc];exact fk,by rw [fE.sv];exact gv,by rw [fE.sx];exact qB,by rw [fE.sh];exact ew.lh,F1.step ew,hdn.nh ew (fun hb=>by cases hb),fE.sn.trans JS⟩;intros;apply ab 1;apply kp 6 [0,2,3,4,5,6];refine Ag (x+1,jn) ?_ (hm:=(by(try dsimp only);have:=F1.g.el dL fk gv;omega));exact⟨dL,fk,gv,oM,F1,hdn.nx  oM⟩;intros;apply ab 1;apply kp 6 [0,2,3,4];refine Ag (v+1,k_) ?_ (hm:=(by(try dsimp only);have:=DN.g.vl dL fk;omega));exact⟨dL,fk,oM,DN,hdn.nv  oM⟩;intros;apply ab 7;apply kp 0 [0,2,3];refine Ag (c+1,mY) ?_;exact⟨dL,oM,T1,hdn.nc  oM⟩;intros;apply ab 7;apply kp 0 [0,2];refine Ag (i+1,jl) ?_ (hm:=(by(try dsimp only);have:=F0.l;omega));exact⟨oM,F0,hdn.ni  oM⟩;intros;apply ab 1;apply kp 0 [];apply Km 0 [0,0];exact di rfl ⟨rfl,JR,rfl,sy,hdn.all  oM⟩
end Go.Proofs.YtdahjfmmndjcpaaGreat
