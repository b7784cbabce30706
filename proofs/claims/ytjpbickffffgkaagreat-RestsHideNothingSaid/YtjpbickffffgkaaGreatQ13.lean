/- Part. -/
import Derived.Test.YtjpbickffffgkaaGreatQ09
set_option linter.unusedSimpArgs false
set_option linter.unusedVariables false
set_option maxHeartbeats 40000000
set_option maxRecDepth 100000
namespace Go.Proofs.YtjpbickffffgkaaGreat
open Go Go.RowKit Hr Go.Proofs.Tryz
structure qG where
 k:Int
 e:Int
 f:Int
 t:Int
instance:Inhabited qG:=⟨⟨0,0,0,0⟩⟩
def qG.enc(l:qG):List Value:= [.int .u8 l.k,.int .u8 l.e,.int .u8 l.f,.int .u8 l.t]
structure qG.ok(l:qG):Prop where
 k:0≤l.k∧l.k≤255
 e:0≤l.e∧l.e≤255
 f:0≤l.f∧l.f≤255
 t:0≤l.t∧l.t≤255
def ajF(x:Int):List Value:= [.int .u8 x]
structure uN where
 Is:List Int
 kg:List jh
 pW:List qG
 wr:Bool
 PA:Option Addr
 pc:Nat
 BA:Option Addr
 bc:Nat
 LA:Option Addr
 lc:Nat
def uN.enc(o:uN):List Value:= [.slice o.PA o.Is.length o.pc,.slice o.BA o.kg.length o.bc,.slice o.LA o.pW.length o.lc,.bool o.wr]
def uN.val(o:uN):Value:= .agg o.enc.toArray
structure uN.rd(w:World)(o:uN):Prop where
 p:Rd w o.PA 1 (o.Is.map ajF)
 b:Rd w o.BA 5 (o.kg.map jh.enc)
 br:∀x∈o.kg,x.rd w
 l:Rd w o.LA 4 (o.pW.map qG.enc)
structure uN.ok(o:uN):Prop where
 pl:o.Is.length≤9223372036854775807
 p:∀x∈o.Is,0≤x∧x≤255
 bl:o.kg.length≤9223372036854775807
 axa:o.kg.length≤o.bc
 b:∀x∈o.kg,x.ok
 ll:o.pW.length≤9223372036854775807
 l:∀x∈o.pW,x.ok
theorem jh.rd.aC{b:jh}{w w':World}(h:b.rd w)(hk:bb nX w w'):b.rd w':=⟨h.v.aC hk,fun x hx=>(h.r x hx).aC hk⟩
def ajG(w:World)(A:Option Addr)(kg:List jh):Prop:=Rd w A 5 (kg.map jh.enc)∧∀b∈kg,b.rd w
def It:jh:=⟨0,0,0,0, [],none,0⟩
theorem ajH:It.ok:=⟨by decide,by decide,by decide,by decide,by decide,fun x hx=>absurd hx (by simp [It])⟩
theorem ajI{w:World}:It.rd w:=⟨.inl rfl,fun x hx=>absurd hx (by simp [It])⟩
theorem xM{q:Nat}(h:q<4):([[.string (ByteArray.mk #[70,108,117,116,101])], [.string (ByteArray.mk #[67,108,97,114,105,110,101,116])], [.string (ByteArray.mk #[80,105,97,110,111])], [.string (ByteArray.mk #[86,105,111,108,97])]]:List (List Value))[q]?=some [.string (aa pS q)]:=by
 have:q=0∨q=1∨q=2∨q=3:=oM
 rcases this with rfl|rfl|rfl|rfl<;>rfl
namespace Hr
theorem CT{W w w':World}{rs l:List an}(hk:bb nX W w)(hm:Mem nX W (rs++l) w)(h:bb (bg rs) w w'):bb nX W w':=hk.step h fun k bW _ hy=>by
 obtain⟨r,hr,hb⟩:=hy
 rcases hm.ag r (by simp [hr]) _ hb with h4|h4
 ·omega
 ·exact h4
theorem Ma{X:Nat→Prop}{W w w':World}{rs l:List an}(hk:bb X W w)(hm:Mem X W (rs++l) w)(h:bb (bg rs) w w'):bb X W w':=hk.step h fun k bW hx hy=>by
 obtain⟨r,hr,hb⟩:=hy
 rcases hm.ag r (by simp [hr]) _ hb with h4|h4
 ·omega
 ·exact hx h4
theorem CU{X:Nat→Prop}{W w:World}{r:an}{rs l l':List an}(hm:Mem X W (rs++l) w)(hs:ae l r l'):∀w',bb (bg rs) w w'→r.holds w':=by
 intro w' cu
 have pe:r∈l:=hs.aK.mem_iff.2 sM
 have hh:r.holds w:=hm.holds _ (Oz _ pe)
 refine hh.o5 fun b hb=>cu.block b (hh.lt b hb) ?_
 rintro⟨q,hq,tv⟩
 exact(ua.1 hm.apart).2.2 q hq _ pe _ tv hb
end Hr
theorem QP{ps:List bp}{p:bp}:bV (ps++ [p])=bV ps++(p.aL::p.st.map eP.aL):=by simp [bV]
theorem X9{ps:List bp}{p:bp}:aR (ps++ [p])=aR ps+p.st.length:=by simp [aR]
theorem X_{ps:List bp}{p:bp}(h:gW 0 (bV ps))(h1:p.aL=(bV ps).length+1)(h2:gW ((bV ps).length+1) (p.st.map eP.aL)):gW 0 (bV (ps++ [p])):=by
 rw [QP]
 refine h.eY (gW.eY (a:= [p.aL]) (gW.one (by rw [h1];omega)) ?_)
 simpa using h2
theorem Ya{ps:List bp}(h:∀p∈ps,sq p):(bV ps).length≤3*ps.length:=by
 induction ps with
 |nil=>simp [bV]
 |cons p ps ih=>
  have h1:=ih fun x hx=>h x (by simp [hx])
  have h2:=(h p sM).st
  have e:bV (p::ps)=(p.aL::p.st.map eP.aL)++bV ps:=by simp [bV]
  rw [e]
  simp
  omega
def QQ(x:eP):Prop:=x.bU=1∧1≤x.xt∧x.xt≤4
theorem Yb{n q:Int}{st:List eP}{A:Option Addr}{c:Nat}(hq:0≤q∧q≤255)(hl:st.length=1∨st.length=2)(hs:∀x∈st,QQ x):sq ⟨1,n,aa pS (q%4).toNat,(aa ie ((q/4)%6).toNat).steps,(aa ie ((q/4)%6).toNat).semis,st,A,c⟩:=
 ⟨rfl,⟨_,oM,rfl⟩,⟨_,oM,rfl⟩,hl,hs⟩
theorem ajJ{ms:List ao}{m:ao}:dU (ms++ [m])=dU ms++(m.n.aL::(dS m.cs).map fun e=>e.x.n.aL):=by simp [dU]
theorem Gd.ru{k:Nat}:∀{ms:List ao} {m:ao} {n:Int},Gd k n ms→oI m k (n+(dU ms).length)→Gd k n (ms++ [m])
 | [],m,n,_,h=>⟨by simpa [dU]using h,trivial⟩
 |m0::ms,m,n,hg,h=>by
  refine⟨hg.1,Gd.ru hg.2 ?_⟩
  have e:dU (m0::ms)=(m0.n.aL::(dS m0.cs).map fun e=>e.x.n.aL)++dU ms:=by simp [dU]
  rw [e]at h
  simp only [aT,ga,bE]at h
  rwa [show n+1+((dS m0.cs).length:Int)+(dU ms).length=n+(((dS m0.cs).length+1+(dU ms).length:Nat):Int)from oM]
theorem Yc{k:Nat}:∀{ms:List ao} {n:Int},Gd k n ms→(dU ms).length≤(112*k+1)*ms.length
 | [],n,_=>by simp [dU]
 |m::ms,n,h=>by
  have h1:=Yc h.2
  have h2:=LV h.1.ce
  rw [h.1.cs]at h2
  have e:dU (m::ms)=(m.n.aL::(dS m.cs).map fun e=>e.x.n.aL)++dU ms:=by simp [dU]
  rw [e]
  simp only [aT,ga,bE,Nat.mul_add,Nat.mul_one]
  omega
theorem ajK{ms fh:List ao}(h:ms.map ao.n=fh.map ao.n)(hl:ms.length=fh.length):∀m∈ms,∃m0∈fh,m.n=m0.n:=by
 intro m hm
 have:m.n∈fh.map ao.n:=by rw [←h];exact cL.2 ⟨m,hm,rfl⟩
 obtain⟨m0,h0,e⟩:=cL.1 this
 exact⟨m0,h0,e.symm⟩
def Fw(wr:Bool)(ps:List bp)(ms:List ao)(PA:Option Addr)(pc:Nat)(MA:Option Addr)(mc:Nat):ax:=⟨vO,wr,ps,ms, [], [],PA,pc,MA,mc,none,0,none,0⟩
def uO(ps:List bp)(PA:Option Addr)(pc:Nat):List an:= .ag 70 6 PA ps.length pc (ps.map bp.enc)::ps.flatMap bp.ag
theorem Yd{w:World}{wr:Bool}{ps:List bp}{ms:List ao}{PA:Option Addr}{pc:Nat}{MA:Option Addr}{mc:Nat}(h:fq w (uO ps PA pc++jM ms MA mc)):(Fw wr ps ms PA pc MA mc).rd w:=by
 obtain⟨h1,h2⟩:=h.eY
 refine⟨Hr.bQ (h1 _ (eA ..)),fun x hx=>bp.bQ (fq.pL (fun r hr=>h1 r (gR _ hr)) x hx),Hr.bQ (h2 _ (eA ..)),fun x hx=>ao.bQ (fq.pL (fun r hr=>h2 r (gR _ hr)) x hx),.inl rfl,.inl rfl⟩
theorem ajL{wr:Bool}{ps:List bp}{ms:List ao}{PA:Option Addr}{pc:Nat}{MA:Option Addr}{mc:Nat}{n:Int}(hp:1≤ps.length∧ps.length≤3)(fz:∀p∈ps,sq p)(hid:gW 0 (bV ps))(hm:1≤ms.length∧ms.length≤6)(hg:Gd (aR ps) (bV ps).length ms)(cG:∀m∈ms,m.n.start=false)(ht:uJ ms)(hc:ms.length≤mc)(hn:n=(bV ps).length+(dU ms).length)(hb:n≤1048576):qF (Fw wr ps ms PA pc MA mc) n:=by
 have A5:gW 0 (bV ps++dU ms):=hid.eY (by simpa using X7 hg)
 have e0:bV ps++dU ms++(([]:List d_).map fun x=>x.id.aL)=bV ps++dU ms:=by simp
 refine⟨⟨rfl,hp,fz,ajC hid,hm,hg,cG _ (aI (by show 0<ms.length;omega)),ht,gl _,fun x hx=>absurd hx (by simp [Fw]),?_,n,rfl,oM,?_⟩,hc⟩
 ·show(bV ps++dU ms++(([]:List d_).map fun x=>x.id.aL)).Pairwise (· < ·)
  rw [e0];exact A5.vP
 ·show∀x∈bV ps++dU ms++(([]:List d_).map fun x=>x.id.aL),1≤x∧x≤n
  rw [e0]
  intro x hx
  have:=A5.bd x hx
  rw [aT]at this
  omega
theorem ajM{l:List d_}{z:List Value}(h:z∈l.map d_.enc):z.length=7:=by
 obtain⟨p,_,rfl⟩:=cL.1 h;rfl
theorem ajN{l:List d_}{z:List Value}(h:z∈l.map d_.enc):ja z=true:=by
 obtain⟨p,_,rfl⟩:=cL.1 h;rfl
theorem Mb{x:Int}{n:Nat}(hx:0≤x)(hn:0<n):∃k:Nat,x%(n:Int)=k∧k<n:=by
 have h1:=Int.emod_nonneg x (show(n:Int)≠0 by omega)
 have h2:=Int.emod_lt_of_pos x (show(0:Int)<n by omega)
 exact⟨(x%(n:Int)).toNat,oM,oM⟩
theorem Ye{ms:List ao}:(dU ms).length=((er ms).map fun c=>(c.map fun v=>(v.map List.length).sum).sum+1).sum:=by
 induction ms with
 |nil=>rfl
 |cons m ms ih=>
  have e:dU (m::ms)=(m.n.aL::(dS m.cs).map fun e=>e.x.n.aL)++dU ms:=by simp [dU]
  have e2:(dS m.cs).length=((m.cs.map fun c=>c.vs.map fun v=>v.es.map kb).map fun v=>(v.map List.length).sum).sum:=by
   simp [dS,gJ,List.length_flatMap,Function.comp_def]
  rw [e,aT,ih,ga,bE,e2]
  simp [er]
theorem ajO{wr:Bool}{ps:List bp}{ms jy:List ao}{PA:Option Addr}{pc:Nat}{MA:Option Addr}{mc:Nat}(hp:1≤ps.length∧ps.length≤3)(fz:∀p∈ps,sq p)(hid:gW 0 (bV ps))(hm:1≤ms.length∧ms.length≤6)(hu:vM (aR ps) (bV ps).length ms jy)(cG:∀m∈ms,m.n.start=false∧m.n.fp=0)(ht:uJ jy)(hc:ms.length≤mc)(hb:((bV ps).length:Int)+(dU ms).length≤1048576):
  qF (Fw wr ps jy PA pc MA mc) ((bV ps).length+(dU ms).length)∧∀m∈jy,m.n.start=false∧m.n.fp=0:=by
 have CV:∀m∈jy,m.n.start=false∧m.n.fp=0:=fun m h=>by
  obtain⟨m0,h0,e⟩:=ajK hu.n hu.l m h
  rw [e];exact cG m0 h0
 have hl:=hu.l
 exact⟨ajL hp fz hid  oM hu.g (fun m h=>(CV m h).1) ht  oM (by rw [Ye,Ye,hu.s]) hb,CV⟩
namespace Hr
theorem ar.ru{r:an}{rs l:List an}:ar (r:: .aY rs::l) (.aY (rs++ [r])::l):= .trans .gD (.EZ (Oy (l₁:= [r])))
end Hr
theorem ana(s:ax)(n:Int)(W:World)(hs:s.rd W)(hb:qF s n):Calls prog 19 #[s.val] W (bJ W nX fun v m=>∃(ls:List pg) (O:Option Addr) (co:Nat),v= .slice O ls.length co∧m= [.ag 30 1 O ls.length co (ls.map pg.enc),.aY (ls.map pg.ag)]∧1≤ls.length∧ls.length≤12∧∀l∈ls,l.ee.length≤400):=by
 obtain⟨hB,-⟩:=hb;have bz:ek W s.ms s.MA:=⟨hs.m,hs.mr⟩;have dj:1≤s.ms.length∧s.ms.length≤6:=hB.ml;have kL:1≤aR s.ps∧aR s.ps≤6:=hB.sn;have kI:0<s.ms.length:=oM
 have axf:(aa s.ms 0).cs.length=aR s.ps:=(hB.me kI).elim fun a h=>h.cs;apply En 2 func19 ntmps19;refine Nw 12 fun b1=>?_;refine rM (ar.cM 30 1) ?_;refine rM ar.qn ?_;apply Ks 0 [4,3,1,2] [1,0,0];refine EM (ι:=Nat×(List pg)×(Option Addr)×Nat) (fun gg=>gg.1≤aR s.ps∧gg.2.1.length=2*gg.1∧(∀l∈gg.2.1,l.ee.length≤400)) (fun gg=>Iv (gg.1:Int)) (fun gg=> .slice gg.2.2.1 gg.2.1.length gg.2.2.2) (fun gg=> .ag 30 1 gg.2.2.1 gg.2.1.length gg.2.2.2 (gg.2.1.map pg.enc)) (fun gg=> .aY (gg.2.1.map pg.ag)) (fun gg=>aR s.ps-gg.1) (0, [],none,0) (by(try dsimp only);exact⟨oM,rfl,by simp⟩) rfl rfl .refl .refl ?_;rintro⟨c,ls,O,co⟩ hq;(try dsimp only at hq);obtain⟨qc,lC,iJ⟩:=hq;refine sW ⟨(4,Iv c)::(3,.slice O ls.length co)::_,.ag 30 1 O ls.length co (ls.map pg.enc):: .aY (ls.map pg.ag)::_⟩ ?_;have xe:c≤6:=oM
 apply ab 6;refine Qq 1 (Qi 0 rfl (.au hs.m .no)) ?_;refine Qq 3 (Qf rfl (.au hs.m .no)) ?_;apply kp 0 [1,2,3,4,17];apply Cd 0;intros;apply ab 8;apply Ks 0 [5,3,1,2,4] [0,0,0];refine EM (ι:=Nat×(List pg)×(Option Addr)×Nat) (fun gg=>gg.1≤2∧gg.2.1.length=2*c+gg.1∧(∀l∈gg.2.1,l.ee.length≤400)) (fun gg=>Iv (gg.1:Int)) (fun gg=> .slice gg.2.2.1 gg.2.1.length gg.2.2.2) (fun gg=> .ag 30 1 gg.2.2.1 gg.2.1.length gg.2.2.2 (gg.2.1.map pg.enc)) (fun gg=> .aY (gg.2.1.map pg.ag)) (fun gg=>2-gg.1) (0,ls,O,co) (by(try dsimp only);exact⟨oM,oM,iJ⟩) rfl rfl .refl .refl ?_;rintro⟨v,ls,O,co⟩ hq;(try dsimp only at hq);obtain⟨zG,lC,iJ⟩:=hq;refine sW ⟨(5,Iv v)::(3,.slice O ls.length co)::_,.ag 30 1 O ls.length co (ls.map pg.enc):: .aY (ls.map pg.ag)::_⟩ ?_;apply Cd 6;intros;apply ab 13;refine rM (ar.cM 48 2) ?_;apply Ks 0 [7,6,1,2,3,4,5] [0,0,0,0];refine mA (ι:=Nat×(List bu)×(Option Addr)×Nat) (fun gg=>gg.1≤s.ms.length∧gg.2.1.length≤56*gg.1) (fun gg=>Iv (gg.1:Int)) (fun gg=> .slice gg.2.2.1 gg.2.1.length gg.2.2.2) (fun gg=> .ag 48 2 gg.2.2.1 (gg.2.1).length gg.2.2.2 ((gg.2.1).map bu.enc)) (fun gg=>s.ms.length-gg.1) (0, [],none,0) (by(try dsimp only);exact⟨oM,by simp⟩) rfl rfl .refl ?_;rintro⟨i,l,A,ca⟩ hq;(try dsimp only at hq);obtain⟨fT,yN⟩:=hq;refine sW ⟨(7,Iv i)::(6,.slice A l.length ca)::_,.ag 48 2 A (l).length ca ((l).map bu.enc)::_⟩ ?_;apply ab 9;apply kp 0 [1,2,3,4,5,6,7,28];apply Cd 0;intros;have bw:i<s.ms.length:=oM
 apply ab 10;refine Qq 1 (Qi i rfl (.au hs.m .no)) ?_;refine Qq 3 (Qf rfl (.au hs.m .no)) ?_;apply Sd 0 40;intro _ Dx;apply ab 22;apply kp 0 [1,2,3,4,5,6,7];refine Ag (i+1,l,A,ca) ?_;exact⟨oM,oM⟩;intro _ Dx;apply ab 4;refine Qq 1 (Qi i rfl (.au hs.m .no)) ?_;refine Qq 1 (Qf rfl (.au hs.m .no)) ?_;refine Qq 1 (Qi c rfl (.au (bz.cs bw) .no)) ?_;refine Qq 4 (Qf rfl (.au (bz.cs bw) .no)) ?_;apply kp 0 [1,2,3,4,5,6,7,54];apply Cd 0;intros;apply ab 6;apply kp 0 [1,2,3,4,5,6,7];refine Ag (i+1,l,A,ca) ?_;exact⟨oM,oM⟩;intros;have cR:c<(aa s.ms i).cs.length:=oM
 have ef:v<((aa (aa s.ms i).cs c)).vs.length:=oM
 have jc:((aa (aa (aa s.ms i).cs c).vs v)).es.length≤56:=((hB.cell bw cR).2.2 v ef).elim fun a h=>h.len.2;apply ab 6;refine Qq 1 (Qi i rfl (.au hs.m .no)) ?_;refine Qq 1 (Qf rfl (.au hs.m .no)) ?_;refine Qq 1 (Qi c rfl (.au (bz.cs bw) .no)) ?_;refine Qq 1 (Qf rfl (.au (bz.cs bw) .no)) ?_;refine Qq 1 (Qi v rfl (.au (bz.vs bw cR) .no)) ?_;refine Qq 2 (Qf rfl (.au (bz.vs bw cR) .no)) ?_;apply kp 5 [1,2,3,4,5,6,7,8];apply Ks 0 [9,6,1,2,3,4,5,7,8] [0,0,0,0];refine mA (ι:=Nat×(List bu)×(Option Addr)×Nat) (fun gg=>gg.1≤((aa (aa (aa s.ms i).cs c).vs v)).es.length∧gg.2.1.length≤56*i+gg.1) (fun gg=>Iv (gg.1:Int)) (fun gg=> .slice gg.2.2.1 gg.2.1.length gg.2.2.2) (fun gg=> .ag 48 2 gg.2.2.1 (gg.2.1).length gg.2.2.2 ((gg.2.1).map bu.enc)) (fun gg=>((aa (aa (aa s.ms i).cs c).vs v)).es.length-gg.1) (0,l,A,ca) (by(try dsimp only);exact⟨oM,oM⟩) rfl rfl .refl ?_;rintro⟨x,l,A,ca⟩ hq;(try dsimp only at hq);obtain⟨rG,yN⟩:=hq;refine sW ⟨(9,Iv x)::(6,.slice A l.length ca)::_,.ag 48 2 A (l).length ca ((l).map bu.enc)::_⟩ ?_;apply ab 8;apply kp 0 [1,2,3,4,5,6,7,8,9,72];apply Cd 0;intros;have iB:x<((aa (aa (aa s.ms i).cs c).vs v)).es.length:=oM
 apply ab 7;refine Qq 1 (Qi x rfl (.au (bz.es bw cR ef) .no)) ?_;refine Qq 0 (kV rfl zA rfl (.au (bz.es bw cR ef) .no) (bZ  oM) rfl rfl) ?_;refine Nw 0 fun b81=>?_;refine Hh (cY rfl rfl rfl zU zI rfl rfl sZ rfl (.ag sZ)  sM  (bK rfl) (bK rfl)  oM oM) ?_;rintro⟨A82,c82⟩-;apply ab 2;apply kp 6 [1,2,3,4,5,6,7,8,9];refine Ag (x+1,l++ [⟨((aa (aa (aa (aa s.ms i).cs c).vs v).es x)).x.n.bU,((aa (aa (aa (aa s.ms i).cs c).vs v).es x)).x.n.aL⟩],A82,c82) ?_ (hs:=az (.aH rfl (aP  oM) (.aH rfl (by congr 1;simp) nZ)) (.cons (iZ 0) (.ag rfl  sM  rfl (by rw [cn];rfl)) mZ));exact⟨oM,by simp;omega⟩;intros;apply ab 1;apply kp 6 [1,2,3,4,5,6,7];refine Ag (i+1,l,A,ca) ?_;exact⟨oM,oM⟩;intros;apply ab 4;refine Nw 0 fun b85=>?_;refine Hh (cY rfl rfl rfl zU zI rfl rfl sZ rfl (.ag sZ)  sM  (bK rfl) (bK rfl)  oM oM) ?_;rintro⟨A86,c86⟩-;apply ab 2;apply kp 1 [1,2,3,4,5];refine rM (ar.trans (dZ [3,2,0,0,0]) (ar.trans (ar.aK (List.Perm.swap _ _ _)) ar.ru)) ?_;apply ab 5;refine Ag (v+1,ls++ [⟨l,A,ca⟩],A86,c86) ?_ (hs:=az (.aH rfl (aP  oM) (.aH rfl (by congr 1;simp) nZ)) (.cons (iZ 1) (.ag rfl  sM  rfl (by rw [cn];rfl)) (.cons (iZ 0) (.eq (ay an.aY (by rw [cn];rfl))) mZ)));exact⟨oM,by simp;omega,fun y hy=>by rcases ep.1 hy with h|h;(· exact iJ y h);(· rw [c_.1 h];show l.length≤400;omega)⟩;intros;apply ab 1;apply kp 6 [1,2,3,4];refine Ag (c+1,ls,O,co) ?_;exact⟨oM,oM,iJ⟩;intros;apply ab 1;apply kp 6 [2,3];apply Km 0 [0,0];exact aw rfl rfl ⟨ls,O,co,rfl,rfl,oM,oM,iJ⟩
namespace Tu
theorem NL(t:bj)(W:World)(ht:vx t):Calls prog 335 #[t.val] W (Hr.aN W (Iv (fB t))):=by
 unfold vx at ht;apply Ej 2 func335 ntmps335;refine Nw 11 fun b1=>?_;apply kp 1 [2];exact aw rfl rfl rfl
theorem acM(n:Int)(W:World):Calls prog 336 #[Iv n] W (Hr.aN W (.bool (Cj n))):=by
 apply Ej 9 func336 ntmps336;apply Sd 0 5;intro _ g5;apply ab 5;apply kp 1 [2];exact aw rfl rfl (by simp [Cj, *]);intro _ g5;apply ab 5;apply kp 1 [2];exact aw rfl rfl (by simp [Cj, *])
theorem aqm(p t:bj)(W:World):Calls prog 337 #[p.val,t.val] W (Hr.aN W (Iv (AE p t))):=by
 apply Ej 2 func337 ntmps337;refine Nw 0 fun b2=>?_;refine Nw 11 fun b3=>?_;apply kp 0 [2,3,4,9];apply Cd 0;intros;apply ab 9;apply kp 0 [2,3,4,14];apply Cd 0;intros;apply ab 5;exact aw rfl rfl (by rw [AE];simp_all;try omega);intros;apply ab 6;exact aw rfl rfl (by rw [AE];simp_all;try omega);intros;apply ab 10;apply kp 0 [2,3,4,19];apply Cd 0;intros;apply ab 9;apply kp 0 [4,24];apply Cd 0;intros;apply ab 5;exact aw rfl rfl (by rw [AE];simp_all;try omega);intros;apply ab 6;exact aw rfl rfl (by rw [AE];simp_all;try omega);intros;apply ab 5;apply kp 1 [4];exact aw rfl rfl (by rw [AE];simp_all;try omega)
theorem acN(t:bj)(s:List bj)(b:Nat)(Q:Option Addr)(cq:Nat)(W:World)(hm:Mem (bg [.aj b 131 [(0,.slice Q s.length cq)],.ag 196 4 Q s.length cq (s.map bj.enc)]) W [.aj b 131 [(0,.slice Q s.length cq)],.ag 196 4 Q s.length cq (s.map bj.enc)] W)(hs:s.length≤3)(ht:vx t)(qT:∀u∈s,vx u):Calls prog 334 #[t.val,.pointer (some ⟨b,0,none⟩)] W (bJ W (bg [.aj b 131 [(0,.slice Q s.length cq)],.ag 196 4 Q s.length cq (s.map bj.enc)]) (fun v m=>∃Q' c',v= .bool (xi s t)∧m= [.aj b 131 [(0,.slice Q' (yE s t).length c')],.ag 196 4 Q' (yE s t).length c' ((yE s t).map bj.enc)])):=by
 refine Ea (X:=_) func334 ntmps334 hm ?_;apply ab 2;refine Nw 4 fun b2=>?_;apply Ks 0 [1,2,3] [1,1,0];refine agd (ι:=Nat) (fun k=>k≤s.length∧qq s t.first s.length=qq s t.first k) (fun k=> .aj b 131 [(0,.slice Q k cq)]) (fun k=> .ag 196 4 Q k cq ((s.take k).map bj.enc)) (fun k=>k) s.length (by(try dsimp only);exact⟨oM,rfl⟩) .refl (.ag rfl rfl rfl (by rw [Kw])) ?_;rintro k hq;(try dsimp only at hq);obtain⟨hk,Ts⟩:=hq;apply ab 2;apply Dd 4 [0,1,2,3,4,5,6,7,8,9,10,11,12,13,14];refine uq 8 rfl (fun g8=>?_) (fun g8=>?_);have tG:=td g8;obtain⟨j,rfl⟩:∃j,k=j+1:=⟨k-1,oM⟩;apply ab 4;refine Dq 0 rfl (Qi j rfl (.ag sZ) (hl:=(by simp;omega))) ?_;refine Dq 0 rfl (Qe rfl (.ag sZ) (VR  oM oM)) ?_;refine Dq 5 rfl (Qc rfl fun w _ _=>NL (aa s j) w (qT _ (aI  oM))) ?_;apply kp 0 [1,2,3,19];apply Cd 0;intros;apply ab 2;refine s7 (.ah ae.ak) (fun iJ=>?_);apply ab 5;refine Qq 2 (yA rfl zU zS rfl rfl  oM) ?_;apply kp 1 [1,2,3];refine Ag j ?_ (hs:=az nZ (.cons (iZ 0) (.aj (.aH rfl (by congr 1;omega) .nil)) (.cons (iZ 0) (.EP rfl rfl  oM (by rw [←wW,GY,vh  oM])) mZ)));exact⟨oM,by rw [Ts,qq,aG  oM]⟩;intros;have hN:qq s t.first s.length=j+1:=by rw [Ts,qq,aD  oM]
 apply ab 8;apply kp 1 [1,2,3,4];apply Dd 3 [0,1,2,3,4,5,6,7,8,9,10,11,12,13,14,15,16];refine uq 29 rfl (fun eQ=>?_) (fun eQ=>?_);have Jc:=td eQ;apply ab 15;apply kp 6 [1,2,3,43];refine rM (.cons (iZ 0) (.aj (eL [0])) (dZ [0])) ?_;exact aw rfl rfl ⟨Q,cq,by rw [(La hN  oM).1],by rw [(La hN  oM).2];simp [eM];omega⟩;have Jc:=td eQ;apply ab 4;refine Dq 3 rfl (Qc rfl fun w _ _=>NL t w ht) ?_;refine Dq 0 rfl (Qi j rfl (.ag sZ) (hl:=(by simp;omega))) ?_;refine Dq 0 rfl (Qe rfl (.ag sZ) (VR  oM oM)) ?_;refine Dq 1 rfl (Qc rfl fun w _ _=>NL (aa s j) w (qT _ (aI  oM))) ?_;refine Dq 2 rfl (nJ rfl rfl (dC  oM) rfl) ?_;apply kp 0 [1,2,3,43];apply Cd 0;intros;apply ab 5;refine rM (.cons (iZ 0) (.aj (eL [0])) (dZ [0])) ?_;exact aw rfl rfl ⟨Q,cq,by rw [(La hN (by right;rw [Kx];omega)).1],by rw [(La hN (by right;rw [Kx];omega)).2];simp [eM];omega⟩;intros;apply ab 5;refine Nw 0 fun b46=>?_;refine Hh (cY rfl rfl rfl zU zI rfl rfl sZ rfl (.ag sZ) rfl (bK rfl) (bK rfl)  oM oM) ?_;rintro⟨Tt,Tv⟩-;apply ab 2;apply kp 5 [3];refine rM (.cons (iZ 0) (.aj (eL [0])) (dZ [0])) ?_;exact aw rfl rfl ⟨Tt,Tv,by rw [(Lb hN  oM (by rw [Kx];omega)).1],by rw [(Lb hN  oM (by rw [Kx];omega)).2];simp [eM,dK,bj.enc];try omega⟩;have tG:=td g8;obtain rfl:k=0:=oM
 have hN:qq s t.first s.length=0:=by rw [Ts];rfl
 apply ab 22;apply Dd 24 [0,1,2,3,4,5,6,7,8,9,10,11,12,13,14,15,16];refine Nw 0 fun b46=>?_;refine Hh (cY rfl rfl rfl zU zI rfl rfl sZ rfl (.ag sZ) rfl (bK rfl) (bK rfl)  oM oM) ?_;rintro⟨Tt,Tv⟩-;apply ab 2;apply kp 5 [3];refine rM (.cons (iZ 0) (.aj (eL [0])) (dZ [0])) ?_;exact aw rfl rfl ⟨Tt,Tv,by rw [(Lb hN  oM oM).1],by rw [(Lb hN  oM oM).2];simp [eM,dK,bj.enc];try omega⟩
theorem aqo(ts:List bj)(A:Option Addr)(ca:Nat)(n:Int)(W:World)(hr:Rd W A 4 (ts.map bj.enc))(hl:ts.length≤1000000000000):Calls prog 327 #[.slice A ts.length ca,Iv n] W (Hr.aN W (Iv (oC ts n))):=by
 apply Ej 10 func327 ntmps327;apply Sd 0 11;intro _ nB;apply ab 4;apply kp 6 [0,1,4,14];exact aw rfl rfl (by rw [oC,aG  oM]);intro _ nB;apply ab 4;apply kp 0 [0,1,4,14];apply Cd 0;intros;apply ab 5;exact aw rfl rfl (by rw [oC,aG  oM]);intros;apply ab 8;apply kp 0 [0,1,4,17];apply Cd 0;intros;apply ab 5;exact aw rfl rfl (by rw [oC,aD  oM,aG  oM]);intros;apply ab 3;refine Nw 3 fun b5=>?_;refine Qq 2 (gh rfl (aX rfl)) ?_;apply kp 8 [0,1,4,6];refine rM (ar.cM 196 4) ?_;apply Ks 0 [21,0,1,4,6,19,20] [1,0];refine pG (ι:=Nat×(Option Addr)×Nat) (fun gg=>gg.1≤ts.length∧qp n ts gg.1∧xj (jr ts gg.1)∧(jr ts gg.1).length≤3) (fun gg=>Iv (gg.1:Int)) (fun gg=> .aj b5 131 [(0,.slice gg.2.1 (jr ts gg.1).length gg.2.2)]) (fun gg=> .ag 196 4 gg.2.1 (jr ts gg.1).length gg.2.2 ((jr ts gg.1).map bj.enc)) (fun gg=>ts.length-gg.1) (0,none,0) (by(try dsimp only);exact⟨oM,qp.zero,.nil,by simp [jr]⟩) rfl .refl .refl ?_;rintro⟨i,Q,cq⟩ hq;(try dsimp only at hq);obtain⟨hi,hg,hn,pP⟩:=hq;refine sW ⟨(21,Iv i)::_,.aj b5 131 [(0,.slice Q (jr ts i).length cq)]:: .ag 196 4 Q (jr ts i).length cq ((jr ts i).map bj.enc)::_⟩ ?_;apply Cd 5;intros;apply ab 6;refine Qq 0 (Qi i rfl (.au hr .no)) ?_;refine Qq 0 (Qe rfl (.au hr .no)) ?_;refine Nw 3 fun b8=>?_;apply kp 7 [0,1,4,6,7,8,19,20,21];apply Sd 0 29;intro _ eQ;apply ab 39;apply kp 6 [0,1,4,6,7,8,19,20,21,67];exact aw rfl rfl (by rw [xh  oM oM oM hg  oM (Ci (by unfold lZ;omega))  oM]);intro _ eQ;apply Sd 6 35;intro _ wD;apply ab 33;apply kp 6 [0,1,4,6,7,8,19,20,21,67];exact aw rfl rfl (by rw [xh  oM oM oM hg  oM (Ci (by unfold lZ;omega))  oM]);intro _ wD;apply Sd 5 40;intro _ Dx;apply ab 28;apply kp 6 [0,1,4,6,7,8,19,20,21,67];exact aw rfl rfl (by rw [xh  oM oM oM hg  oM (Ci (by unfold lZ;omega))  oM]);intro _ Dx;apply Sd 9 49;intro _ oq;apply ab 19;apply kp 6 [0,1,4,6,7,8,19,20,21,67];exact aw rfl rfl (by rw [xh  oM oM oM hg  oM (Ci (by unfold lZ;omega))  oM]);intro _ oq;apply ab 2;refine Qq 3 (Qc rfl fun w _ _=>acM _ _) ?_;apply Sd 0 55;intro _ JP;have Tw:=JP;simp [Cj]at Tw;apply ab 13;apply kp 6 [0,1,4,6,7,8,19,20,21,67];exact aw rfl rfl (by rw [xh  oM oM oM hg  oM (Ci (by unfold lZ;omega))  oM]);intro _ JP;have Tw:=JP;simp [Cj]at Tw;apply ab 2;refine Qq 3 (Qc rfl fun w _ _=>acM _ _) ?_;apply Sd 0 61;intro _ Tx;have Ty:=Tx;simp [Cj]at Ty;apply ab 7;apply kp 6 [0,1,4,6,7,8,19,20,21,67];exact aw rfl rfl (by rw [xh  oM oM oM hg  oM (Ci (by unfold lZ;omega))  oM]);intro _ Tx;have Ty:=Tx;simp [Cj]at Ty;apply ab 7;apply kp 0 [0,1,4,6,7,8,19,20,21,67];apply Cd 0;intros;apply ab 5;exact aw rfl rfl (by rw [xh  oM oM oM hg  oM (Ci (by unfold lZ;omega))  oM]);intros;have hp:lZ n (aa ts i):=by unfold lZ;omega
 apply ab 3;apply Dd 3 [0,1,2,3,4,5,6,7,8,9,10,11];refine uq 70 rfl (fun Tz=>?_) (fun Tz=>?_);have aqp:=td Tz;apply ab 3;refine Dq 0 rfl (Qi (i-1) rfl (.au hr .no)) ?_;refine Dq 1 rfl (Qe rfl (.au hr .no)) ?_;refine Dq 3 rfl (Qc rfl fun w _ _=>aqm _ _ _) ?_;apply kp 0 [0,1,4,6,8,19,20,21,79];apply Cd 0;intros;apply ab 5;exact aw rfl rfl (by rw [xh  oM oM oM hg  oM (agm hp  oM (O_.1  oM))  oM]);intros;apply ab 2;have ha:0<i→¬qo (aa ts i) (aa ts (i-1)):=by first|(intro h0;exact absurd h0  oM)|(intro _ hx;have:=O_.2 hx;omega)
 apply ab 3;refine Hh (Cg [_,_] _ rfl rfl rfl rfl kZ (aX rfl) ((ae.aK (.ah ae.ak)).trans (.cons _ (ae.aK (.ah ae.ak)))) (Y:=fun _=>bg [_,_]) (fun _ _ h=>h) (fun w hk hm=>acN (aa ts i) (jr ts i) b5 Q cq w ((hm.aK ((ae.aK (.ah ae.ak)).trans (.cons _ (ae.aK (.ah ae.ak))))).eW (rs:= [_,_])) pP (K_ hp  oM) (VO hg  oM))) ?_;rintro⟨v,m⟩ ⟨Q',c',rfl,rfl⟩;apply ab 2;apply kp 0 [0,1,4,6,19,20,21,83];apply Cd 0;intro _ DQ;have hb:re ts i:=Decidable.byContradiction fun hx=>by simp [(HH hg ha hn pP).2 hx]at DQ
 apply ab 5;exact aw rfl rfl (by rw [xh  oM oM oM hg  oM (VI hp ha hb)  oM]);intro _ DQ;have hb:¬re ts i:=(HH hg ha hn pP).1 (by simpa using DQ);have he:=O0 hp ha hb;obtain⟨dX,eE,oH⟩:=VN  oM hg he hn pP;apply ab 6;refine Ag (i+1,Q',c') ?_ (hs:=az nZ (.cons (iZ 0) (.aj (.aH rfl (by rw [dX]) .nil)) (.cons (iZ 0) (.ag rfl (by rw [dX]) rfl (by rw [dX])) mZ)));exact⟨oM,hg.succ he,eE,oH⟩;have aqp:=td Tz;apply ab 13;have ha:0<i→¬qo (aa ts i) (aa ts (i-1)):=by first|(intro h0;exact absurd h0  oM)|(intro _ hx;have:=O_.2 hx;omega)
 apply ab 3;refine Hh (Cg [_,_] _ rfl rfl rfl rfl kZ (aX rfl) ((ae.aK (.ah ae.ak)).trans (.cons _ (ae.aK (.ah ae.ak)))) (Y:=fun _=>bg [_,_]) (fun _ _ h=>h) (fun w hk hm=>acN (aa ts i) (jr ts i) b5 Q cq w ((hm.aK ((ae.aK (.ah ae.ak)).trans (.cons _ (ae.aK (.ah ae.ak))))).eW (rs:= [_,_])) pP (K_ hp  oM) (VO hg  oM))) ?_;rintro⟨v,m⟩ ⟨Q',c',rfl,rfl⟩;apply ab 2;apply kp 0 [0,1,4,6,19,20,21,83];apply Cd 0;intro _ DQ;have hb:re ts i:=Decidable.byContradiction fun hx=>by simp [(HH hg ha hn pP).2 hx]at DQ
 apply ab 5;exact aw rfl rfl (by rw [xh  oM oM oM hg  oM (VI hp ha hb)  oM]);intro _ DQ;have hb:¬re ts i:=(HH hg ha hn pP).1 (by simpa using DQ);have he:=O0 hp ha hb;obtain⟨dX,eE,oH⟩:=VN  oM hg he hn pP;apply ab 6;refine Ag (i+1,Q',c') ?_ (hs:=az nZ (.cons (iZ 0) (.aj (.aH rfl (by rw [dX]) .nil)) (.cons (iZ 0) (.ag rfl (by rw [dX]) rfl (by rw [dX])) mZ)));exact⟨oM,hg.succ he,eE,oH⟩;intros;apply ab 1;apply kp 5 [4];exact aw rfl rfl (by rw [VJ  oM oM oM (fun j hj=>hg j  oM)])
theorem aqq(t:bj)(e:Int)(W:World)(ht:vx t)(he:e≤9223372036854775807):Calls prog 340 #[t.val,Iv e] W (Hr.aN W (.bool (kT t e))):=by
 unfold vx at ht;apply Ej 2 func340 ntmps340;refine Nw 9 fun b2=>?_;apply Sd 0 9;intro _ g9;apply ab 10;apply kp 1 [4];exact aw rfl rfl (ay Value.bool (by rw [ug,HI];unfold fB;(try simp only [jl,Al,false_iff]);omega));intro _ g9;apply ab 10;apply kp 1 [4];exact aw rfl rfl (ay Value.bool (by rw [ug,HI];unfold fB;(try simp only [jl,Al,false_iff]);omega))
theorem aqr(a b:Nat)(W:World):Calls prog 341 #[Iv a,Iv b] W (Hr.aN W (Iv (Nat.gcd a b:Int))):=by
 apply Ej 6 func341 ntmps341;apply Ks 0 [0,1,4] [];refine lY (ι:=Nat×Nat) (fun gg=>Nat.gcd gg.1 gg.2=Nat.gcd a b∧True) (fun gg=>Iv (gg.1:Int)) (fun gg=>Iv (gg.2:Int)) (fun gg=>gg.2) (a,b) (by(try dsimp only);exact⟨rfl,trivial⟩) rfl rfl ?_;rintro⟨x,y⟩ hq;(try dsimp only at hq);obtain⟨dQ,-⟩:=hq;refine sW ⟨(0,Iv x)::(1,Iv y)::_,_⟩ ?_;apply Cd 6;intros;apply ab 2;apply Dd 3 [0,1,2,3,4,5];refine Dq 3 rfl (dL rfl rfl rfl  oM) ?_;apply kp 1 [0,1,4];refine Ag (y,x%y) ?_ (hs:=az (.aH rfl rfl (.aH rfl (aP sM) nZ)) .nil) (hm:=(by(try dsimp only);exact Et _  oM));exact⟨by rw [←dQ,Nat.gcd_comm y,←Nat.gcd_rec,Nat.gcd_comm],trivial⟩;intros;apply ab 1;apply kp 6 [0,4];exact aw rfl rfl (aP (by rw [←dQ,show y=0 from oM,Nat.gcd_zero_right]))
theorem aqs(ts:List bj)(A:Option Addr)(ca:Nat)(e:Int)(W:World)(hr:Rd W A 4 (ts.map bj.enc))(hl:ts.length≤1000000000000)(hv:qs ts)(he:e≤9223372036854775807):Calls prog 338 #[.slice A ts.length ca,Iv e] W (Hr.aN W (.tuple #[Iv ((fm ts e ts.length).1:Int),Iv ((fm ts e ts.length).2:Int)])):=by
 apply Ej 18 func338 ntmps338;apply Ks 0 [11,4,5,1,9,10] [];refine OV (ι:=Nat) (fun k=>k≤ts.length) (fun k=>Iv k) (fun k=>Iv ((fm ts e k).1:Int)) (fun k=>Iv ((fm ts e k).2:Int)) (fun k=>ts.length-k) 0 dO rfl rfl rfl ?_;rintro k hk;(try dsimp only at hk);apply Cd 5;intros;obtain⟨cy,p1,p2,p3,p4⟩:=hv.VT (k:=k)  oM ;obtain⟨b1,b2,b3,b4⟩:=VX hv e (k:=k)  oM ;apply ab 5;refine Qq 0 (Qi k rfl (.au hr .no)) ?_;refine Qq 0 (Qe rfl (.au hr .no)) ?_;refine Nw 2 fun b7=>?_;apply kp 4 [1,4,5,7,9,10,11];refine Qq 1 (Qc rfl fun w _ _=>aqq (aa ts k) e w cy he) ?_;apply Cd 0;intro _ j2;apply ab 1;apply Dd 3 [0,1,2,3,4,5,6,7,8,9];refine Dq 3 rfl (KP rfl rfl rfl (by have:=VY b2 (x:=(aa ts k).normal)  oM ;omega)) ?_;refine Dq 3 rfl (KP rfl rfl rfl (by have:=VY b4 (x:=(aa ts k).oB)  oM ;omega)) ?_;apply kp 1 [1,4,5,9,10,11];refine dI (az (.cons (s:=1) rfl (.aH (s:=4) (v':=Iv ((((fm ts e k).1*(aa ts k).normal.toNat):Nat):Int)) rfl (aP (by rw [GU,Int.toNat_of_nonneg  oM])) (.aH (s:=5) (v':=Iv ((((fm ts e k).2*(aa ts k).oB.toNat):Nat):Int)) rfl (aP (by rw [GU,Int.toNat_of_nonneg  oM])) (eL [9,10,11])))) .refl) ?_;apply ab 3;refine Qq 2 (Qc rfl fun w _ _=>aqr ((fm ts e k).1*(aa ts k).normal.toNat) ((fm ts e k).2*(aa ts k).oB.toNat) w) ?_;have NM:0<Nat.gcd ((fm ts e k).1*(aa ts k).normal.toNat) ((fm ts e k).2*(aa ts k).oB.toNat):=Nat.gcd_pos_of_pos_left _ (Nat.mul_pos  oM oM);have m1:((fm ts e k).1*(aa ts k).normal.toNat)≤32768*32:=Nat.mul_le_mul b2  oM ;have m2:((fm ts e k).2*(aa ts k).oB.toNat)≤32768*32:=Nat.mul_le_mul b4  oM ;apply Dd 2 [0,1,2,3,4,5,6,7];refine Dq 2 rfl (Aq rfl rfl rfl  oM) ?_;refine Dq 3 rfl (Aq rfl rfl rfl  oM) ?_;apply kp 5 [1,4,5,9,10,11];refine Ag (k+1) ?_ (hs:=az (.aH rfl rfl (.aH rfl (aP (by rw [Pe (by simpa using j2)];exact(Int.natCast_ediv _ _).symm)) (.aH rfl (aP (by rw [Pe (by simpa using j2)];exact(Int.natCast_ediv _ _).symm)) nZ))) .nil);omega;intro _ j2;apply ab 6;apply kp 0 [1,4,5,9,10,11];refine Ag (k+1) ?_ (hs:=az (.aH rfl rfl (.aH rfl (aP (by rw [Pd (by simpa using j2)])) (.aH rfl (aP (by rw [Pd (by simpa using j2)])) nZ))) .nil);omega;intros;apply ab 1;apply kp 8 [4,5];exact fc rfl rfl rfl (by rw [show k=ts.length from oM])
theorem acO(ts:List bj)(A:Option Addr)(ca:Nat)(e x:Int)(W:World)(hr:Rd W A 4 (ts.map bj.enc))(hl:ts.length≤1000000000000)(hv:qs ts)(he:e≤9223372036854775807):Calls prog 328 #[.slice A ts.length ca,Iv e,Iv x] W (Hr.aN W (.tuple #[Iv (ia ts e x).1,Iv (ia ts e x).2])):=by
 apply Ej 11 func328 ntmps328;apply Sd 0 12;intro _ iq;apply ab 4;apply kp 7 [0,1,2,6,7,15];exact fc rfl rfl rfl (by rw [V0  oM]);intro _ iq;apply ab 4;apply kp 0 [0,1,2,6,7,15];apply Cd 0;intros;apply ab 6;exact fc rfl rfl rfl (by rw [V0  oM]);intros;apply ab 5;refine Qq 8 (Qc rfl fun w hk _=>aqs ts A ca e w (hr.aC hk) hl hv he) ?_;obtain⟨b1,b2,b3,b4⟩:=VX hv e (cE ts.length);have dj:=VZ (x:=x) (p:=(fm ts e ts.length).1)  oM b2;apply ab 5;refine Qq 2 (dL rfl rfl rfl  oM) ?_;apply kp 0 [2,6,7,8,9,27];apply Cd 0;intro DR _;apply ab 6;exact fc rfl rfl rfl (by rw [agr  oM (fun hx=>DR ((Pg hv e x).1.1 hx))]);intro DR _;apply ab 7;refine Qq 3 (Aq rfl rfl rfl  oM) ?_;apply kp 1 [6,7];exact fc rfl rfl rfl (by rw [Ph  oM ((Pg hv e x).1.2 DR),(Pg hv e x).2])
theorem aqt(ts:List bj)(A:Option Addr)(ca:Nat)(ws:List Int)(B:Option Addr)(cb:Nat)(W:World)(hr:Rd W A 4 (ts.map bj.enc))(x4:Rd W B 1 (ws.map eC))(bW:ts.length≤1000000000000)(hlw:ws.length≤1000000000000):Calls prog 310 #[.slice A ts.length ca,.slice B ws.length cb] W (bJ W nX (fun v m=>∃O co,v= .tuple #[.slice O (yF ts ws).1.length co,Iv (yF ts ws).2]∧m= [.ag 3 1 O (yF ts ws).1.length co ((yF ts ws).1.map eC)])):=by
 apply En 11 func310 ntmps310;refine Qq 2 (Qc rfl fun w hk _=>aqo ts A ca _ w (hr.aC hk) bW) ?_;apply kp 5 [0,1,4,5,6];apply Cd 0;intro _ j2;apply ab 6;apply kp 1 [0,1,4,5];refine rM (ar.cM 3 1) ?_;apply Km 0 [0];exact fc rfl rfl rfl ⟨none,0,by rw [V1 (by simpa using j2)];rfl,by rw [V1 (by simpa using j2)];rfl⟩;intro _ j2;have hc:oC ts ws.length=0:=by simpa using j2
 obtain⟨c1,c2,c3,c4⟩:=O6 hc;have hv:=qs.of hc;apply ab 5;refine Hh (KX (m:=0) (cap:=ws.length) rfl rfl rfl zU zI rfl rfl  oM oM oM) ?_;rintro b21-;apply ab 2;apply kp 8 [0,1,4,5,7];apply Ks 0 [24,7,0,4,5,22,23] [0];refine mA (ι:=Nat×(Option Addr)×Nat) (fun gg=>gg.1≤ws.length∧∀j,j<gg.1→(ia ts (j:Int) (aa ws j)).2=0) (fun gg=>Iv (gg.1:Int)) (fun gg=> .slice gg.2.1 gg.1 gg.2.2) (fun gg=> .ag 3 1 gg.2.1 gg.1 gg.2.2 ((qt ts ws gg.1).map eC)) (fun gg=>ws.length-gg.1) (0,some ⟨b21,0,none⟩,ws.length) (by(try dsimp only);exact⟨oM,fun j hj=>absurd hj  oM⟩) rfl rfl (.ag rfl rfl rfl (by simp [qt])) ?_;rintro⟨k,O,co⟩ hq;(try dsimp only at hq);obtain⟨hk,dQ⟩:=hq;refine sW ⟨(24,Iv k)::(7,.slice O k co)::_,.ag 3 1 O k co ((qt ts ws k).map eC)::_⟩ ?_;apply Cd 5;intros;apply ab 6;refine Qq 0 (Qi k rfl (.au x4 .no)) ?_;refine Qq 8 (Qk rfl (.au x4 .no)) ?_;refine Qq 6 (Qc rfl fun w hk _=>acO ts A ca k (aa ws k) w (hr.aC hk) bW hv  oM) ?_;apply kp 6 [0,4,5,7,10,11,22,23,24];apply Cd 0;intro NO _;apply ab 6;apply kp 1 [0,4,5,7,10,22,23,24];refine rM (ar.cM 3 1) ?_;apply Km 0 [0];exact fc rfl rfl rfl ⟨none,0,by rw [V2 hc  oM dQ NO];rfl,by rw [V2 hc  oM dQ NO];rfl⟩;intro NO _;apply ab 4;refine Nw 0 fun b41=>?_;refine Hh (cY rfl rfl rfl zU zI rfl rfl sZ rfl (.ag sZ) rfl (bK rfl) (bK rfl)  oM oM) ?_;rintro⟨A42,c42⟩-;apply ab 2;apply kp 5 [0,4,5,7,22,23,24];refine Ag (k+1,A42,c42) ?_ (hs:=az (.aH rfl rfl (.aH rfl  sM  nZ)) (.cons (iZ 0) (.ag rfl  sM  rfl (by rw [Ck];simp [eC,dK])) mZ));exact⟨oM,agu dQ NO⟩;intros;apply ab 1;apply kp 7 [4,5,7];apply Km 0 [0];exact fc rfl rfl rfl ⟨O,co,by rw [Pj hc (fun j hj=>dQ j  oM),ER,show k=ws.length from oM],by rw [Pj hc (fun j hj=>dQ j  oM),ER,show k=ws.length from oM]⟩
end Tu
theorem aqw(ts:List Tu.bj)(A:Option Addr)(ca:Nat)(W:World){n e x:Int}{i:Nat}(hr:Rd W A 4 (ts.map Tu.bj.enc))(oF:ts.length≤ca)(hT:oD ts n)(hn:n≤128)(hl:ts.length≤16)(hi:i<ts.length)(he:e<(aa ts i).first+3)(he2:e≤9223372036854775807)(hx:0≤x∧x≤7741440):
  Calls prog 328 #[.slice (o6 A ((i:Int)+1).toNat ca 4) (ts.length-((i:Int)+1).toNat) (ca-((i:Int)+1).toNat),Iv e,Iv x] W (aN W (.tuple #[Iv x,Iv 0])):=by
 have h1:=Tu.acO (ts.drop (i+1)) (o6 A (i+1) ca 4) (ca-(i+1)) e x W (by rw [B9];exact hr.cut (by rw [bE];exact oF)) (by rw [kQ];omega) ⟨n,hn,(hT.drop (i+1)).PT hn⟩ he2;rw [kQ,W2 hx (hT.ahX hi he)]at h1;exact h1
theorem aqy(ts:List Tu.bj)(A:Option Addr)(ca:Nat)(ws:List Int)(B:Option Addr)(cb:Nat)(n:Int)(i:Nat)(lg:Int)(W:World)(hr:Rd W A 4 (ts.map Tu.bj.enc))(oF:ts.length≤ca)(x4:Rd W B 1 (ws.map Tu.eC))(x5:(ws.length:Int)=n)(hT:oD ts n)(hn:n≤128)(hl:ts.length≤16)(hi:i<ts.length)(TB:1≤lg∧lg≤4)(hw:∀j:Nat,(aa ts i).first≤j→(j:Int)<(aa ts i).first+3→aa ws j=fC lg 0):Calls prog 329 #[.slice A ts.length ca,Iv i,.slice B ws.length cb] W (bJ W nX (fun v m=>v= .tuple #[Iv lg,.bool true]∧m= [])):=by
 obtain⟨e1,e2,e3,e4,e5⟩:=hT.sj i hi;obtain⟨f,hf⟩:∃f:Nat,(aa ts i).first=f:=⟨(aa ts i).first.toNat,oM⟩;obtain⟨ht3,htv⟩:=W4 TB;have ur:=LB htv;have htp:=ahV TB;apply En 9 func329 ntmps329;refine Qq 0 (Qi i rfl (.au hr .no)) ?_;refine Qq 0 (Qe rfl (.au hr .no)) ?_;refine Nw 2 fun b8=>?_;apply kp 12 [0,1,2,6,7,8];apply Ks 0 [10,9,0,1,2,6,7,8] [0];refine lY (ι:=Nat) (fun j=>j≤3) (fun j=>Iv ((aa ts i).first+j)) (fun j=>Iv ((j:Int)*fC lg 0)) (fun j=>3-j) 0 dO (aP sM) (aP sM) ?_;rintro j hj;(try dsimp only at hj);apply ab 5;refine Qq 2 (Qc rfl fun w _ _=>Tu.NL (aa ts i) w (by unfold Tu.vx;omega)) ?_;apply kp 0 [0,1,2,6,7,8,9,10,23];apply Cd 0;intro nA _;have wj:j<3:=by rw [hT.fB hi]at nA;omega
 have TC:aa ws (f+j)=fC lg 0:=hw (f+j)  oM oM ;apply ab 4;apply Dd 3 [0,1,2,3,4,5,6,7,8,9,10,11,12,13,14];refine Dq 3 rfl (Ce rfl zU zS rfl rfl  oM) ?_;refine Dq 0 rfl (Qi (f+j) rfl (.au x4 .no)) ?_;refine Dq 0 rfl (Qk rfl (.au x4 .no)) ?_;refine Dq 17 rfl (Qc rfl fun w hk _=>aqw ts A ca w (hr.aC hk) oF hT hn hl hi  oM oM (by rw [TC];exact ur)) ?_;refine Qq 2 (EF rfl rfl rfl (by have:=ah5 hj ur;rw [TC];omega)) ?_;apply kp 6 [0,1,2,6,7,8,9,10];refine Ag (j+1) ?_ (hs:=az (.aH rfl (aP  oM) (.aH rfl (aP (by rw [TC,Int.natCast_add,Int.add_mul];simp)) nZ)) mZ);omega;intro nA _;have wj:j=3:=by rw [hT.fB hi]at nA;omega
 apply ab 1;apply kp 6 [6,7,8,9];apply Ks 0 [13,6,7,8,9] [0];refine dY (ι:=Int) (fun L=> -1≤L∧L≤lg) (fun L=>Iv L) (fun L=>(lg-L).toNat) (-1) (by(try dsimp only);exact⟨oM,oM⟩) rfl ?_;rintro L hq;(try dsimp only at hq);obtain⟨hL1,hL2⟩:=hq;apply Cd 6;intros;apply ab 4;apply Dd 5 [0,1,2,3,4,5,6,7];refine Dq 0 rfl (Cl rfl rfl rfl  oM) ?_;refine Dq 2 rfl (KP rfl rfl rfl (by rw [e2];have:=E1 (n:=3870720) (by decide) (L+1).toNat;rw [Lw  oM];omega)) ?_;apply kp 0 [6,7,8,9,13,55];apply Cd 0;intro TD _;have hLg:L=lg:=by rw [Lw  oM,wj,e2]at TD;exact ahW TB  oM oM
 apply ab 7;apply Km 0 [];exact fc rfl rfl rfl ⟨by rw [hLg],rfl⟩;intro TD _;have hLn:L≠lg:=fun e=>TD (by subst e;rw [Lw  oM,wj,e2,htp];rfl);apply ab 7;apply kp 0 [6,7,8,9,13];refine Ag (L+1) ?_;exact⟨oM,oM⟩;intros;apply ab 1;apply kp 1 [6,7];exfalso;omega
theorem acP(ts:List Tu.bj)(A:Option Addr)(ca:Nat)(ws:List Int)(B:Option Addr)(cb:Nat)(n:Int)(W:World)(hr:Rd W A 4 (ts.map Tu.bj.enc))(oF:ts.length≤ca)(x4:Rd W B 1 (ws.map Tu.eC))(x5:(ws.length:Int)=n)(hT:oD ts n)(hn:n≤128)(hl:ts.length≤16)(cy:∀j:Nat,j<ws.length→(Tu.ia ts j (aa ws j)).2=0):Calls prog 310 #[.slice A ts.length ca,.slice B ws.length cb] W (bJ W nX (fun v m=>∃O co,v= .tuple #[.slice O ws.length co,Iv 0]∧m= [.ag 3 1 O ws.length co ((Tu.qt ts ws ws.length).map Tu.eC)])):=by
 have h1:=Tu.aqt ts A ca ws B cb W hr x4  oM oM ;rw [Tu.Pj (by rw [x5];exact hT.check  oM hn hl) cy]at h1;simpa only [Tu.ER]using h1
theorem aqE(ts:List Tu.bj)(A:Option Addr)(ca:Nat)(ws:List Int)(B:Option Addr)(cb:Nat)(n:Int)(W:World)(hr:Rd W A 4 (ts.map Tu.bj.enc))(oF:ts.length≤ca)(x4:Rd W B 1 (ws.map Tu.eC))(x5:(ws.length:Int)=n)(hT:oD ts n)(hn:n≤128)(hl:ts.length≤16)(cy:∀j:Nat,j<ws.length→(Tu.ia ts j (aa ws j)).2=0)(Gq:∀i,i<ts.length→∃lg:Int,1≤lg∧lg≤4∧∀j:Nat,(aa ts i).first≤j→(j:Int)<(aa ts i).first+3→aa ws j=fC lg 0):Calls prog 311 #[.slice A ts.length ca,.slice B ws.length cb] W (bJ W nX (fun v m=>∃(O:Option Addr) (co k:Nat),v= .tuple #[.slice O k co,Iv 0]∧m= [])):=by
 apply En 10 func311 ntmps311;refine Hh (Hc rfl fun w hk _=>acP ts A ca ws B cb n w (hr.aC hk) oF (x4.aC hk) x5 hT hn hl cy) ?_;rintro⟨v,m⟩ ⟨O15,c15,rfl,rfl⟩;apply ab 17;refine Hh (KX (m:=0) (cap:=ts.length) rfl rfl rfl zU zI rfl rfl  oM oM oM) ?_;rintro Sv-;apply ab 2;apply kp 8 [0,1,4,5,8];apply Ks 0 [26,8,0,1,4,5,25] [0,0];refine mA (ι:=Nat×(Option Addr)×Nat×(List Int)) (fun gg=>gg.1≤ts.length) (fun gg=>Iv (gg.1:Int)) (fun gg=> .slice gg.2.1 gg.1 gg.2.2.1) (fun gg=> .ag 3 1 gg.2.1 gg.1 gg.2.2.1 (gg.2.2.2.map Tu.eC)) (fun gg=>ts.length-gg.1) (0,some ⟨Sv,0,none⟩,ts.length, []) dO rfl rfl (.ag rfl rfl rfl rfl) ?_;rintro⟨k,O,co,us⟩ hk;(try dsimp only at hk);refine sW ⟨(26,Iv k)::(8,.slice O k co)::_,.ag 3 1 O k co (us.map Tu.eC)::_⟩ ?_;apply Cd 5;intros;obtain⟨lg,l1,l2,l3⟩:=Gq k  oM ;apply ab 13;refine Hh (Hc rfl fun w hk _=>aqy ts A ca ws B cb n k lg w (hr.aC hk) oF (x4.aC hk) x5 hT hn hl  oM ⟨l1,l2⟩ l3) ?_;rintro⟨v,m⟩ ⟨rfl,rfl⟩;apply ab 17;refine Nw 0 fun b40=>?_;refine Hh (cY rfl rfl rfl zU zI rfl rfl sZ rfl (.ag sZ) rfl (bK rfl) (bK rfl)  oM oM) ?_;rintro⟨Sy,F5⟩-;apply ab 2;apply kp 5 [0,1,4,5,8,25,26];refine Ag (k+1,Sy,F5,us++ [lg]) ?_ (hs:=az nZ (.cons (iZ 0) (.ag rfl rfl rfl (by simp [Tu.eC,dK])) mZ));omega;intros;apply ab 1;apply kp 7 [4,5,8];apply Km 0 [];exact fc rfl rfl rfl ⟨O,co,k,rfl,rfl⟩
end Go.Proofs.YtjpbickffffgkaaGreat
