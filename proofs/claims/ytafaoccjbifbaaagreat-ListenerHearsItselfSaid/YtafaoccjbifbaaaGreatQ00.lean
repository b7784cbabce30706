/- Part 1 of listenerHearsItself_holds. -/
import Derived.Maps.AppendAt
import Derived.Orders
import Derived.Still
import Derived.Test.YtafaoccjbifbaaaGreatProg
import Derived.WalkKit
import Derived.WalkLawsBesides
import Derived.WalkSpells
set_option linter.unusedSimpArgs false
set_option linter.unusedVariables false
set_option maxHeartbeats 40000000
set_option maxRecDepth 100000
namespace Go.Proofs.YtafaoccjbifbaaaGreat
namespace Hr
end Hr
open Go Go.RowKit Hr Go.Proofs.Tryz
theorem oM{p:Prop}(h:p:=by omega):p:=h
theorem dO{p:Prop}(h:p:=by(try dsimp only);omega):p:=h
theorem lE{p:Prop}(h:p:=by(try simp only [ay,fN,nL])<;>omega):p:=h
theorem lH{q p:Prop}(h:q)(g:q→p:=by intro this;simp only [ay,fN,nL]at this⊢;omega):p:=g h
theorem sM{p:Prop}(h:p:=by simp):p:=h
abbrev zz:Value:= .int .i64 0
abbrev zq:Value:= .slice none 0 0
theorem ay:type_of%@List.length_append:=@List.length_append
theorem aB:type_of%@if_neg:=@if_neg
theorem aH:type_of%@if_pos:=@if_pos
theorem aY:type_of%@congrArg:=@congrArg
theorem bj:type_of%@List.append_assoc:=@List.append_assoc
theorem bG:type_of%@List.length_map:=@List.length_map
theorem bT:type_of%@List.map_append:=@List.map_append
theorem bZ:type_of%@Go.Proofs.Tryz.underlying3:=@Go.Proofs.Tryz.underlying3
theorem ct:type_of%@Nat.le_refl:=@Nat.le_refl
theorem cz:type_of%@decide_eq_false:=@decide_eq_false
theorem c_:type_of%@List.mem_singleton:=@List.mem_singleton
theorem de:type_of%@decide_eq_true:=@decide_eq_true
theorem dK:type_of%@List.mem_append:=@List.mem_append
theorem dL:type_of%@List.length_nil:=@List.length_nil
theorem eF:type_of%@List.length_cons:=@List.length_cons
theorem eS:type_of%@List.mem_map:=@List.mem_map
theorem e8:type_of%@List.length_pos_iff:=@List.length_pos_iff
theorem fi:type_of%@List.mem_cons_self:=@List.mem_cons_self
theorem fj:type_of%@Bool.true_and:=@Bool.true_and
theorem fk:type_of%@Go.run_underlying:=@Go.run_underlying
theorem fu:type_of%@Bool.and_eq_true:=@Bool.and_eq_true
theorem fF:type_of%@Go.IntKind.wrap_i64:=@Go.IntKind.wrap_i64
theorem fN:type_of%@List.length_take:=@List.length_take
theorem fU:type_of%@List.length_set:=@List.length_set
theorem gu:type_of%@List.mem_cons:=@List.mem_cons
theorem gB:type_of%@List.mem_cons_of_mem:=@List.mem_cons_of_mem
theorem gR:type_of%@List.sublist_append_right:=@List.sublist_append_right
theorem gZ:type_of%@List.append_nil:=@List.append_nil
theorem ie:type_of%@Nat.lt_or_ge:=@Nat.lt_or_ge
theorem ir:type_of%@decide_eq_true_eq:=@decide_eq_true_eq
theorem iu:type_of%@List.map_set:=@List.map_set
theorem iI:type_of%@Bool.false_or:=@Bool.false_or
theorem jg:type_of%@Nat.le_trans:=@Nat.le_trans
theorem jo:type_of%@Go.Proofs.Tryz.underlying5:=@Go.Proofs.Tryz.underlying5
theorem jB:type_of%@Bool.true_or:=@Bool.true_or
theorem jT:type_of%@Int.le_refl:=@Int.le_refl
theorem jU:type_of%@List.mem_range:=@List.mem_range
theorem jV:type_of%@Bool.and_true:=@Bool.and_true
theorem kh:type_of%@beq_iff_eq:=@beq_iff_eq
theorem ki:type_of%@Bool.false_and:=@Bool.false_and
theorem kj:type_of%@beq_eq_false_iff_ne:=@beq_eq_false_iff_ne
theorem km:type_of%@Go.run_equalIn_int:=@Go.run_equalIn_int
theorem kW:type_of%@List.getElem?_eq_getElem:=@List.getElem?_eq_getElem
theorem kX:type_of%@and_true:=@and_true
theorem kY:type_of%@List.flatMap_append:=@List.flatMap_append
theorem k6:type_of%@Go.Proofs.Tryz.underlying342:=@Go.Proofs.Tryz.underlying342
theorem k7:type_of%@Go.Proofs.Tryz.underlying37:=@Go.Proofs.Tryz.underlying37
theorem lI:type_of%@Nat.zero_le:=@Nat.zero_le
theorem l4:type_of%@bne_eq_false_iff_eq:=@bne_eq_false_iff_eq
theorem l5:type_of%@Bool.and_false:=@Bool.and_false
theorem l6:type_of%@Bool.not_false:=@Bool.not_false
theorem mL:type_of%@List.take_of_length_le:=@List.take_of_length_le
theorem mM:type_of%@Bool.or_true:=@Bool.or_true
theorem mN:type_of%@Bool.or_false:=@Bool.or_false
theorem mO:type_of%@Bool.not_true:=@Bool.not_true
theorem nk:type_of%@Int.mul_le_mul_of_nonneg_right:=@Int.mul_le_mul_of_nonneg_right
theorem nm:type_of%@List.take_append_drop:=@List.take_append_drop
theorem nL:type_of%@List.length_drop:=@List.length_drop
theorem nM:type_of%@List.range_succ:=@List.range_succ
theorem nO:type_of%@Nat.le_of_lt:=@Nat.le_of_lt
theorem ox:type_of%@List.drop_eq_nil_of_le:=@List.drop_eq_nil_of_le
theorem oy:type_of%@List.getElem?_map:=@List.getElem?_map
theorem oz:type_of%@List.getElem_of_mem:=@List.getElem_of_mem
theorem pq:type_of%@List.pairwise_append:=@List.pairwise_append
theorem pw:type_of%@Go.Sem.run_bind:=@Go.Sem.run_bind
theorem px:type_of%@List.take_length:=@List.take_length
theorem py:type_of%@Int.mul_nonneg:=@Int.mul_nonneg
theorem pz:type_of%@List.map_map:=@List.map_map
theorem qq:type_of%@List.map_cons:=@List.map_cons
theorem q9:type_of%@List.mem_flatMap:=@List.mem_flatMap
theorem sf:type_of%@Go.Result.andThen_ok:=@Go.Result.andThen_ok
theorem sg:type_of%@List.length_singleton:=@List.length_singleton
theorem sj:type_of%@Go.Proofs.Tryz.underlying411:=@Go.Proofs.Tryz.underlying411
theorem s_:type_of%@Nat.lt_of_lt_of_le:=@Nat.lt_of_lt_of_le
theorem te:type_of%@Nat.mul_le_mul_right:=@Nat.mul_le_mul_right
theorem tf:type_of%@decide_eq_false_iff_not:=@decide_eq_false_iff_not
theorem ua:type_of%@Option.map_some:=@Option.map_some
theorem ub:type_of%@Nat.zero_add:=@Nat.zero_add
theorem uc:type_of%@Go.Sem.run_pure:=@Go.Sem.run_pure
theorem ud:type_of%@List.ext_getElem?:=@List.ext_getElem?
theorem uf:type_of%@List.not_mem_nil:=@List.not_mem_nil
theorem ug:type_of%@or_false:=@or_false
theorem uh:type_of%@List.map_congr_left:=@List.map_congr_left
theorem ui:type_of%@Go.run_equalIn_struct:=@Go.run_equalIn_struct
theorem vD:type_of%@Nat.add_mul:=@Nat.add_mul
theorem vE:type_of%@Int.ediv_nonneg:=@Int.ediv_nonneg
theorem vF:type_of%@if_false:=@if_false
theorem vG:type_of%@Int.le_trans:=@Int.le_trans
theorem vH:type_of%@List.map_flatMap:=@List.map_flatMap
theorem vI:type_of%@Go.Proofs.Tryz.underlying9:=@Go.Proofs.Tryz.underlying9
theorem xf:type_of%@Nat.eq_of_beq_eq_true:=@Nat.eq_of_beq_eq_true
theorem xg:type_of%@List.getElem?_eq_some_iff:=@List.getElem?_eq_some_iff
theorem xh:type_of%@List.flatten_cons:=@List.flatten_cons
theorem xi:type_of%@List.getElem?_append_right:=@List.getElem?_append_right
theorem xj:type_of%@Go.Proofs.Tryz.underlying4:=@Go.Proofs.Tryz.underlying4
theorem xk:type_of%@Int.natCast_add:=@Int.natCast_add
theorem xl:type_of%@Int.add_mul:=@Int.add_mul
theorem xm:type_of%@bne_iff_ne:=@bne_iff_ne
theorem xn:type_of%@Go.Proofs.Tryz.underlying184:=@Go.Proofs.Tryz.underlying184
theorem yR:type_of%@Go.Addr.add_lit:=@Go.Addr.add_lit
theorem yS:type_of%@Int.natCast_mul:=@Int.natCast_mul
theorem yT:type_of%@List.getElem?_set:=@List.getElem?_set
theorem yU:type_of%@Bool.false_eq_true:=@Bool.false_eq_true
theorem yV:type_of%@Int.mul_le_mul_of_nonneg_left:=@Int.mul_le_mul_of_nonneg_left
theorem yW:type_of%@Int.not_lt:=@Int.not_lt
theorem AJ:type_of%@Go.Code.wp_mono:=@Go.Code.wp_mono
theorem AK:type_of%@Classical.choose_spec:=@Classical.choose_spec
theorem AL:type_of%@List.cons_append:=@List.cons_append
theorem AM:type_of%@Nat.add_assoc:=@Nat.add_assoc
theorem AN:type_of%@Option.isSome_iff_exists:=@Option.isSome_iff_exists
theorem AO:type_of%@List.mem_of_mem_take:=@List.mem_of_mem_take
theorem AP:type_of%@Nat.add_zero:=@Nat.add_zero
theorem AQ:type_of%@Int.zero_mul:=@Int.zero_mul
theorem AR:type_of%@Int.le_of_lt:=@Int.le_of_lt
theorem AS:type_of%@Int.eq_ofNat_of_zero_le:=@Int.eq_ofNat_of_zero_le
theorem CZ:type_of%@Array.getElem?_eq_none:=@Array.getElem?_eq_none
theorem C0:type_of%@List.getElem?_append_left:=@List.getElem?_append_left
theorem C1:type_of%@List.getElem?_take:=@List.getElem?_take
theorem C2:type_of%@Nat.succ_mul:=@Nat.succ_mul
theorem C3:type_of%@List.all_eq_true:=@List.all_eq_true
theorem C4:type_of%@List.any_eq_true:=@List.any_eq_true
theorem C5:type_of%@List.getD_eq_getElem?_getD:=@List.getD_eq_getElem?_getD
theorem C6:type_of%@List.pairwise_iff_getElem:=@List.pairwise_iff_getElem
theorem C7:type_of%@Nat.mul_le_mul:=@Nat.mul_le_mul
theorem C8:type_of%@Int.mul_assoc:=@Int.mul_assoc
theorem C9:type_of%@List.set_append_right:=@List.set_append_right
theorem C_:type_of%@Bool.eq_iff_iff:=@Bool.eq_iff_iff
theorem Da:type_of%@List.getElem?_eq_none:=@List.getElem?_eq_none
theorem Db:type_of%@List.length_range:=@List.length_range
theorem Ff:type_of%@Int.ediv_le_self:=@Int.ediv_le_self
theorem Fg:type_of%@List.nil_append:=@List.nil_append
theorem Fh:type_of%@Array.length_toList:=@Array.length_toList
theorem Fi:type_of%@List.mem_or_eq_of_mem_set:=@List.mem_or_eq_of_mem_set
theorem Fj:type_of%@Nat.mul_comm:=@Nat.mul_comm
theorem Fk:type_of%@List.drop_eq_getElem_cons:=@List.drop_eq_getElem_cons
theorem Fl:type_of%@List.sublist_cons_self:=@List.sublist_cons_self
theorem Fm:type_of%@Decidable.not_not:=@Decidable.not_not
theorem Fo:type_of%@Nat.add_sub_cancel:=@Nat.add_sub_cancel
theorem Fp:type_of%@List.mem_of_getElem?:=@List.mem_of_getElem?
theorem Fq:type_of%@Nat.sub_self:=@Nat.sub_self
theorem Fs:type_of%@List.perm_middle:=@List.perm_middle
theorem Ft:type_of%@List.mem_append_left:=@List.mem_append_left
theorem Fu:type_of%@Go.MapKept.run_getObj_map:=@Go.MapKept.run_getObj_map
theorem Fv:type_of%@Bool.not_eq_false':=@Bool.not_eq_false'
theorem Fw:type_of%@Bool.and_assoc:=@Bool.and_assoc
theorem Fx:type_of%@List.reverse_cons:=@List.reverse_cons
theorem Fy:type_of%@Int.le_total:=@Int.le_total
theorem Fz:type_of%@Int.tmod_nonneg:=@Int.tmod_nonneg
theorem FA:type_of%@beq_self_eq_true:=@beq_self_eq_true
theorem IL:type_of%@Array.getElem?_append_left:=@Array.getElem?_append_left
theorem IM:type_of%@List.getElem_mem:=@List.getElem_mem
theorem IN:type_of%@List.mem_filter:=@List.mem_filter
theorem IP:type_of%@Go.Region.noSelect_spec:=@Go.Region.noSelect_spec
theorem IQ:type_of%@Array.getElem?_eq_getElem:=@Array.getElem?_eq_getElem
theorem IS:type_of%@Option.getD_some:=@Option.getD_some
theorem IT:type_of%@List.filter_append:=@List.filter_append
theorem IU:type_of%@List.flatMap_def:=@List.flatMap_def
theorem IV:type_of%@List.map_singleton:=@List.map_singleton
theorem IW:type_of%@Bool.not_eq_true':=@Bool.not_eq_true'
theorem L8:type_of%@Array.getElem?_eq_some_iff:=@Array.getElem?_eq_some_iff
theorem L9:type_of%@Array.getD_eq_getD_getElem?:=@Array.getD_eq_getD_getElem?
theorem L_:type_of%@List.getElem?_cons_zero:=@List.getElem?_cons_zero
theorem Ma:type_of%@List.perm_append_comm:=@List.perm_append_comm
theorem Mb:type_of%@Array.getElem?_setIfInBounds:=@Array.getElem?_setIfInBounds
theorem Mc:type_of%@Int.fdiv_eq_ediv_of_nonneg:=@Int.fdiv_eq_ediv_of_nonneg
namespace Hr
theorem Md{α:Type}:∀(q:Ask α) (w:World),w.drawn≤(w.ask q).2.drawn
 | .done a,w=>ct _
 | .ask au_ range k,w=>by
  unfold World.ask
  simp only
  split
  ·exact Md _ _
  ·exact jg (Nat.le_succ _) (Md (k _) {w with drawn:=w.drawn+1})
theorem acN(w:World)(c:Sys):w.drawn≤(w.sys c).2.drawn:=by
 have h:=Md (Kernel.perform c w.os) w
 unfold World.sys
 split
 ·exact ct _
 ·rename_i r os w' e
  rw [e]at h
  exact h
theorem acO(w:World)(a:Addr)(v:Value):(w.setCell a v).drawn=w.drawn:=rfl
theorem acP(w:World)(a:Addr)(n:Nat):(w.freeze a n).drawn=w.drawn:=by
 unfold World.freeze
 split<;>rfl
theorem acQ{p:Program}{w w':World}{fJ:Addr}{u:TypeId}{k:Addr}{v:Value}{atomic:Bool}{l:List Addr}(h:w.viewStore p fJ u k v atomic= .ok (w',l)):w'.drawn=w.drawn:=by
 unfold World.viewStore at h
 simp only [bind,Except.bind,pure,Except.pure,throw,throwThe,MonadExceptOf.throw]at h
 repeat' split at h
 all_goals first
  |(cases h;rfl)
  |(cases h;done)
  |skip
theorem acR{p:Program}{w w':World}{a:Addr}{v:Value}{atomic:Bool}{l:List Addr}(h:w.farStore p a v atomic= .ok (w',l)):w'.drawn=w.drawn:=by
 unfold World.farStore at h
 split at h
 ·split at h
  ·rename_i r e
   cases h
   exact acQ e
  ·cases h
 ·cases h
theorem pA{α:Type}{p:Program}:∀(s:Sem α) (w w':World) (a:α),s.run p w= .ok a w'→w.drawn≤w'.drawn
 | .pure a,w,w',b,h=>by simp only [Sem.run]at h;cases h;exact ct _
 | .load m a k,w,w',b,h=>by
  simp only [Sem.run]at h
  split at h
  ·exact pA _ _ _ _ h
  ·split at h
   ·exact pA _ _ _ _ h
   ·cases h
 | .store m a v k,w,w',b,h=>by
  cases v<;>(simp only [Sem.run]at h;first|(cases h;done)|skip)<;>
  (split at h
   ·split at h
    ·cases h
    ·exact jg (Nat.le_of_eq (acO w a _).symm) (pA k _ _ _ h)
   ·split at h
    ·rename_i e;exact jg (Nat.le_of_eq (acR e).symm) (pA k _ _ _ h)
    ·cases h)
 | .new o k,w,w',b,h=>by simp only [Sem.run]at h;exact pA (k _) {w with heap:=w.heap.push o} _ _ h
 | .shape r k,w,w',b,h=>by simp only [Sem.run]at h;exact pA _ _ _ _ h
 | .freeze a n k,w,w',b,h=>by simp only [Sem.run]at h;exact jg (Nat.le_of_eq (acP w a n).symm) (pA k _ _ _ h)
 | .frozen a k,w,w',b,h=>by simp only [Sem.run]at h;exact pA _ _ _ _ h
 | .getObj r k,w,w',b,h=>by
  simp only [Sem.run]at h
  split at h
  ·cases h
  ·exact pA _ _ _ _ h
  ·cases h
 | .setObj r o k,w,w',b,h=>by
  simp only [Sem.run]at h
  split at h
  ·cases h
  ·exact pA k {w with heap:=w.heap.setIfInBounds r o} _ _ h
  ·cases h
 | .choose q k,w,w',b,h=>by
  simp only [Sem.run]at h
  split at h
  ·exact pA _ _ _ _ h
  ·exact jg (Nat.le_succ _) (pA (k _) {w with drawn:=w.drawn+1} _ _ h)
 | .sys c k,w,w',b,h=>by simp only [Sem.run]at h;exact jg (acN w c) (pA (k _) _ _ _ h)
 | .program k,w,w',b,h=>by simp only [Sem.run]at h;exact pA _ _ _ _ h
 | .mark _ k,w,w',b,h=>by simp only [Sem.run]at h;exact pA _ _ _ _ h
 | .halt x,w,w',b,h=>by simp only [Sem.run]at h;cases h
end Hr
section
namespace Hr
def cW:List (Nat×Value)→Nat→Option Value
 | [],_=>none
 |(k,v)::r,i=>match Nat.beq k i with
  |true=>some v
  |false=>cW r i
theorem FB(k:Nat)(v:Value)(r:List (Nat×Value)):cW ((k,v)::r) k=some v:=by
 simp [cW]
theorem FC{k i:Nat}(h:k≠i)(v:Value)(r:List (Nat×Value)):cW ((k,v)::r) i=cW r i:=by
 have:Nat.beq k i=false:=by
  cases hb:Nat.beq k i with
  |true=>exact absurd (xf hb) h
  |false=>rfl
 simp [cW,this]
structure aS(X:Nat→Prop)(w w':World):Prop where
 os:w'.os=w.os
 tape:w'.tape=w.tape
 output:w'.output=w.output
 size:w.heap.size≤w'.heap.size
 block:∀k,k<w.heap.size→¬X k→w'.heap[k]?=w.heap[k]?
 drawn:w.drawn≤w'.drawn
def nX:Nat→Prop:=fun _=>False
theorem aS.refl(X:Nat→Prop)(w:World):aS X w w:=⟨rfl,rfl,rfl,ct _,fun _ _ _=>rfl,ct _⟩
theorem aS.step{X Y:Nat→Prop}{a b c:World}(h:aS X a b)(g:aS Y b c)(hY:∀k,k<a.heap.size→¬X k→¬Y k):aS X a c:=
 ⟨g.os.trans h.os,g.tape.trans h.tape,g.output.trans h.output,jg h.size g.size,
  fun k hk hx=>(g.block k (s_ hk h.size) (hY k hk hx)).trans (h.block k hk hx),jg h.drawn g.drawn⟩
theorem aS.acS{w w':World}(h:Below w.heap.size w w')(hd:w.drawn≤w'.drawn):aS nX w w':=⟨h.os,h.tape,h.output,h.size,fun k hk _=>h.block k hk,hd⟩
theorem aS.below{w w':World}(h:aS nX w w'):Below w.heap.size w w':=⟨h.os,h.tape,h.output,h.size,fun k hk=>h.block k hk (fun e=>e)⟩
theorem aS.fa{X:Nat→Prop}{a b c:World}(h:aS X a b)(g:aS nX b c):aS X a c:=h.step g (fun _ _ _ e=>e)
theorem aS.drew{X:Nat→Prop}{a b:World}(h:aS X a b):aS X a {b with drawn:=b.drawn+1}:=⟨h.os,h.tape,h.output,h.size,h.block,jg h.drawn (Nat.le_succ _)⟩
theorem aS.alloc(w:World)(o:Obj):aS nX w (w.alloc o):=aS.acS ((Below.refl _ _).alloc (ct _) o) (ct _)
inductive an where
 |aj (b:Nat) (t:TypeId) (cs:List (Nat×Value))
 |ae (t:TypeId) (size:Nat) (A:Option Addr) (n c:Nat) (ls:List (List Value))
 |any (fJ:Nat→Prop) (Q:World→Prop) (lt:∀w,Q w→∀b,fJ b→b<w.heap.size) (nP:∀w w',Q w→(∀b,fJ b→w'.heap[b]?=w.heap[b]?)→Q w')
def an.at:an→Nat→Prop
 | .aj b _ _=>fun k=>b=k
 | .ae _ _ A _ _ _=>fun k=>A.map (·.block)=some k
 | .any fJ _ _ _=>fJ
def an.holds(w:World):an→Prop
 | .aj b t cs=>∃c:Array Value,w.heap[b]?=some (.cells c t (0,0))∧∀i v,cW cs i=some v→c[i]?=some v
 | .ae t size A n c ls=>w.ownsRow 0 t size (.slice A n c) n ls.flatten∧ls.length=n∧∀x∈ls,x.length=size
 | .any _ Q _ _=>Q w
theorem IX(A:Option Addr)(n c:Nat):(Value.slice A n c).ownBlock=A.map (·.block):=by cases A<;>rfl
theorem q_{w:World}{b:Nat}{o:Obj}(h:w.heap[b]?=some o):b<w.heap.size:=by
 rcases ie b w.heap.size with bN|AT
 ·exact bN
 ·rw [CZ AT]at h;cases h
theorem an.holds.lt{w:World}{r:an}(h:r.holds w):∀b,r.at b→b<w.heap.size:=by
 intro b hb
 cases r with
 |aj b' t cs=>
  obtain⟨c,hc,_⟩:=h
  simp only [an.at]at hb
  subst hb
  exact q_ hc
 |ae t size A n c ls=>exact(World.ownsRow.lt h.1 b (by rw [IX];exact hb)).2
 |any fJ Q lt nP=>exact lt w h b hb
theorem an.holds.nP{w w':World}{r:an}(h:r.holds w)(hk:∀b,r.at b→w'.heap[b]?=w.heap[b]?):r.holds w':=by
 cases r with
 |aj b' t cs=>
  obtain⟨c,hc,h2⟩:=h
  exact⟨c,(hk b' rfl).trans hc,h2⟩
 |ae t size A n c ls=>
  obtain⟨⟨h1,h2⟩,h3⟩:=h
  refine⟨⟨h1,?_⟩,h3⟩
  rcases h2 with h2|⟨g,cap,di,hv,hg,hh,r⟩
  ·exact .inl h2
  ·refine .inr ⟨g,cap,di,hv,hg,(hk g ?_).trans hh,r⟩
   simp only [Value.slice.injEq]at hv
   show A.map (·.block)=some g
   rw [hv.1];rfl
 |any fJ Q lt nP=>exact nP w w' h hk
structure Mem(X:Nat→Prop)(W:World)(rs:List an)(w:World):Prop where
 holds:∀r∈rs,r.holds w
 ae:∀r∈rs,∀b,r.at b→W.heap.size≤b∨X b
 apart:rs.Pairwise fun(r s:an)=>∀b:Nat,r.at b→¬s.at b
theorem Mem.nil{X:Nat→Prop}{W w:World}:Mem X W [] w:=⟨by simp,by simp,.nil⟩
theorem Mem.aI{X:Nat→Prop}{W w:World}{rs dE:List an}(h:Mem X W rs w)(p:rs.Perm dE):Mem X W dE w:=
 ⟨fun r hr=>h.holds r (p.mem_iff.2 hr),fun r hr=>h.ae r (p.mem_iff.2 hr),
  (p.pairwise_iff (fun Me b hy hx=>Me b hx hy)).1 h.apart⟩
theorem Mem.sub{X:Nat→Prop}{W w:World}{rs dE:List an}(h:Mem X W rs w)(p:dE.Sublist rs):Mem X W dE w:=
 ⟨fun r hr=>h.holds r (p.subset hr),fun r hr=>h.ae r (p.subset hr),h.apart.sublist p⟩
theorem Mem.nP{X Y:Nat→Prop}{W w w':World}{rs:List an}(h:Mem X W rs w)(hk:aS Y w w')(hY:∀r∈rs,∀b,r.at b→¬Y b):Mem X W rs w':=
 ⟨fun r hr=>(h.holds r hr).nP fun b hb=>hk.block b ((h.holds r hr).lt b hb) (hY r hr b hb),h.ae,h.apart⟩
theorem Mem.xp{X:Nat→Prop}{W w w':World}{rs:List an}(h:Mem X W rs w)(hk:aS nX w w'):Mem X W rs w':=h.nP hk fun _ _ _ _ e=>e
theorem Mem.lt{X:Nat→Prop}{W w:World}{rs:List an}(h:Mem X W rs w):∀r∈rs,∀b,r.at b→b<w.heap.size:=fun r hr=>(h.holds r hr).lt
theorem Mem.cons{X:Nat→Prop}{W w:World}{r:an}{rs:List an}(h:Mem X W rs w)(h1:r.holds w)(h2:∀b,r.at b→W.heap.size≤b∨X b)
  (h3:∀s∈rs,∀b,r.at b→¬s.at b):Mem X W (r::rs) w:=
 ⟨by simpa using ⟨h1,h.holds⟩,by simpa using ⟨h2,h.ae⟩,.cons h3 h.apart⟩
theorem Mem.head{X:Nat→Prop}{W w:World}{r:an}{rs:List an}(h:Mem X W (r::rs) w):
  r.holds w∧(∀b,r.at b→W.heap.size≤b∨X b)∧(∀s∈rs,∀b,r.at b→¬s.at b)∧Mem X W rs w:=by
 have h3:=List.pairwise_cons.1 h.apart
 exact⟨h.holds r sM,h.ae r sM,h3.1,⟨fun s hs=>h.holds s (by simp [hs]),fun s hs=>h.ae s (by simp [hs]),h3.2⟩⟩
structure St where
 ah:List (Nat×Value)
 mem:List an
structure cK(X:Nat→Prop)(W:World)(n:Nat)(S:St)(a:Act)(w:World):Prop where
 size:a.tmps.size=n
 defers:a.defers= []
 ah:∀k v,cW S.ah k=some v→a.tmps[k]?=some v
 dv:aS X W w
 mem:Mem X W S.mem w
def ev(ah:List (Nat×Value)):Operand→Option Value
 | .tmp t=>cW ah t
 | .const v=>some v
 | .global g=>some (.pointer (some ⟨g,0,none⟩))
 | .func f=>some (.func (.func f) #[] #[])
section
variable{X:Nat→Prop}{W:World}{n:Nat}{S:St}{a:Act}{w:World}
theorem cK.eval(h:cK X W n S a w){x:Operand}{v:Value}(hx:ev S.ah x=some v):a.eval x=v:=by
 cases x with
 |tmp t=>
  have:=h.ah t v hx
  simp [Act.eval,this]
 |const u=>exact Option.some.inj hx
 |global g=>exact Option.some.inj hx
 |func f=>exact Option.some.inj hx
theorem cK.world(h:cK X W n S a w){w':World}(hk:aS nX w w'):cK X W n S a w':=
 ⟨h.size,h.defers,h.ah,h.dv.fa hk,h.mem.xp hk⟩
theorem acT(h:a.tmps.size=n){d:Nat}(hd:Nat.blt d n=true)(v:Value):(a.put (some d) v).tmps[d]?=some v∧∀k,d≠k→(a.put (some d) v).tmps[k]?=a.tmps[k]?:=by
 have hd':d<a.tmps.size:=by rw [h];simpa using hd
 refine⟨by simp [Act.put,hd'],fun k hk=>by simp [Act.put,hk]⟩
theorem cK.put(h:cK X W n S a w){d:Nat}(hd:Nat.blt d n=true)(v:Value):cK X W n ⟨(d,v)::S.ah,S.mem⟩ (a.put (some d) v) w:=by
 obtain⟨h1,h2⟩:=acT h.size hd v
 refine⟨by simp [Act.put,h.size],h.defers,fun k u hk=>?_,h.dv,h.mem⟩
 by_cases e:d=k
 ·subst e
  rw [FB]at hk
  rw [h1,hk]
 ·rw [FC e]at hk
  rw [h2 k e]
  exact h.ah k u hk
theorem cK.Mf(h:cK X W n S a w){w':World}{m:List an}(hk:aS X W w')(hm:Mem X W m w'):cK X W n ⟨S.ah,m⟩ a w':=⟨h.size,h.defers,h.ah,hk,hm⟩
end
inductive K where
 |bn (c:Code)
 |aq (all:Array Oper) (l:List Oper)
 |aj (id:Nat)
 |stop (J:Act→World→Prop)
def post(P:Program)(fn:Func)(R:Ending→World→Prop):List K→Exit→Act→World→Prop
 | []=>bodyPost P fn R
 | .bn c::k=>Exit.then (c.wp P (post P fn R k)) (post P fn R k)
 | .aq all l::k=>Exit.then (wpList P all (post P fn R k) l) (post P fn R k)
 | .aj id::k=>Exit.inBlock id (post P fn R k)
 | .stop J::k=>Exit.then J (post P fn R k)
def tg(id:Nat):List K→Option (List K)
 | []=>none
 | .aj xq::k=>match Nat.beq id xq with
  |true=>some k
  |false=>tg id k
 | .bn _::k=>tg id k
 | .aq _ _::k=>tg id k
 | .stop _::k=>tg id k
theorem FD{P:Program}{fn:Func}{R:Ending→World→Prop}{id:Nat}{a:Act}{w:World}:∀{k k':List K},tg id k=some k'→post P fn R k' .normal a w→post P fn R k (.exit id) a w
 | [],_,h,_=>by simp [tg]at h
 | .aj xq::k,k',h,hp=>by
  simp only [tg]at h
  simp only [post,Exit.inBlock]
  by_cases e:id=xq
  ·subst e
   rw [show Nat.beq id id=true from by simp]at h
   simp only [Option.some.injEq]at h
   subst h
   simpa using hp
  ·have hb:Nat.beq id xq=false:=by
    cases hb:Nat.beq id xq with
    |true=>exact absurd (xf hb) e
    |false=>rfl
   rw [hb]at h
   rw [aB e]
   exact FD h hp
 | .bn _::k,k',h,hp=>FD (k:=k) h hp
 | .aq _ _::k,k',h,hp=>FD (k:=k) h hp
 | .stop _::k,k',h,hp=>FD (k:=k) h hp
theorem FE{P:Program}{fn:Func}{R:Ending→World→Prop}{a:Act}{w:World}(h:bodyPost P fn R .ret a w):∀(k:List K),post P fn R k .ret a w
 | []=>h
 | .aj _::k=>FE h k
 | .bn _::k=>FE h k
 | .aq _ _::k=>FE h k
 | .stop _::k=>FE h k
def aW(P:Program)(fn:Func)(R:Ending→World→Prop)(X:Nat→Prop)(W:World)(n:Nat)(k:List K)(S:St):Prop:=
 ∀a w,cK X W n S a w→post P fn R k .normal a w
section
variable{P:Program}{fn:Func}{R:Ending→World→Prop}{X:Nat→Prop}{W:World}{n:Nat}{k:List K}{S:St}
theorem SV{x y:Code}(h:aW P fn R X W n (.bn x:: .bn y::k) S):aW P fn R X W n (.bn (.seq x y)::k) S:=
 fun a w hs=>wp_seq (h a w hs)
theorem acV(h:aW P fn R X W n k S):aW P fn R X W n (.bn .skip::k) S:=fun a w hs=>wp_skip (h a w hs)
theorem acW{id:Nat}{c:Code}(h:aW P fn R X W n (.bn c:: .aj id::k) S):aW P fn R X W n (.bn (.block id c)::k) S:=
 fun a w hs=>wp_block (h a w hs)
theorem acX{id:Nat}(h:aW P fn R X W n k S):aW P fn R X W n (.aj id::k) S:=fun a w hs=>h a w hs
theorem acY{id:Nat}{k':List K}(hp:tg id k=some k')(h:aW P fn R X W n k' S):aW P fn R X W n (.bn (.exit id)::k) S:=
 fun a w hs=>wp_exit (FD hp (h a w hs))
theorem SX(h:aW P fn R X W n [] S):aW P fn R X W n (.bn .ret::k) S:=
 fun a w hs=>wp_ret (FE (h a w hs) k)
theorem acZ{c:Operand}{x y:Code}(hc:ev S.ah c=some (.bool true))(h:aW P fn R X W n (.bn x::k) S):aW P fn R X W n (.bn (.cond c x y)::k) S:=
 fun a w hs=>wp_cond_true (hs.eval hc) (h a w hs)
theorem ac0{c:Operand}{x y:Code}(hc:ev S.ah c=some (.bool false))(h:aW P fn R X W n (.bn y::k) S):aW P fn R X W n (.bn (.cond c x y)::k) S:=
 fun a w hs=>wp_cond_false (hs.eval hc) (h a w hs)
theorem SY{c:Operand}{x y:Code}{t:Bool}(hc:ev S.ah c=some (.bool t))(h1:t=true→aW P fn R X W n (.bn x::k) S)(h2:t=false→aW P fn R X W n (.bn y::k) S):
  aW P fn R X W n (.bn (.cond c x y)::k) S:=
 fun a w hs=>wp_cond_split (hs.eval hc) (fun e=>h1 e a w hs) (fun e=>h2 e a w hs)
theorem l7{c:Operand}{x y:Code}{t:Bool}(hc:ev S.ah c=some (.bool t))(ht:t=true)(h:aW P fn R X W n (.bn x::k) S):aW P fn R X W n (.bn (.cond c x y)::k) S:=by
 subst ht;exact acZ hc h
theorem dM{c:Operand}{x y:Code}{t:Bool}(hc:ev S.ah c=some (.bool t))(ht:t=false)(h:aW P fn R X W n (.bn y::k) S):aW P fn R X W n (.bn (.cond c x y)::k) S:=by
 subst ht;exact ac0 hc h
theorem ac1(t:Tmp){c:Bool}(SZ:cW S.ah t=some (.bool c))(h1:c=true→aW P fn R X W n k S)(h2:c=false→aW P fn R X W n k S):aW P fn R X W n k S:=by
 cases c
 ·exact h2 rfl
 ·exact h1 rfl
theorem S0{id:Nat}{l:List Oper}(h:aW P fn R X W n (.aq l.toArray l::k) S):aW P fn R X W n (.bn (.region id l.toArray false)::k) S:=
 fun a w hs=>wp_region_lit (h a w hs)
theorem IY{all:Array Oper}(h:aW P fn R X W n k S):aW P fn R X W n (.aq all []::k) S:=fun a w hs=>h a w hs
def re(X:Nat→Prop)(W:World)(n:Nat)(S S':St):Prop:=∀a w,cK X W n S a w→cK X W n S' a w
theorem cG{S':St}(hs:re X W n S S')(h:aW P fn R X W n k S'):aW P fn R X W n k S:=fun a w h'=>h a w (hs a w h')
def vJ(X:Nat→Prop)(W:World)(n:Nat){ι:Type}(φ:ι→Prop)(dN:ι→St)(a:Act)(w:World):Prop:=∃i,φ i∧cK X W n (dN i) a w
theorem kn{ι:Type}{φ:ι→Prop}{dN:ι→St}(i:ι)(hi:φ i)(hs:re X W n S (dN i)):aW P fn R X W n (.stop (vJ X W n φ dN)::k) S:=
 fun a w h=>⟨i,hi,hs a w h⟩
theorem AU{ι:Type}{c:Code}(φ:ι→Prop)(dN:ι→St)(h:aW P fn R X W n (.bn c:: .stop (vJ X W n φ dN)::k) S)(h':∀i,φ i→aW P fn R X W n k (dN i)):
  aW P fn R X W n (.bn c::k) S:=fun a w hs=>by
 refine AJ ?_ (h a w hs)
 intro e a' w' q
 cases e with
 |normal=>obtain⟨i,hi,cu⟩:=q;exact h' i hi a' w' cu
 |_=>exact q
def lJ(X:Nat→Prop)(W:World)(n:Nat){ι:Type}(φ:ι→Prop)(dN:ι→St)(μ:ι→Nat)(m:Nat)(a:Act)(w:World):Prop:=∃i,φ i∧μ i<m∧cK X W n (dN i) a w
theorem AV{ι:Type}{φ:ι→Prop}{dN:ι→St}{μ:ι→Nat}{m:Nat}(i:ι)(hi:φ i)(hm:μ i<m)(hs:re X W n S (dN i)):aW P fn R X W n (.stop (lJ X W n φ dN μ m)::k) S:=
 fun a w h=>⟨i,hi,hm,hs a w h⟩
theorem th{p:Nat→Prop}:∀(b m:Nat),m≤b→p m→∃m,p m∧∀k,p k→m≤k
 |0,m,hm,h=>⟨m,h,fun k _=>oM⟩
 |b+1,m,hm,h=>by
  by_cases hk:∃k,k≤b∧p k
  ·obtain⟨k,Mg,hp⟩:=hk
   exact th b k Mg hp
  ·refine⟨m,h,fun k hp=>?_⟩
   rcases ie b k with h1|h1
   ·omega
   ·exact absurd ⟨k,h1,hp⟩ hk
open Classical in
theorem np{ι:Type}{c:Code}(φ:ι→Prop)(dN:ι→St)(μ:ι→Nat)(i0:ι)(h0:φ i0)(fm:re X W n S (dN i0))
  (hr:∀i,φ i→aW P fn R X W n (.bn c:: .stop (lJ X W n φ dN μ (μ i))::k) (dN i)):aW P fn R X W n (.bn (.loop c)::k) S:=by
 intro a w hs
 have hl:∀a w,(∃m i,φ i∧μ i=m∧cK X W n (dN i) a w)→∃m,(∃i,φ i∧μ i=m∧cK X W n (dN i) a w)∧∀k,(∃i,φ i∧μ i=k∧cK X W n (dN i) a w)→m≤k:=
  fun a w ⟨m,h⟩=>th m m (ct _) h
 refine wp_loop (fun a w=>∃m i,φ i∧μ i=m∧cK X W n (dN i) a w)
  (fun a w=>if h:∃m i,φ i∧μ i=m∧cK X W n (dN i) a w then Classical.choose (hl a w h)else 0) ⟨_,i0,h0,rfl,fm a w hs⟩ ?_
 intro a w hI
 rw [dif_pos hI]
 obtain⟨⟨i,hi,hm,cu⟩,_⟩:=AK (hl a w hI)
 refine AJ ?_ (hr i hi a w cu)
 intro e a' w' q
 cases e with
 |normal=>
  obtain⟨i',iJ,bN,yX⟩:=q
  have uj:∃m i,φ i∧μ i=m∧cK X W n (dN i) a' w':=⟨_,i',iJ,rfl,yX⟩
  refine⟨uj,?_⟩
  rw [dif_pos uj]
  have:=(AK (hl a' w' uj)).2 (μ i') ⟨i',iJ,rfl,yX⟩
  omega
 |_=>exact q
end
inductive cY(all:Array Oper)(ah:List (Nat×Value))(o:Oper):Bool→Prop where
 |none (h:o.guard=Option.none):cY all ah o true
 |guard {j:Nat} {b c:Bool} {t:Tmp} (h:o.guard=some (j,b)) (hd:(all[j]?).bind (·.dst)=some t) (ht:cW ah t=some (.bool c)):cY all ah o (c==b)
 |off {j:Nat} {b:Bool} {t:Tmp} (h:o.guard=some (j,b)) (hd:(all[j]?).bind (·.dst)=some t) (ht:cW ah t=some undef):cY all ah o false
theorem cY.on{all:Array Oper}{ah:List (Nat×Value)}{o:Oper}{j:Nat}{b c:Bool}{t:Tmp}(h:o.guard=some (j,b))(hd:(all[j]?).bind (·.dst)=some t)(ht:cW ah t=some (.bool c))(hc:c=b):cY all ah o true:=by
 subst hc
 have:=cY.guard h hd ht
 cases c<;>exact this
theorem cY.no{all:Array Oper}{ah:List (Nat×Value)}{o:Oper}{j:Nat}{b c:Bool}{t:Tmp}(h:o.guard=some (j,b))(hd:(all[j]?).bind (·.dst)=some t)(ht:cW ah t=some (.bool c))(hc:c= !b):cY all ah o false:=by
 subst hc
 have:=cY.guard h hd ht
 cases b<;>exact this
section
variable{X:Nat→Prop}{W:World}{n:Nat}{S:St}{a:Act}{w:World}
theorem cY.eq{all:Array Oper}{o:Oper}{c:Bool}(h:cY all S.ah o c)(hs:cK X W n S a w):Region.wanted o (yielded all a.tmps)=c:=by
 cases h with
 |none h=>simp [Region.wanted,h]
 | @guard j b c t h hd ht=>
  have:=hs.ah t _ ht
  have hy:yielded all a.tmps j=some c:=by simp only [yielded,hd,Option.bind_some,this]
  simp only [Region.wanted,h,hy]
  cases c<;>cases b<;>rfl
 | @off j b t h hd ht=>
  have:=hs.ah t _ ht
  have hy:yielded all a.tmps j=Option.none:=by simp only [yielded,hd,Option.bind_some,this,undef]
  simp only [Region.wanted,h,hy]
  cases b<;>rfl
end
def Q1(P:Program)(X:Nat→Prop)(W:World)(n:Nat)(S:St)(o:Oper)(v:Value):Prop:=
 ∀a w,cK X W n S a w→(execOp a.eval o).run P w= .ok (.value v) w∨((execOp a.eval o).run P w= .ok .skip w∧v=undef)∨
  ∃f args,(execOp a.eval o).run P w= .ok (.enter f args) w∧Calls P f args w fun e w'=>e= .returned v∧aS nX w w'
def H1(P:Program)(X:Nat→Prop)(W:World)(n:Nat)(S:St)(o:Oper){ι:Type}(φ:ι→Prop)(next:ι→St):Prop:=
 ∀a w,cK X W n S a w→∀(k:Act→World→Prop) (Q:Exit→Act→World→Prop),(∀i a' w',φ i→cK X W n (next i) a' w'→k a' w')→o.wp P a w k Q
theorem Q1.wp{P:Program}{X:Nat→Prop}{W:World}{n:Nat}{S:St}{o:Oper}{v:Value}(h:Q1 P X W n S o v){a:Act}{w:World}(hs:cK X W n S a w)
  {k:Act→World→Prop}{Q:Exit→Act→World→Prop}(hk:∀w',aS nX w w'→k (a.put o.dst v) w'):o.wp P a w k Q:=by
 unfold Oper.wp
 rcases h a w hs with h1|⟨h1,h2⟩|⟨f,args,h1,hc⟩
 ·rw [h1];exact hk _ (aS.refl _ _)
 ·rw [h1];subst h2;exact hk _ (aS.refl _ _)
 ·rw [h1];exact hc.mono fun e w' ⟨he,hw⟩=>by subst he;exact hk _ hw
section
variable{P:Program}{fn:Func}{R:Ending→World→Prop}{X:Nat→Prop}{W:World}{n:Nat}{k:List K}{S:St}{ah:List (Nat×Value)}{mem:List an}{all:Array Oper}{bu:List Oper}{o:Oper}
theorem dm{v:Value}{d:Nat}(hw:cY all ah o true)(hd:o.dst=some d)(hdn:Nat.blt d n=true)(h:Q1 P X W n ⟨ah,mem⟩ o v)
  (hk:aW P fn R X W n (.aq all bu::k) ⟨(d,v)::ah,mem⟩):aW P fn R X W n (.aq all (o::bu)::k) ⟨ah,mem⟩:=by
 intro a w hs
 refine wpList_step fun K hK=>?_
 rw [aH (hw.eq hs)]
 refine h.wp hs fun w' kK=>hK _ _ ?_
 rw [hd]
 exact hk _ _ ((hs.world kK).put hdn v)
theorem ti{d:Nat}(hw:cY all ah o false)(hd:o.dst=some d)(hdn:Nat.blt d n=true)
  (hk:aW P fn R X W n (.aq all bu::k) ⟨(d,undef)::ah,mem⟩):aW P fn R X W n (.aq all (o::bu)::k) ⟨ah,mem⟩:=by
 intro a w hs
 refine wpList_step fun K hK=>?_
 rw [aB (by rw [hw.eq hs];simp)]
 rw [hd]
 exact hK _ _ (hk _ _ (hs.put hdn undef))
theorem AW{ι:Type}{φ:ι→Prop}{next:ι→St}(hw:cY all ah o true)(h:H1 P X W n ⟨ah,mem⟩ o φ next)
  (hk:∀i,φ i→aW P fn R X W n (.aq all bu::k) (next i)):aW P fn R X W n (.aq all (o::bu)::k) ⟨ah,mem⟩:=by
 intro a w hs
 refine wpList_step fun K hK=>?_
 rw [aH (hw.eq hs)]
 exact h a w hs K _ fun i a' w' hi cR=>hK _ _ (hk i hi _ _ cR)
theorem H1.dP{v:Value}{d:Nat}(hd:o.dst=some d)(hdn:Nat.blt d n=true)(h:Q1 P X W n ⟨ah,mem⟩ o v):H1 P X W n ⟨ah,mem⟩ o (fun _:Unit=>True) (fun _=>⟨(d,v)::ah,mem⟩):=by
 intro a w hs k Q hk
 refine h.wp hs fun w' kK=>?_
 rw [hd]
 exact hk () _ _ trivial ((hs.world kK).put hdn v)
end
def bk(W:World)(X:Nat→Prop)(Φ:Value→List an→Prop):Ending→World→Prop:=
 fun e w'=>∃v m,Φ v m∧e= .returned v∧aS X W w'∧Mem X W m w'
def aJ(W:World)(v:Value):Ending→World→Prop:=fun e w'=>e= .returned v∧aS nX W w'
section
variable{P:Program}{fn:Func}{X:Nat→Prop}{W:World}{n:Nat}{S:St}
theorem aJ.S1{f:FuncId}{args:Array Value}{v:Value}(h:Calls P f args W (bk W nX fun u _=>u=v)):Calls P f args W (aJ W v):=
 h.mono fun _ _ ⟨_,_,e,he,hk,_⟩=>⟨e▸he,hk⟩
theorem enter{f:FuncId}{args:Array Value}{R:Ending→World→Prop}{c:Code}{S:St}(hf:P.funcs[f]?=some fn)(hn:fn.ntmps=n)(hb:fn.body=some c)
  (hz:Nat.ble args.size n=true)(he:∀k v,cW S.ah k=some v→args[k]?=some v)(hm:Mem X W S.mem W)(h:aW P fn R X W n [.bn c] S):Calls P f args W R:=by
 refine calls_of_wp hf hb (h _ W ?_)
 have sk:args.size≤n:=by simpa using hz
 refine⟨by simp [hn];omega,rfl,fun k v hk=>?_,aS.refl _ _,hm⟩
 have:=he k v hk
 have bN:=(L8.1 this).1
 show(args++_)[k]?=_
 rw [IL bN,this]
theorem aw{Φ:Value→List an→Prop}{t:Tmp}{v:Value}(hr:fn.results= #[.tmp t])(hv:cW S.ah t=some v)(hΦ:Φ v S.mem):aW P fn (bk W X Φ) X W n [] S:=by
 intro a w hs
 refine⟨hs.defers,v,?_,v,S.mem,hΦ,rfl,hs.dv,hs.mem⟩
 rw [results_tmp hr]
 simp [hs.ah t v hv]
theorem c6{Φ:Value→List an→Prop}{t u:Tmp}{v v':Value}(hr:fn.results= #[.tmp t,.tmp u])(hv:cW S.ah t=some v)(sm:cW S.ah u=some v')(hΦ:Φ (.tuple #[v,v']) S.mem):aW P fn (bk W X Φ) X W n [] S:=by
 intro a w hs
 refine⟨hs.defers,.tuple #[v,v'],?_,_,S.mem,hΦ,rfl,hs.dv,hs.mem⟩
 rw [results_tmp2 hr]
 simp [hs.ah t v hv,hs.ah u v' sm]
theorem Dc{Φ:Value→List an→Prop}{t u x:Tmp}{v v' IZ:Value}(hr:fn.results= #[.tmp t,.tmp u,.tmp x])(hv:cW S.ah t=some v)(sm:cW S.ah u=some v')(ac2:cW S.ah x=some IZ)
  (hΦ:Φ (.tuple #[v,v',IZ]) S.mem):aW P fn (bk W X Φ) X W n [] S:=by
 intro a w hs
 refine⟨hs.defers,.tuple #[v,v',IZ],?_,_,S.mem,hΦ,rfl,hs.dv,hs.mem⟩
 simp [results,hr,hs.ah t v hv,hs.ah u v' sm,hs.ah x IZ ac2]
theorem bM{Φ:Value→List an→Prop}(hr:fn.results= #[])(hΦ:Φ (.tuple #[]) S.mem):aW P fn (bk W X Φ) X W n [] S:=by
 intro a w hs
 exact⟨hs.defers,.tuple #[],results_none hr _ _ _,_,S.mem,hΦ,rfl,hs.dv,hs.mem⟩
def dF(ah I0:List (Nat×Value)):Prop:=∀k v,cW I0 k=some v→cW ah k=some v
theorem dF.nil{ah:List (Nat×Value)}:dF ah []:=fun k v h=>by simp [cW]at h
theorem dF.refl{ah:List (Nat×Value)}:dF ah ah:=fun _ _ h=>h
theorem dF.cons{ah r:List (Nat×Value)}{s:Nat}{v:Value}(h:cW ah s=some v)(t:dF ah r):dF ah ((s,v)::r):=by
 intro k u hk
 by_cases e:s=k
 ·subst e;rw [FB]at hk;rw [h,hk]
 ·rw [FC e]at hk;exact t k u hk
theorem dF.az{ah r:List (Nat×Value)}{s:Nat}{v v':Value}(h:cW ah s=some v)(e:v=v')(t:dF ah r):dF ah ((s,v')::r):=by
 subst e;exact dF.cons h t
inductive ag:List an→an→List an→Prop where
 |ak {r:an} {l:List an}:ag (r::l) r l
 |ai {r s:an} {l l':List an}:ag l r l'→ag (s::l) r (s::l')
theorem ag.aI{l l':List an}{r:an}(h:ag l r l'):l.Perm (r::l'):=by
 induction h with
 |ak=>exact List.Perm.refl _
 |ai _ ih=>exact(ih.cons _).trans (List.Perm.swap _ _ _)
def cm(r r':an):Prop:=(∀b,r'.at b→r.at b)∧∀w,r.holds w→r'.holds w
theorem cm.refl{r:an}:cm r r:=⟨fun _ h=>h,fun _ h=>h⟩
theorem cm.aj{b:Nat}{t:TypeId}{cs xr:List (Nat×Value)}(h:dF cs xr):cm (.aj b t cs) (.aj b t xr):=
 ⟨fun _ h=>h,fun _ ⟨c,h1,h3⟩=>⟨c,h1,fun i v hi=>h3 i v (h i v hi)⟩⟩
theorem cm.ae{t:TypeId}{size:Nat}{A A':Option Addr}{m m' c c':Nat}{xs cw:List (List Value)}(hA:A=A')(hm:m=m')(hc:c=c')(hx:xs=cw):cm (.ae t size A m c xs) (.ae t size A' m' c' cw):=by
 subst hA;subst hm;subst hc;subst hx;exact .refl
def ax(m m':List an):Prop:=∀X W w,Mem X W m w→Mem X W m' w∧∀r'∈m',∀b,r'.at b→∃r∈m,r.at b
theorem ax.nil{m:List an}:ax m []:=fun _ _ _ _=>⟨Mem.nil,by simp⟩
theorem ax.refl{m:List an}:ax m m:=fun _ _ _ h=>⟨h,fun r hr _ hb=>⟨r,hr,hb⟩⟩
theorem ax.aI{m m':List an}(h:m.Perm m'):ax m m':=fun _ _ _ h'=>⟨h'.aI h,fun r hr _ hb=>⟨r,h.mem_iff.2 hr,hb⟩⟩
theorem ax.sub{m m':List an}(h:m'.Sublist m):ax m m':=fun _ _ _ h'=>⟨h'.sub h,fun r hr _ hb=>⟨r,h.subset hr,hb⟩⟩
theorem ax.cons{m l l':List an}{r r':an}(hs:ag m r l)(hr:cm r r')(hl:ax l l'):ax m (r'::l'):=by
 intro X W w h
 obtain⟨h1,h2,h3,h4⟩:=(h.aI hs.aI).head
 obtain⟨g1,g2⟩:=hl X W w h4
 refine⟨g1.cons (hr.2 w h1) (fun b hb=>h2 b (hr.1 b hb)) (fun s cR b hb gv=>?_),fun s cR b hb=>?_⟩
 ·obtain⟨u,hu,um⟩:=g2 s cR b gv
  exact h3 u hu b (hr.1 b hb) um
 ·rcases gu.1 cR with rfl|cR
  ·exact⟨r,hs.aI.mem_iff.2 sM,hr.1 b hb⟩
  ·obtain⟨u,hu,um⟩:=g2 s cR b hb
   exact⟨u,hs.aI.mem_iff.2 (by simp [hu]),um⟩
theorem ax.trans{a b c:List an}(h:ax a b)(h':ax b c):ax a c:=fun X W w x=>by
 obtain⟨g1,g2⟩:=h X W w x
 obtain⟨k1,k2⟩:=h' X W w g1
 refine⟨k1,fun r hr b hb=>?_⟩
 obtain⟨u,hu,um⟩:=k2 r hr b hb
 exact g2 u hu b um
def an.aZ(rs:List an):an:=
 .any (fun b=>∃r∈rs,r.at b) (fun w=>(∀r∈rs,r.holds w)∧rs.Pairwise fun(r s:an)=>∀b:Nat,r.at b→¬s.at b)
  (fun w h b hb=>by obtain⟨r,hr,hb⟩:=hb;exact(h.1 r hr).lt b hb)
  (fun w w' h hk=>⟨fun r hr=>(h.1 r hr).nP fun b hb=>hk b ⟨r,hr,hb⟩,h.2⟩)
theorem ax.xt{rs l:List an}:ax (.aZ rs::l) (rs++l):=by
 intro X W w h
 obtain⟨h1,h2,h3,h4⟩:=h.head
 refine⟨⟨fun r hr=>?_,fun r hr b hb=>?_,pq.2 ⟨h1.2,h4.apart,fun r hr s hs b hb gv=>h3 s hs b ⟨r,hr,hb⟩ gv⟩⟩,fun r hr b hb=>?_⟩
 ·rcases dK.1 hr with h|h
  ·exact h1.1 r h
  ·exact h4.holds r h
 ·rcases dK.1 hr with h|h
  ·exact h2 b ⟨r,h,hb⟩
  ·exact h4.ae r h b hb
 ·rcases dK.1 hr with h|h
  ·exact⟨.aZ rs,by simp,⟨r,h,hb⟩⟩
  ·exact⟨r,by simp [h],hb⟩
theorem ax.close_{rs l:List an}:ax (rs++l) (.aZ rs::l):=by
 intro X W w h
 have yY:=pq.1 h.apart
 refine⟨Mem.cons (r:= .aZ rs) ⟨fun r hr=>h.holds r (by simp [hr]),fun r hr=>h.ae r (by simp [hr]),yY.2.1⟩ ⟨fun r hr=>h.holds r (by simp [hr]),yY.1⟩ ?_ ?_,fun r hr b hb=>?_⟩
 ·rintro b ⟨r,hr,hb⟩;exact h.ae r (by simp [hr]) b hb
 ·rintro s hs b ⟨r,hr,hb⟩ gv;exact yY.2.2 r hr s hs b hb gv
 ·rcases gu.1 hr with rfl|h'
  ·obtain⟨u,hu,um⟩:=hb;exact⟨u,by simp [hu],um⟩
  ·exact⟨r,by simp [h'],hb⟩
theorem ax.k8{r:an}{rs l:List an}:ax (r:: .aZ rs::l) (.aZ (r::rs)::l):=
 (ax.cons .ak .refl (ax.xt)).trans (ax.close_ (rs:=r::rs))
theorem ar{ah I0:List (Nat×Value)}{mem xu:List an}(he:dF ah I0)(hm:ax mem xu):re X W n ⟨ah,mem⟩ ⟨I0,xu⟩:=
 fun _ _ h=>⟨h.size,h.defers,fun k v hk=>h.ah k v (he k v hk),h.dv,(hm _ _ _ h.mem).1⟩
end
end Hr
end
namespace Hr
def bB:Nat→List Value→List (Nat×Value)
 |_, []=> []
 |i,v::r=>(i,v)::bB (i+1) r
def dW:Value→List Value
 | .agg c=>c.toList
 | .tuple _=> []
 |v=> [v]
theorem FF:∀(l:List Value) (i k:Nat) (v:Value),cW (bB i l) k=some v→i≤k∧l[k-i]?=some v
 | [],i,k,v,h=>by simp [bB,cW]at h
 |x::l,i,k,v,h=>by
  by_cases e:i=k
  ·subst e
   simp only [bB]at h
   rw [FB]at h
   simpa using h
  ·simp only [bB]at h
   rw [FC e]at h
   obtain⟨h1,h2⟩:=FF l (i+1) k v h
   refine⟨oM,?_⟩
   rw [show k-i=(k-(i+1))+1 from oM,List.getElem?_cons_succ]
   exact h2
theorem ac3(l r:List (Nat×Value))(k:Nat):cW (l++r) k=(cW l k).or (cW r k):=by
 induction l with
 |nil=>simp [cW]
 |cons p l ih=>
  simp only [AL,cW]
  split
  ·rfl
  ·exact ih
inductive mP(cs:List (Nat×Value)):Nat→List Value→Prop where
 |nil {i:Nat}:mP cs i []
 |cons {i:Nat} {v:Value} {vs:List Value} (h:cW cs i=some v) (t:mP cs (i+1) vs):mP cs i (v::vs)
theorem mP.get{cs:List (Nat×Value)}{i:Nat}{vs:List Value}(h:mP cs i vs):∀j v,vs[j]?=some v→cW cs (i+j)=some v:=by
 induction h with
 |nil=>intro j v hj;simp at hj
 | @cons i v vs h t ih=>
  intro j u hj
  cases j with
  |zero=>simp at hj;subst hj;simpa using h
  |succ j=>
   have:=ih j u (by simpa using hj)
   rwa [show i+(j+1)=i+1+j from oM]
def Sz(P:Program)(e:TypeId)(s:Nat):Prop:=∃i,P.info? e=some i∧i.size=s
theorem Sz.of{P:Program}{e:TypeId}{s:Nat}(h:(P.info? e).map (·.size)=some s):Sz P e s:=by
 cases hi:P.info? e with
 |none=>rw [hi]at h;cases h
 |some i=>rw [hi]at h;exact⟨i,hi,by simpa using h⟩
theorem Sz.run{P:Program}{e:TypeId}{s:Nat}(h:Sz P e s)(w:World):(sizeOf e).run P w= .ok s w:=by
 obtain⟨i,hi,rfl⟩:=h
 simp [sizeOf,typeInfo,hi]
def yZ(P:Program)(e:TypeId)(zs:List Value)(s b:Nat):Prop:=∃i z,P.info? e=some i∧i.zero=some z∧z.cells.toList=zs∧i.size=s∧i.bytes=b
theorem yZ.of{P:Program}{e:TypeId}{zs:List Value}{s b:Nat}(h:(P.info? e).map (fun i=>(i.zero.map (·.cells.toList),i.size,i.bytes))=some (some zs,s,b)):yZ P e zs s b:=by
 cases hi:P.info? e with
 |none=>rw [hi]at h;cases h
 |some i=>
  rw [hi]at h
  simp only [ua,Option.some.injEq,Prod.mk.injEq,Option.map_eq_some_iff]at h
  obtain⟨⟨z,hz,pB⟩,h2,h3⟩:=h
  exact⟨i,z,hi,hz,pB,h2,h3⟩
def pC(P:Program)(t:TypeId)(s:Nat):Prop:=(∀w,(isAgg t).run P w= .ok true w)∧Sz P t s
def k9(P:Program)(t:TypeId):Prop:=(∀w,(isAgg t).run P w= .ok false w)∧Sz P t 1
def Rd(w:World)(A:Option Addr)(size:Nat)(ls:List (List Value)):Prop:=
 ls= []∨∃ad,A=some ad∧∀i c,ls[i]?=some c→∀j v,c[j]?=some v→w.cell? (ad.add (i*size+j))=some v
def vK(X:Nat→Prop)(A:Option Addr):Prop:=∀ad,A=some ad→¬X ad.block
theorem vK.no{A:Option Addr}:vK nX A:=fun _ _ h=>h
theorem S2{w:World}{a:Addr}{v:Value}(h:w.cell? a=some v):a.block<w.heap.size:=by
 unfold World.cell? at h
 split at h
 ·rename_i hh;exact q_ hh
 ·cases h
theorem FG(a:Addr)(n:Nat):(a.add n).block=a.block:=by unfold Addr.add;split<;>rfl
theorem AX(a:Addr)(i j:Nat):(a.add i).add j=a.add (i+j):=by
 unfold Addr.add
 by_cases hi:i=0<;>by_cases hj:j=0<;>simp [hi,hj,AM]
theorem Rd.dv{X:Nat→Prop}{w w':World}{A:Option Addr}{size:Nat}{ls:List (List Value)}(h:Rd w A size ls)(hk:aS X w w')(hX:vK X A):Rd w' A size ls:=by
 rcases h with h|⟨ad,rfl,h⟩
 ·exact .inl h
 ·refine .inr ⟨ad,rfl,fun i c hi j v hj=>?_⟩
  have h1:=h i c hi j v hj
  have h2:=S2 h1
  rw [FG]at h2
  rw [←h1]
  exact World.cell?_of_block (by rw [FG];exact hk.block _ h2 (hX ad rfl))
theorem Rd.aC{w w':World}{A:Option Addr}{size:Nat}{ls:List (List Value)}(h:Rd w A size ls)(hk:aS nX w w'):Rd w' A size ls:=h.dv hk vK.no
theorem I1:∀(ls:List (List Value)) (size:Nat),(∀x∈ls,x.length=size)→∀i c,ls[i]?=some c→∀j v,c[j]?=some v→ls.flatten[i*size+j]?=some v
 | [],_,_,i,c,hi,_,_,_=>by simp at hi
 |x::ls,size,hl,i,c,hi,j,v,hj=>by
  have hx:=hl x sM
  cases i with
  |zero=>
   simp at hi;subst hi
   have xv:j<x.length:=(xg.1 hj).1
   rw [Nat.zero_mul,ub,xh,C0 xv,hj]
  |succ i=>
   have:=I1 ls size (fun y hy=>hl y (by simp [hy])) i c (by simpa using hi) j v hj
   rw [xh,xi (by rw [hx,vD];omega)]
   rw [show(i+1)*size+j-x.length=i*size+j from by rw [hx,vD];omega]
   exact this
theorem b_{w:World}{t:TypeId}{size:Nat}{A:Option Addr}{n c:Nat}{ls:List (List Value)}(h:(an.ae t size A n c ls).holds w):Rd w A size ls:=by
 obtain⟨h1,h2,h3⟩:=h
 rcases h1.2 with⟨hv,hn⟩|⟨g,cap,di,hv,_⟩
 ·subst hn;exact .inl (List.eq_nil_of_length_eq_zero h2)
 ·simp only [Value.slice.injEq]at hv
  refine .inr ⟨⟨g,0,none⟩,hv.1,fun i c hi j v hj=>?_⟩
  exact World.ownsRow.cells h1 (by rw [IX,hv.1];rfl) _ _ (I1 ls size h3 i c hi j v hj)
theorem ag.holds{X:Nat→Prop}{W w:World}{rs l:List an}{r:an}(h:ag rs r l)(hm:Mem X W rs w):r.holds w:=hm.holds _ (h.aI.mem_iff.2 sM)
def iT(X:Nat→Prop)(W:World)(S:St)(A:Option Addr)(size:Nat)(ls:List (List Value)):Prop:=∀w,aS X W w→Mem X W S.mem w→Rd w A size ls
def bJ(A:Option Addr):Addr:=A.getD ⟨0,0,none⟩
section
variable{P:Program}{X:Nat→Prop}{W:World}{n:Nat}{S:St}{o:Oper}
theorem iT.ao{A:Option Addr}{size:Nat}{ls:List (List Value)}(h:Rd W A size ls)(hX:vK X A):iT X W S A size ls:=fun _ hk _=>h.dv hk hX
theorem iT.ae{A:Option Addr}{size:Nat}{ls:List (List Value)}{t:TypeId}{m c:Nat}{l:List an}(h:ag S.mem (.ae t size A m c ls) l):iT X W S A size ls:=
 fun _ _ hm=>b_ (h.holds hm)
theorem iT.mQ{ah:List (Nat×Value)}{mem:List an}{A:Option Addr}{size:Nat}{ls:List (List Value)}{t:TypeId}{m c:Nat}{l rs:List an}(h:ag mem (.aZ rs) l)(hr:an.ae t size A m c ls∈rs):iT X W ⟨ah,mem⟩ A size ls:=
 fun _ _ hm=>b_ ((h.holds hm).1 _ hr)
theorem aD{k:IntKind}{a b:Int}(h:a=b):Value.int k a= .int k b:=by rw [h]
theorem iv{x:Operand}{v:Value}(ho:o.op= .move x)(hx:ev S.ah x=some v):Q1 P X W n S o v:=fun a w hs=> .inl (by simp [execOp,ho,hs.eval hx])
theorem ko{x:Operand}{v:Value}(ho:o.op= .assign x)(hx:ev S.ah x=some v):Q1 P X W n S o v:=fun a w hs=> .inl (by simp [execOp,ho,hs.eval hx])
theorem kq{c x y:Operand}{v:Value}{b:Bool}(ho:o.op= .pick c x y)(hc:ev S.ah c=some (.bool b))(hb:b=true)(hx:ev S.ah x=some v):Q1 P X W n S o v:=
 fun a w hs=> .inl (by subst hb;simp [execOp,ho,hs.eval hx,hs.eval hc,asBool])
theorem dX{c x y:Operand}{v:Value}{b:Bool}(ho:o.op= .pick c x y)(hc:ev S.ah c=some (.bool b))(hb:b=false)(hy:ev S.ah y=some v):Q1 P X W n S o v:=
 fun a w hs=> .inl (by subst hb;simp [execOp,ho,hs.eval hy,hs.eval hc,asBool])
theorem ac4{x:Operand}{i:Nat}{vs:Array Value}{v:Value}(ho:o.op= .extract x i)(hx:ev S.ah x=some (.tuple vs))(hv:vs[i]?=some v):Q1 P X W n S o v:=
 fun a w hs=> .inl (by simp [execOp,ho,hs.eval hx,Instr.extract,hv])
theorem S3{x:Operand}{b:Bool}{t:TypeId}(ho:o.op= .unOp .not t x)(hx:ev S.ah x=some (.bool b)):Q1 P X W n S o (.bool !b):=
 fun a w hs=> .inl (by simp [execOp,ho,hs.eval hx,Op.unary])
theorem Mh{x:Operand}{i:Int}{t:TypeId}(ho:o.op= .unOp .neg t x)(hx:ev S.ah x=some (.int .i64 i))(h: -9223372036854775807≤i∧i≤9223372036854775807):Q1 P X W n S o (.int .i64 (-i)):=
 fun a w hs=> .inl (by
  have e:IntKind.i64.wrap (-i)= -i:=by rw [fF];omega
  simp [execOp,ho,hs.eval hx,Op.unary,Op.intArith,e])
section
variable{x y:Operand}{t t':TypeId}{k:IntKind}{i j:Int}
theorem xw(ho:o.op= .binOp .add t x y t')(hx:ev S.ah x=some (.int .i64 i))(hy:ev S.ah y=some (.int .i64 j))(h: -9223372036854775808≤i+j∧i+j≤9223372036854775807):Q1 P X W n S o (.int .i64 (i+j)):=
 fun a w hs=> .inl (by
  have e:IntKind.i64.wrap (i+j)=i+j:=by rw [fF];omega
  simp [execOp,ho,hs.eval hx,hs.eval hy,binOp,Op.intArith,e,eqGuard])
theorem AY(ho:o.op= .binOp .sub t x y t')(hx:ev S.ah x=some (.int .i64 i))(hy:ev S.ah y=some (.int .i64 j))(h: -9223372036854775808≤i-j∧i-j≤9223372036854775807):Q1 P X W n S o (.int .i64 (i-j)):=
 fun a w hs=> .inl (by
  have e:IntKind.i64.wrap (i-j)=i-j:=by rw [fF];omega
  simp [execOp,ho,hs.eval hx,hs.eval hy,binOp,Op.intArith,e,eqGuard])
theorem vM(ho:o.op= .binOp .mul t x y t')(hx:ev S.ah x=some (.int .i64 i))(hy:ev S.ah y=some (.int .i64 j))(h: -9223372036854775808≤i*j∧i*j≤9223372036854775807):Q1 P X W n S o (.int .i64 (i*j)):=
 fun a w hs=> .inl (by
  have e:IntKind.i64.wrap (i*j)=i*j:=by rw [fF];omega
  simp [execOp,ho,hs.eval hx,hs.eval hy,binOp,Op.intArith,e,eqGuard])
theorem vO(ho:o.op= .binOp .add t x y t')(hx:ev S.ah x=some (.int k i))(hy:ev S.ah y=some (.int k j)):Q1 P X W n S o (.int k (k.wrap (i+j))):=
 fun a w hs=> .inl (by simp [execOp,ho,hs.eval hx,hs.eval hy,binOp,Op.intArith,eqGuard])
theorem AZ(ho:o.op= .binOp .sub t x y t')(hx:ev S.ah x=some (.int k i))(hy:ev S.ah y=some (.int k j)):Q1 P X W n S o (.int k (k.wrap (i-j))):=
 fun a w hs=> .inl (by simp [execOp,ho,hs.eval hx,hs.eval hy,binOp,Op.intArith,eqGuard])
theorem pD(ho:o.op= .binOp .mul t x y t')(hx:ev S.ah x=some (.int k i))(hy:ev S.ah y=some (.int k j)):Q1 P X W n S o (.int k (k.wrap (i*j))):=
 fun a w hs=> .inl (by simp [execOp,ho,hs.eval hx,hs.eval hy,binOp,Op.intArith,eqGuard])
theorem l8(ho:o.op= .binOp .quo t x y t')(hx:ev S.ah x=some (.int .i64 i))(hy:ev S.ah y=some (.int .i64 j))(h:0≤i∧1≤j∧i≤9223372036854775807):Q1 P X W n S o (.int .i64 (i/j)):=
 fun a w hs=> .inl (by
  have h1:0≤i/j:=vE h.1  oM
  have h2:i/j≤i:=Ff _ h.1
  have e:IntKind.i64.wrap (i/j)=i/j:=by rw [fF];omega
  have h0:j≠0:=oM
  simp [execOp,ho,hs.eval hx,hs.eval hy,binOp,Op.intDiv,eqGuard,h0,Int.tdiv_eq_ediv_of_nonneg h.1,e])
theorem db(ho:o.op= .binOp .rem t x y t')(hx:ev S.ah x=some (.int k i))(hy:ev S.ah y=some (.int k j))(h:0≤i∧1≤j):Q1 P X W n S o (.int k (i%j)):=
 fun a w hs=> .inl (by
  have h0:j≠0:=oM
  simp [execOp,ho,hs.eval hx,hs.eval hy,binOp,Op.intDiv,eqGuard,h0,Int.tmod_eq_emod_of_nonneg h.1])
theorem I2(ho:o.op= .binOp .quo t x y t')(hx:ev S.ah x=some (.int k i))(hy:ev S.ah y=some (.int k j))(h0:j≠0):Q1 P X W n S o (.int k (k.wrap (i.tdiv j))):=
 fun a w hs=> .inl (by simp [execOp,ho,hs.eval hx,hs.eval hy,binOp,Op.intDiv,eqGuard,h0])
theorem Mi(ho:o.op= .binOp .rem t x y t')(hx:ev S.ah x=some (.int k i))(hy:ev S.ah y=some (.int k j))(h0:j≠0):Q1 P X W n S o (.int k (i.tmod j)):=
 fun a w hs=> .inl (by simp [execOp,ho,hs.eval hx,hs.eval hy,binOp,Op.intDiv,eqGuard,h0])
theorem I3(ho:o.op= .binOp .eql t x y t')(hx:ev S.ah x=some (.int k i))(hy:ev S.ah y=some (.int k j)):Q1 P X W n S o (.bool (i==j)):=
 fun a w hs=> .inl (by simp [execOp,ho,hs.eval hx,hs.eval hy,binOp,Op.intCmp,eqGuard])
theorem Mj(ho:o.op= .binOp .neq t x y t')(hx:ev S.ah x=some (.int k i))(hy:ev S.ah y=some (.int k j)):Q1 P X W n S o (.bool (i !=j)):=
 fun a w hs=> .inl (by simp [execOp,ho,hs.eval hx,hs.eval hy,binOp,Op.intCmp,eqGuard])
theorem ac5(ho:o.op= .binOp .lss t x y t')(hx:ev S.ah x=some (.int k i))(hy:ev S.ah y=some (.int k j)):Q1 P X W n S o (.bool (decide (i<j))):=
 fun a w hs=> .inl (by simp [execOp,ho,hs.eval hx,hs.eval hy,binOp,Op.intCmp,eqGuard])
theorem S4(ho:o.op= .binOp .leq t x y t')(hx:ev S.ah x=some (.int k i))(hy:ev S.ah y=some (.int k j)):Q1 P X W n S o (.bool (decide (i≤j))):=
 fun a w hs=> .inl (by simp [execOp,ho,hs.eval hx,hs.eval hy,binOp,Op.intCmp,eqGuard])
theorem ac6(ho:o.op= .binOp .gtr t x y t')(hx:ev S.ah x=some (.int k i))(hy:ev S.ah y=some (.int k j)):Q1 P X W n S o (.bool (decide (j<i))):=
 fun a w hs=> .inl (by simp [execOp,ho,hs.eval hx,hs.eval hy,binOp,Op.intCmp,eqGuard])
theorem ac7(ho:o.op= .binOp .geq t x y t')(hx:ev S.ah x=some (.int k i))(hy:ev S.ah y=some (.int k j)):Q1 P X W n S o (.bool (decide (j≤i))):=
 fun a w hs=> .inl (by simp [execOp,ho,hs.eval hx,hs.eval hy,binOp,Op.intCmp,eqGuard])
theorem dT(ho:o.op= .convert t t' x)(hx:ev S.ah x=some (.int k i)){d:TypeDesc}{k':IntKind}(ht:P.underlying t=some d)(xx:P.underlying t'=some (.int k'))(h:k'.wrap i=i):Q1 P X W n S o (.int k' i):=
 fun a w hs=> .inl (by simp [execOp,ho,hs.eval hx,convert,fk ht,fk xx,Conv.intToInt,h])
theorem rf{ts:Array TypeId}(ho:o.op= .call {callee:= .builtin .min,args:= #[x,y],argTypes:=ts})(hx:ev S.ah x=some (.int k i))(hy:ev S.ah y=some (.int k j)):Q1 P X W n S o (.int k (min i j)):=
 fun a w hs=> .inl (by
  have e:(if j<i then j else i)=min i j:=oM
  simp [execOp,ho,resolve,invoke,builtin,hs.eval hx,hs.eval hy,Builtin.min_,Builtin.min2,e])
theorem xy{ts:Array TypeId}(ho:o.op= .call {callee:= .builtin .max,args:= #[x,y],argTypes:=ts})(hx:ev S.ah x=some (.int k i))(hy:ev S.ah y=some (.int k j)):Q1 P X W n S o (.int k (max i j)):=
 fun a w hs=> .inl (by
  have e:(if i<j then j else i)=max i j:=oM
  simp [execOp,ho,resolve,invoke,builtin,hs.eval hx,hs.eval hy,Builtin.max_,Builtin.max2,e])
theorem S5{ts:Array TypeId}{z:Operand}{m:Int}(ho:o.op= .call {callee:= .builtin .min,args:= #[x,y,z],argTypes:=ts})(hx:ev S.ah x=some (.int k i))(hy:ev S.ah y=some (.int k j))(hz:ev S.ah z=some (.int k m)):Q1 P X W n S o (.int k (min (min i j) m)):=
 fun a w hs=> .inl (by
  have e:∀i j:Int,(if j<i then j else i)=min i j:=oM
  simp [execOp,ho,resolve,invoke,builtin,hs.eval hx,hs.eval hy,hs.eval hz,Builtin.min_,Builtin.min2,e])
end
section
variable{x y:Operand}{t t' e:TypeId}{k:IntKind}{i j:Int}{A:Option Addr}{m c size:Nat}
theorem I4(ho:o.op= .call {callee:= .builtin .len,args:= #[x],argTypes:= #[t]})(ht:P.underlying t=some (.slice e))(hx:ev S.ah x=some (.slice A m c)):Q1 P X W n S o (.int .i64 (m:Int)):=
 fun a w hs=> .inl (by simp [execOp,ho,resolve,invoke,builtin,hs.eval hx,Builtin.len_,fk ht,goInt])
theorem Mk{s:ByteArray}(ho:o.op= .call {callee:= .builtin .len,args:= #[x],argTypes:= #[t]})(ht:P.underlying t=some .string)(hx:ev S.ah x=some (.string s)):Q1 P X W n S o (.int .i64 (s.size:Int)):=
 fun a w hs=> .inl (by simp [execOp,ho,resolve,invoke,builtin,hs.eval hx,Builtin.len_,fk ht,goInt])
theorem I5{a:Addr}(ho:o.op= .nilCheck x)(hx:ev S.ah x=some (.pointer (some a))):Q1 P X W n S o (.pointer (some a)):=
 fun _ w hs=> .inl (by simp [execOp,ho,hs.eval hx])
theorem ac8{a:Addr}{f:Nat}{fs:Array Field}{fd:Field}{s:Nat}(ho:o.op= .fieldAddr t x f)(ht:P.underlying t=some (.struct fs))(hx:ev S.ah x=some (.pointer (some a)))(hf:fs[f]?=some fd)(gC:Sz P fd.type (s+1)){d:Nat}(hd:fd.offset=d):
  Q1 P X W n S o (.pointer (some (a.add d))):=
 fun _ w hs=> .inl (by simp [execOp,ho,hs.eval hx,Instr.fieldAt,fk ht,hf,Instr.sureAddr,fieldPlace,gC.run,hd])
theorem rh{b i:Nat}{f:Nat}{fs:Array Field}{fd:Field}{s:Nat}(ho:o.op= .fieldAddr t x f)(ht:P.underlying t=some (.struct fs))(hx:ev S.ah x=some (.pointer (some ⟨b,i,none⟩)))(hf:fs[f]?=some fd)(gC:Sz P fd.type (s+1)){d:Nat}(hd:i+fd.offset=d):
  Q1 P X W n S o (.pointer (some ⟨b,d,none⟩)):=
 fun _ w hs=> .inl (by simp [execOp,ho,hs.eval hx,Instr.fieldAt,fk ht,hf,Instr.sureAddr,fieldPlace,gC.run,yR,hd])
theorem ac9(ho:o.op= .indexAddr t x y)(ht:P.underlying t=some (.slice e))(gC:Sz P e size)(hx:ev S.ah x=some (.slice A m c))(hy:ev S.ah y=some (.int k i))
  (hA:A.isSome=true)(hi:0≤i∧i<m):Q1 P X W n S o (.pointer (some ((bJ A).add (i.toNat*size)))):=
 fun _ w hs=> .inl (by
  obtain⟨ad,rfl⟩:=AN.1 hA
  simp [execOp,ho,hs.eval hx,hs.eval hy,Instr.indexAt,fk ht,asIntOf,gC.run,hi.1,hi.2,bJ])
theorem iT.some{ls:List (List Value)}(h:iT X W S A size ls)(hl:i.toNat<ls.length){a:Act}{w:World}(hs:cK X W n S a w):A.isSome=true:=by
 rcases h w hs.dv hs.mem with h|⟨ad,rfl,_⟩
 ·subst h;simp at hl
 ·rfl
theorem k_{ls:List (List Value)}{q:Nat}(ho:o.op= .indexAddr t x y)(ht:P.underlying t= .some (.slice e))(gC:Sz P e size)(hx:ev S.ah x= .some (.slice A m c))(hy:ev S.ah y= .some (.int k i))
  (hr:iT X W S A size ls)(hl:ls.length=m)(hi:i=(q:Int))(hq:q<m):Q1 P X W n S o (.pointer (.some ((bJ A).add (q*size)))):=
 fun a w hs=>by
  subst hi
  exact ac9 (i:=(q:Int)) ho ht gC hx hy (hr.some (i:=(q:Int)) (by simp;omega) hs)  oM a w hs
theorem Ml{a:Addr}{v:Value}(ho:o.op= .load t x)(ht:k9 P t)(hx:ev S.ah x=some (.pointer (some a)))(hc:∀w,aS X W w→Mem X W S.mem w→w.cell? a=some v):Q1 P X W n S o v:=
 fun _ w hs=> .inl (by simp [execOp,ho,hs.eval hx,Instr.loadAt,Instr.sureAddr,loadVar,ht.1,hc w hs.dv hs.mem])
theorem Mm{a:Addr}{vs:List Value}(ho:o.op= .load t x)(ht:pC P t vs.length)(hx:ev S.ah x=some (.pointer (some a)))(hc:∀w,aS X W w→Mem X W S.mem w→∀j v,vs[j]?=some v→w.cell? (a.add j)=some v):Q1 P X W n S o (.agg vs.toArray):=
 fun _ w hs=> .inl (by simp [execOp,ho,hs.eval hx,Instr.loadAt,Instr.sureAddr,loadVar,ht.1,ht.2.run,run_loadCells_list w a vs (hc w hs.dv hs.mem)])
theorem De{w:World}{b:Nat}{tb:TypeId}{cs:List (Nat×Value)}(h:(an.aj b tb cs).holds w){i:Nat}{v:Value}(hv:cW cs i=some v):w.cell? ⟨b,i,none⟩=some v:=by
 obtain⟨c,hc,h2⟩:=h
 rw [cell_of_row w b i c tb (0,0) hc]
 exact h2 i v hv
theorem A0{b i:Nat}{tb:TypeId}{cs:List (Nat×Value)}{l:List an}{v:Value}(ho:o.op= .load t x)(ht:k9 P t)(hx:ev S.ah x=some (.pointer (some ⟨b,i,none⟩)))(hs:ag S.mem (.aj b tb cs) l)(hv:cW cs i=some v):Q1 P X W n S o v:=
 Ml ho ht hx fun _ _ hm=>De (hs.holds hm) hv
theorem ac_{b i s:Nat}{tb:TypeId}{cs:List (Nat×Value)}{l:List an}{vs:List Value}(ho:o.op= .load t x)(ht:pC P t s)(hx:ev S.ah x=some (.pointer (some ⟨b,i,none⟩)))(hs:ag S.mem (.aj b tb cs) l)(hv:mP cs i vs)(hl:vs.length=s):Q1 P X W n S o (.agg vs.toArray):=
 Mm ho (by rw [hl];exact ht) hx fun _ _ hm j v hj=>by rw [yR];exact De (hs.holds hm) (hv.get j v hj)
theorem FH{ls:List (List Value)}{q s:Nat}{vs:List Value}(ho:o.op= .load t x)(ht:pC P t s)(hx:ev S.ah x=some (.pointer (some ((bJ A).add (q*size)))))(hr:iT X W S A size ls)(hq:ls[q]?=some vs)(hl:vs.length=s):Q1 P X W n S o (.agg vs.toArray):=
 Mm ho (by rw [hl];exact ht) hx fun w hk hm j v hj=>by
  rcases hr w hk hm with h|⟨ad,rfl,h⟩
  ·subst h;simp at hq
  ·rw [AX];exact h q vs hq j v hj
theorem dG{ls:List (List Value)}{q d:Nat}{vs:List Value}{v:Value}(ho:o.op= .load t x)(ht:k9 P t)(hx:ev S.ah x=some (.pointer (some (((bJ A).add (q*size)).add d))))(hr:iT X W S A size ls)(hq:ls[q]?=some vs)(hd:vs[d]?=some v):Q1 P X W n S o v:=
 Ml ho ht hx fun w hk hm=>by
  rcases hr w hk hm with h|⟨ad,rfl,h⟩
  ·subst h;simp at hq
  ·rw [AX];exact h q vs hq d v hd
theorem fG{ls:List (List Value)}{q:Nat}{v:Value}(ho:o.op= .load t x)(ht:k9 P t)(hx:ev S.ah x=some (.pointer (some ((bJ A).add (q*size)))))(hr:iT X W S A size ls)(hq:ls[q]?=some [v]):Q1 P X W n S o v:=
 Ml ho ht hx fun w hk hm=>by
  rcases hr w hk hm with h|⟨ad,rfl,h⟩
  ·subst h;simp at hq
  ·have:=h q [v] hq 0 v rfl
   simpa [bJ]using this
def Df(A:Option Addr)(l cap size:Nat):Option Addr:=if cap=l then A else A.map (·.add (l*size))
theorem FI{y:Operand}{h:Int}(ho:o.op= .slice t x none (some y) none)(ht:P.underlying t=some (.slice e))(gC:Sz P e size)(hx:ev S.ah x=some (.slice A m c))(hy:ev S.ah y=some (.int k h))(hh:0≤h∧h≤c):
  Q1 P X W n S o (.slice A h.toNat c):=fun _ w hs=> .inl (by
 have he:P.elem t=e:=by simp [Program.elem,ht]
 have xx:P.underlying t=some (.slice (P.elem t)):=by rw [he];exact ht
 have e1:(fun a:Addr=>a.add 0)=id:=by funext a;exact Addr.add_zero' a
 simp [execOp,ho,hs.eval hx,hs.eval hy,run_sliceAt_slice w t _ _ _ _ xx,run_slice_h w t A m c xx k h hh.1 hh.2,he,gC.run,sliced,e1])
theorem ada{y:Operand}{l:Int}(ho:o.op= .slice t x (some y) none none)(ht:P.underlying t=some (.slice e))(gC:Sz P e size)(hx:ev S.ah x=some (.slice A m c))(hy:ev S.ah y=some (.int k l))(hh:0≤l∧l≤m):
  Q1 P X W n S o (.slice (Df A l.toNat c size) (m-l.toNat) (c-l.toNat)):=fun _ w hs=> .inl (by
 have he:P.elem t=e:=by simp [Program.elem,ht]
 have xx:P.underlying t=some (.slice (P.elem t)):=by rw [he];exact ht
 simp [execOp,ho,hs.eval hx,hs.eval hy,run_sliceAt_slice w t _ _ _ _ xx,run_slice_l w t A m c xx k l hh.1 hh.2,he,gC.run,sliced,Df])
theorem Rd.cut{w:World}{ls:List (List Value)}(h:Rd w A size ls){l c:Nat}(hl:ls.length≤c):Rd w (Df A l c size) size (ls.drop l):=by
 rcases h with h|⟨ad,rfl,h⟩
 ·subst h;exact .inl sM
 ·by_cases hc:c=l
  ·exact .inl (ox  oM)
  ·refine .inr ⟨ad.add (l*size),by simp [Df,hc],fun i c hi j v hj=>?_⟩
   rw [List.getElem?_drop]at hi
   rw [AX,←AM,←vD]
   exact h _ c hi j v hj
theorem Rd.take{w:World}{ls:List (List Value)}(h:Rd w A size ls)(m:Nat):Rd w A size (ls.take m):=by
 rcases h with h|⟨ad,rfl,h⟩
 ·subst h;exact .inl sM
 ·refine .inr ⟨ad,rfl,fun i c hi j v hj=>?_⟩
  rw [C1]at hi
  split at hi
  ·exact h i c hi j v hj
  ·cases hi
end
def fb(P:Program)(f:FuncId):Prop:=∀args w,(callFunc f args).run P w= .ok (.enter f args) w
inductive kL(ah:List (Nat×Value)):List Operand→List Value→Prop where
 |nil:kL ah [] []
 |cons {x:Operand} {v:Value} {xs:List Operand} {vs:List Value} (h:ev ah x=some v) (t:kL ah xs vs):kL ah (x::xs) (v::vs)
theorem kL.map{a:Act}{w:World}{xs:List Operand}{vs:List Value}(h:kL S.ah xs vs)(hs:cK X W n S a w):xs.map a.eval=vs:=by
 induction h with
 |nil=>rfl
 |cons h _ ih=>simp [hs.eval h,ih]
theorem S6{f:FuncId}{xs:List Operand}{ts:Array TypeId}{vs:List Value}(ho:o.op= .call {callee:= .value (.func f),args:=xs.toArray,argTypes:=ts})(hf:fb P f)(hx:kL S.ah xs vs){a:Act}{w:World}(hs:cK X W n S a w):
  (execOp a.eval o).run P w= .ok (.enter f vs.toArray) w:=by
 have hm:(xs.toArray).map a.eval=vs.toArray:=by simp [hx.map hs]
 have he:a.eval (.func f)= .func (.func f) #[] #[]:=rfl
 simp [execOp,ho,resolve,he,Deferred.ofValue,invoke,hx.map hs]
 exact hf _ _
theorem S7{f:FuncId}{xs:List Operand}{ts:Array TypeId}{vs:List Value}{v:Value}(ho:o.op= .call {callee:= .value (.func f),args:=xs.toArray,argTypes:=ts})(hf:fb P f)(hx:kL S.ah xs vs)
  (hc:∀w,aS X W w→Mem X W S.mem w→Calls P f vs.toArray w (aJ w v)):Q1 P X W n S o v:=
 fun _ w hs=> .inr (.inr ⟨f,_,S6 ho hf hx hs,hc w hs.dv hs.mem⟩)
inductive PV(ah:List (Nat×Value)):List (Nat×Operand)→List (Nat×Value)→Prop where
 |nil:PV ah [] []
 |cons {i:Nat} {x:Operand} {v:Value} {xs:List (Nat×Operand)} {vs:List (Nat×Value)} (h:ev ah x=some v) (t:PV ah xs vs):PV ah ((i,x)::xs) ((i,v)::vs)
theorem PV.map{xs:List (Nat×Operand)}{vs:List (Nat×Value)}(h:PV S.ah xs vs){a:Act}{w:World}(hs:cK X W n S a w):xs.map (fun p=>(p.1,a.eval p.2))=vs:=by
 induction h with
 |nil=>rfl
 |cons h _ ih=>simp [hs.eval h,ih]
theorem aU{t:TypeId}{xs:List (Nat×Operand)}{vs:List (Nat×Value)}{cells:Array Value}(ho:o.op= .build t xs.toArray)(hp:PV S.ah xs vs)(hb:P.built t vs=some cells):Q1 P X W n S o (.agg cells):=
 fun a w hs=> .inl (by
  have hm:(xs.toArray.map fun x=>(x.1,a.eval x.2)).toList=vs:=by simpa using hp.map hs
  have hr:=run_build (P:=P) w t (xs.toArray.map fun x=>(x.1,a.eval x.2)) cells (by rw [hm];exact hb)
  simp only [execOp,ho,pw,hr,sf,uc])
theorem S8{f:FuncId}{y:Operand}{xs:List Operand}{ts:Array TypeId}{vs:List Value}{cap:List Value}(ho:o.op= .call {callee:= .value y,args:=xs.toArray,argTypes:=ts})(hy:ev S.ah y=some (.func (.func f) #[] cap.toArray))(hf:fb P f)(hx:kL S.ah xs vs){a:Act}{w:World}(hs:cK X W n S a w):
  (execOp a.eval o).run P w= .ok (.enter f (vs++cap).toArray) w:=by
 simp [execOp,ho,resolve,hs.eval hy,Deferred.ofValue,invoke,hx.map hs]
 exact hf _ _
theorem gm{f:FuncId}{y:Operand}{xs:List Operand}{ts:Array TypeId}{vs cap:List Value}{v:Value}(ho:o.op= .call {callee:= .value y,args:=xs.toArray,argTypes:=ts})(hy:ev S.ah y=some (.func (.func f) #[] cap.toArray))(hf:fb P f)(hx:kL S.ah xs vs)
  (hc:∀w,aS X W w→Mem X W S.mem w→Calls P f (vs++cap).toArray w (aJ w v)):Q1 P X W n S o v:=
 fun _ w hs=> .inr (.inr ⟨f,_,S8 ho hy hf hx hs,hc w hs.dv hs.mem⟩)
theorem A1{x y:Operand}{t e:TypeId}{k:IntKind}{i:Int}{len q:Nat}{cs:Array Value}{v:Value}(ho:o.op= .index t x y)(ht:P.underlying t=some (.array len e))(he:k9 P e)(hx:ev S.ah x=some (.agg cs))(hy:ev S.ah y=some (.int k i))
  (hi:i=(q:Int))(hq:q<len)(hv:cs[q]?=some v):Q1 P X W n S o v:=
 fun a w hs=> .inl (by
  subst hi
  have h1:(0:Int)≤(q:Int)∧(q:Int)<(len:Int):=oM
  simp [execOp,ho,hs.eval hx,hs.eval hy,Instr.index,asIntOf,fk ht,h1.2,he.2.run,part,he.1,hv,Nat.not_le.2 hq])
section
variable{x y:Operand}{t t':TypeId}{a b:Bool}
theorem adb(ho:o.op= .binOp .eql t x y t')(hx:ev S.ah x=some (.bool a))(hy:ev S.ah y=some (.bool b))(ht:P.underlying t=some .bool):Q1 P X W n S o (.bool (a==b)):=
 fun _ w hs=> .inl (by
  have h1:(binOp .eql t (.bool a) (.bool b)).run P w= .ok (.bool (a==b)) w:=by
   simp only [binOp]
   simp [Op.equal,Op.maxDepth,run_equalIn_bool' w _ t a b ht]
  simp only [execOp,ho,hs.eval hx,hs.eval hy,eqGuard_at_bool,pw,uc,sf,h1])
theorem ade(ho:o.op= .binOp .neq t x y t')(hx:ev S.ah x=some (.bool a))(hy:ev S.ah y=some (.bool b))(ht:P.underlying t=some .bool):Q1 P X W n S o (.bool (!(a==b))):=
 fun _ w hs=> .inl (by
  have h1:(binOp .neq t (.bool a) (.bool b)).run P w= .ok (.bool (!(a==b))) w:=by
   simp only [binOp]
   simp [Op.equal,Op.maxDepth,run_equalIn_bool' w _ t a b ht]
  simp only [execOp,ho,hs.eval hx,hs.eval hy,eqGuard_at_bool,pw,uc,sf,h1])
theorem y6{xs ys:Array Value}{r:Bool}(ho:o.op= .binOp .eql t x y t')(hx:ev S.ah x=some (.agg xs))(hy:ev S.ah y=some (.agg ys))(hm:P.eqGuardType P.depth t=false)(he:∀w,(Op.equalIn 10000 t (.agg xs) (.agg ys)).run P w= .ok r w):Q1 P X W n S o (.bool r):=
 fun _ w hs=> .inl (by
  have h2:=run_eqGuard_agg (P:=P) w .eql t x y xs ys hm
  simp only [execOp,ho,hs.eval hx,hs.eval hy,pw,h2,uc,sf,run_eql_struct,he])
theorem I6{xs ys:Array Value}{r:Bool}(ho:o.op= .binOp .neq t x y t')(hx:ev S.ah x=some (.agg xs))(hy:ev S.ah y=some (.agg ys))(hm:P.eqGuardType P.depth t=false)(he:∀w,(Op.equalIn 10000 t (.agg xs) (.agg ys)).run P w= .ok r w):Q1 P X W n S o (.bool (!r)):=
 fun _ w hs=> .inl (by
  have h2:=run_eqGuard_agg (P:=P) w .neq t x y xs ys hm
  simp only [execOp,ho,hs.eval hx,hs.eval hy,pw,h2,uc,sf,run_neq_struct,he])
end
end
theorem Mn{w:World}{g:Nat}{r:Array Value}:aS (fun k=>k=g) w (w.setRow g r):=
 ⟨rfl,rfl,rfl,by simp,fun k _ hk=>setRow_other w g k r hk,ct _⟩
section
variable{P:Program}{X:Nat→Prop}{W:World}{n:Nat}{S:St}{ah:List (Nat×Value)}{mem:List an}{o:Oper}{a:Act}{w:World}
theorem cK.new(hs:cK X W n S a w)(ob:Obj)(r:an)(hr:r.holds (w.alloc ob))(oA:∀b,r.at b→b=w.heap.size):cK X W n ⟨S.ah,r::S.mem⟩ a (w.alloc ob):=by
 have hk:=aS.alloc w ob
 refine⟨hs.size,hs.defers,hs.ah,hs.dv.fa hk,(hs.mem.xp hk).cons hr (fun b hb=> .inl ?_) (fun s h b hb gv=>?_)⟩
 ·rw [oA b hb];exact hs.dv.size
 ·rw [oA b hb]at gv
  exact absurd (hs.mem.lt s h _ gv) (Nat.lt_irrefl _)
theorem cK.change(hs:cK X W n S a w){w':World}{Y:Nat→Prop}{cs ls m:List an}(hp:S.mem.Perm (cs++ls))(hk:aS Y w w')(hY:∀b,Y b→∃r∈cs,r.at b)
  (hm:Mem Y w m w'):cK X W n ⟨S.ah,m++ls⟩ a w':=by
 have h1:=hs.mem.aI hp
 have yY:=pq.1 h1.apart
 have Mo:Mem X W ls w:=h1.sub (gR _ _)
 have hYX:∀k,k<W.heap.size→¬X k→¬Y k:=fun k bI hx hy=>by
  obtain⟨r,hr,Mp⟩:=hY k hy
  rcases h1.ae r (by simp [hr]) k Mp with h|h
  ·omega
  ·exact hx h
 have S9:Mem X W ls w':=Mo.nP hk fun s gS b hb hy=>by
  obtain⟨r,hr,oB⟩:=hY b hy
  exact yY.2.2 r hr s gS b oB hb
 refine⟨hs.size,hs.defers,hs.ah,hs.dv.step hk hYX,⟨fun r hr=>?_,fun r hr b hb=>?_,?_⟩⟩
 ·rcases dK.1 hr with h|h
  ·exact hm.holds r h
  ·exact S9.holds r h
 ·rcases dK.1 hr with h|h
  ·rcases hm.ae r h b hb with h2|h2
   ·exact .inl (jg hs.dv.size h2)
   ·obtain⟨u,hu,um⟩:=hY b h2
    exact h1.ae u (by simp [hu]) b um
  ·exact Mo.ae r h b hb
 ·refine pq.2 ⟨hm.apart,S9.apart,fun r hr s gS b hb gv=>?_⟩
  rcases hm.ae r hr b hb with h2|h2
  ·exact absurd (Mo.lt s gS b gv)  oM
  ·obtain⟨u,hu,um⟩:=hY b h2
   exact yY.2.2 u hu s gS b um gv
theorem vP{k:Act→World→Prop}{Q:Exit→Act→World→Prop}{v:Value}{w':World}(h:(execOp a.eval o).run P w= .ok (.value v) w')(hk:k (a.put o.dst v) w'):o.wp P a w k Q:=by
 unfold Oper.wp;rw [h];exact hk
theorem I7{k:Act→World→Prop}{Q:Exit→Act→World→Prop}{w':World}(h:(execOp a.eval o).run P w= .ok .skip w')(hk:k (a.put o.dst undef) w'):o.wp P a w k Q:=by
 unfold Oper.wp;rw [h];exact hk
def A2:Value→Bool
 | .tuple _=>true
 |_=>false
theorem FJ{v:Value}(h:A2 v=false):v.cells=(dW v).toArray:=by
 cases v<;>first|rfl|simp [A2]at h|simp [Value.cells,dW]
theorem S_(w:World)(t:TypeId)(vs:List Value):(an.aj w.heap.size t (bB 0 vs)).holds (w.alloc (.cells vs.toArray t)):=
 ⟨_,heap_alloc_new w _,fun i v h=>by
  obtain⟨_,h2⟩:=FF vs 0 i v h
  simpa using h2⟩
section
variable{x y:Operand}{t e:TypeId}{k:IntKind}{d:Nat}
theorem qt{v:Value}(ho:o.op= .box t x)(hd:o.dst=some d)(hdn:Nat.blt d n=true)(hx:ev ah x=some v)(hv:A2 v=false):
  H1 P X W n ⟨ah,mem⟩ o (fun _:Nat=>True) (fun b=>⟨(d,.pointer (some ⟨b,0,none⟩))::ah,.aj b t (bB 0 (dW v))::mem⟩):=by
 intro a w hs k Q hk
 have gD:(execOp a.eval o).run P w= .ok (.value (.pointer (some ⟨w.heap.size,0,none⟩))) (w.alloc (.cells (dW v).toArray t)):=by
  simp [execOp,ho,hs.eval hx,Instr.box,newVar,newRow,FJ hv]
 refine vP gD ?_
 rw [hd]
 exact hk w.heap.size _ _ trivial ((hs.new _ _ (S_ w t (dW v)) (fun _ h=>h.symm)).put hdn _)
theorem dH{zs:List Value}{s b:Nat}(ho:o.op= .alloc t)(hd:o.dst=some d)(hdn:Nat.blt d n=true)(hi:yZ P t zs s b):
  H1 P X W n ⟨ah,mem⟩ o (fun _:Nat=>True) (fun b=>⟨(d,.pointer (some ⟨b,0,none⟩))::ah,.aj b t (bB 0 zs)::mem⟩):=by
 intro a w hs k Q hk
 obtain⟨i,z,h1,h2,rfl,_,_⟩:=hi
 have gD:(execOp a.eval o).run P w= .ok (.value (.pointer (some ⟨w.heap.size,0,none⟩))) (w.alloc (.cells z.cells.toList.toArray t)):=by
  simp [execOp,ho,Instr.alloc,newVar,newRow,zeroValue,typeInfo,h1,h2]
 refine vP gD ?_
 rw [hd]
 exact hk w.heap.size _ _ trivial ((hs.new _ _ (S_ w t _) (fun _ h=>h.symm)).put hdn _)
def oC:List Value→Bool
 | []=>true
 |v::r=>match v with
  | .agg _=>false
  | .tuple _=>false
  |_=>oC r
theorem Dg:∀{l:List Value},oC l=true→∀v∈l,v.oneCell'=true
 | [],_,v,h=>by simp at h
 |x::l,h,v,hv=>by
  rcases gu.1 hv with rfl|hv
  ·cases v<;>first|rfl|simp [oC]at h
  ·refine Dg (l:=l) ?_ v hv
   cases x<;>first|exact h|simp [oC]at h
theorem adg(cs:List (Nat×Value))(vs:List Value)(i:Nat)(c:Array Value)(h:∀j v,cW cs j=some v→c[j]?=some v)(hl:i+vs.length≤c.size):
  ∀j v,cW (bB i vs++cs) j=some v→(c.toList.take i++vs++c.toList.drop (i+vs.length)).toArray[j]?=some v:=by
 intro j v hj
 rw [ac3]at hj
 rw [List.getElem?_toArray]
 cases hf:cW (bB i vs) j with
 |some u=>
  rw [hf]at hj
  simp only [Option.some_or,Option.some.injEq]at hj
  subst hj
  obtain⟨h1,h2⟩:=FF vs i j u hf
  have bN:=(xg.1 h2).1
  rw [C0 (by simp;omega),xi (by simp;omega)]
  simpa [show min i c.size=i from oM]using h2
 |none=>
  rw [hf]at hj
  simp only [Option.none_or]at hj
  have hc:=h j v hj
  have vQ:¬(i≤j∧j<i+vs.length):=by
   intro⟨h1,h2⟩
   have:∀(l:List Value) (i:Nat),i≤j→j<i+l.length→(cW (bB i l) j).isSome=true:=by
    intro l
    induction l with
    |nil=>intro i h1 h2;simp at h2;omega
    |cons y l ih=>
     intro i h1 h2
     by_cases e:i=j
     ·subst e;rw [bB,FB];rfl
     ·rw [bB,FC e];exact ih (i+1)  oM (by simp at h2;omega)
   have h3:=this vs i h1 h2
   rw [hf]at h3;simp at h3
  have Ta:=(L8.1 hc).1
  rw [←hc,←Array.getElem?_toList]
  rcases ie j i with h1|h1
  ·rw [bj,C0 (by simp;omega),C1,aH h1]
  ·rw [xi (by simp;omega),List.getElem?_drop]
   congr 1
   simp
   omega
theorem cA{b i s:Nat}{tb:TypeId}{cs:List (Nat×Value)}{l:List an}{v:Value}(ho:o.op= .store t x y)(hd:o.dst=none)(gC:Sz P t (s+1))(hx:ev ah x=some (.pointer (some ⟨b,i,none⟩)))(hy:ev ah y=some v)
  (hv:A2 v=false)(hl:(dW v).length=s+1)(h1:oC (dW v)=true)(hs:ag mem (.aj b tb cs) l)(nQ:(cW cs (i+s)).isSome=true):
  H1 P X W n ⟨ah,mem⟩ o (fun _:Unit=>True) (fun _=>⟨ah,.aj b tb (bB i (dW v)++cs)::l⟩):=by
 intro a w cu k Q hk
 obtain⟨c,hc,hf⟩:=hs.holds cu.mem
 have adh:i+(dW v).length≤c.size:=by
  obtain⟨u,hu⟩:=AN.1 nQ
  have:=(L8.1 (hf _ u hu)).1
  omega
 have eJ:=run_storeCells_at P b i tb (dW v) 0 c w hc  oM (Dg h1)
 have gD:(execOp a.eval o).run P w= .ok .skip (w.setRow b (c.toList.take i++dW v++c.toList.drop (i+(dW v).length)).toArray):=by
  rw [←hl]at gC
  simp [execOp,ho,cu.eval hx,cu.eval hy,Instr.storeAt,Instr.sureAddr,storeVar,gC.run,FJ hv,eJ]
 refine I7 gD ?_
 rw [hd]
 refine hk () _ _ trivial ?_
 have hm:Mem (fun k=>k=b) w [.aj b tb (bB i (dW v)++cs)] (w.setRow b (c.toList.take i++dW v++c.toList.drop (i+(dW v).length)).toArray):=
  Mem.nil.cons (r:= .aj b tb (bB i (dW v)++cs)) ⟨_,setRow_heap w b c _ tb _ hc,adg cs (dW v) i c hf adh⟩ (fun k hk=> .inr (by simpa [an.at,eq_comm]using hk)) sM
 exact cu.change (Y:=fun k=>k=b) (cs:= [.aj b tb cs]) (ls:=l) hs.aI Mn (fun k hk=>⟨.aj b tb cs,by simp,by simp [hk,an.at]⟩) hm
theorem y7{size:Nat}:∀(ls:List (List Value)),(∀z∈ls,z.length=size)→ls.flatten.length=ls.length*size
 | [],_=>by simp
 |z::ls,h=>by
  rw [xh,ay,y7 ls (fun y hy=>h y (by simp [hy])),h z sM,eF,vD]
  omega
theorem Tb{size:Nat}:∀(ls:List (List Value)) (q:Nat) (vs:List Value),(∀z∈ls,z.length=size)→q<ls.length→vs.length=size→
  (ls.set q vs).flatten=ls.flatten.take (q*size)++vs++ls.flatten.drop (q*size+vs.length)
 | [],q,_,_,h,_=>by simp at h
 |z::ls,0,vs,h,_,hv=>by
  have hz:=h z sM
  simp only [List.set_cons_zero,xh,Nat.zero_mul,List.take_zero,Fg,ub]
  rw [hv,←hz,List.drop_left]
 |z::ls,q+1,vs,h,hq,hv=>by
  have hz:=h z sM
  have ih:=Tb ls q vs (fun y hy=>h y (by simp [hy])) (by simpa using hq) hv
  simp only [List.set_cons_succ,xh,ih]
  have e1:(q+1)*size=z.length+q*size:=by rw [hz,vD];omega
  rw [e1,List.take_length_add_append,AM,List.drop_length_add_append]
  simp
theorem Mq{A:Option Addr}{m c size:Nat}{ls:List (List Value)}(h:(an.ae e size A m c ls).holds w)(hm:0<m):∃g di,A=some ⟨g,0,none⟩∧w.heap[g]?=some (.cells di e (0,0))∧m≤c∧c≤maxLen∧di.size=c*size∧di.toList.take (m*size)=ls.flatten:=by
 obtain⟨⟨_,h2⟩,_,_⟩:=h
 rcases h2 with⟨_,h0⟩|⟨g,cap,di,hv,_,hh,h3,h4,h5,h6⟩
 ·omega
 ·simp only [Value.slice.injEq,true_and]at hv
  obtain⟨rfl,rfl⟩:=hv
  exact⟨g,di,rfl,hh,h3,h4,h5,h6⟩
theorem Tc{g m c size o':Nat}{ls iw:List (List Value)}{di:Array Value}{vs:List Value}(hh:w.heap[g]?=some (.cells di e (0,0)))(FK:m≤c)(hc:c≤maxLen)(gC:di.size=c*size)(ht:di.toList.take (m*size)=ls.flatten)
  (hb:o'+vs.length≤m*size)(hl:iw.length=m)(hz:∀z∈iw,z.length=size)(hf:iw.flatten=ls.flatten.take o'++vs++ls.flatten.drop (o'+vs.length)):
  (an.ae e size (some ⟨g,0,none⟩) m c iw).holds (w.setRow g (di.toList.take o'++vs++di.toList.drop (o'+vs.length)).toArray):=by
 have y8:m*size≤c*size:=te _ FK
 refine⟨⟨by rw [y7 iw hz,hl],.inr ⟨g,c,_,rfl,lI _,setRow_heap w g di _ e _ hh,FK,hc,?_,?_⟩⟩,hl,hz⟩
 ·simp only [List.size_toArray,ay,fN,nL,Fh,gC]
  omega
 ·rw [hf,←ht]
  clear hf ht hz hl
  apply ud
  intro j
  simp only [C1,List.getElem?_append,ay,fN,Fh,gC,List.getElem?_drop]
  have e1:min o' (c*size)=o':=oM
  have e2:min (min o' (m*size)) (c*size)=o':=oM
  have e3:min o' (min (m*size) (c*size))=o':=oM
  simp only [e1,e3]
  by_cases h1:j<m*size
  ·simp only [h1,if_true]
   by_cases h2:j<o'+vs.length
   ·simp only [h2,if_true]
   ·simp only [h2,vF]
    have:o'+vs.length+(j-(o'+vs.length))<m*size:=oM
    simp [this]
  ·simp only [h1,vF]
   have h2:¬j<o'+vs.length:=oM
   simp only [h2,vF]
   have:¬o'+vs.length+(j-(o'+vs.length))<m*size:=oM
   simp [this]
theorem jW{A:Option Addr}{m c size q:Nat}{ls:List (List Value)}{l:List an}{v:Value}(ho:o.op= .store t x y)(hd:o.dst=none)(gC:Sz P t size)(hx:ev ah x=some (.pointer (some ((bJ A).add (q*size)))))(hy:ev ah y=some v)
  (hv:A2 v=false)(hl:(dW v).length=size)(h1:oC (dW v)=true)(hs:ag mem (.ae e size A m c ls) l)(hq:q<m):
  H1 P X W n ⟨ah,mem⟩ o (fun _:Unit=>True) (fun _=>⟨ah,.ae e size A m c (ls.set q (dW v))::l⟩):=by
 intro a w cu k Q hk
 have hh:=hs.holds cu.mem
 obtain⟨g,di,rfl,hg,h3,h4,h5,h6⟩:=Mq hh  oM
 obtain⟨_,gT,hz⟩:=hh
 have Mr:q*size+size≤m*size:=by rw [←C2];exact te _ hq
 have y8:m*size≤c*size:=te _ h3
 have eJ:=run_storeCells_at P g (q*size) e (dW v) 0 di w hg  oM (Dg h1)
 have gD:(execOp a.eval o).run P w= .ok .skip (w.setRow g (di.toList.take (q*size)++dW v++di.toList.drop (q*size+(dW v).length)).toArray):=by
  have Ms:(bJ (some ⟨g,0,none⟩)).add (q*size)=⟨g,q*size,none⟩:=by simp [bJ,yR]
  rw [←hl]at gC
  simp only [execOp,ho,cu.eval hx,cu.eval hy,Instr.storeAt,Instr.sureAddr,storeVar,Ms,FJ hv]
  simp [gC.run,eJ]
 refine I7 gD ?_
 rw [hd]
 refine hk () _ _ trivial ?_
 have hw:=Tc (ls:=ls) (iw:=ls.set q (dW v)) (vs:=dW v) hg h3 h4 h5 h6  oM (by simpa using gT) (fun z sk=>by
  rcases Fi sk with h|rfl
  ·exact hz z h
  ·exact hl) (Tb ls q (dW v) hz  oM hl)
 have hm:Mem (fun k=>k=g) w [.ae e size (some ⟨g,0,none⟩) m c (ls.set q (dW v))] _:=Mem.nil.cons hw (fun k hk=> .inr (by simpa [an.at,eq_comm]using hk)) sM
 exact cu.change (Y:=fun k=>k=g) (cs:= [.ae e size (some ⟨g,0,none⟩) m c ls]) (ls:=l) hs.aI Mn (fun k hk=>⟨.ae e size (some ⟨g,0,none⟩) m c ls,by simp,by simp [hk,an.at]⟩) hm
theorem aS.row{w w':World}{row:Option Nat}(h:w.grownBy w' row)(hd:w.drawn≤w'.drawn):aS (fun k=>row=some k) w w':=⟨h.os,h.tape,h.output,h.size,fun k hk hx=>h.block k hk (fun e=>hx e.symm),hd⟩
theorem cn{A A':Option Addr}{m c m' c' size bytes:Nat}{ls iw:List (List Value)}{l:List an}{zs:List Value}(ho:o.op= .call {callee:= .builtin .append,args:= #[x,y],argTypes:= #[t,t]})(hd:o.dst=some d)(hdn:Nat.blt d n=true)
  (ht:P.underlying t=some (.slice e))(hi:yZ P e zs (size+1) bytes)(pB:zs.length=size+1)(hx:ev ah x=some (.slice A m c))(hs:ag mem (.ae e (size+1) A m c ls) l)(hy:ev ah y=some (.slice A' m' c'))(hr:iT X W ⟨ah,mem⟩ A' (size+1) iw)
  (I8:iw.length=m')(sk:∀z∈iw,z.length=size+1)(h1:∀z∈iw,oC z=true)(hb:(m+m')*bytes≤140737488355328)(Mt:m+m'≤9223372036854775807):
  H1 P X W n ⟨ah,mem⟩ o (fun _:Option Addr×Nat=>True) (fun i=>⟨(d,.slice i.1 (m+m') i.2)::ah,.ae e (size+1) i.1 (m+m') i.2 (ls++iw)::l⟩):=by
 intro a w cu k Q hk
 have hh:=hs.holds cu.mem
 obtain⟨Mu,gT,hz⟩:=hh
 obtain⟨i,z,kr,A3,FL,FM,I9⟩:=hi
 have hzc:z.cells.size=size+1:=by rw [←pB,←FL,Fh]
 have cS:=hr w cu.dv cu.mem
 have adj:m+m'≤maxLen:=by simpa [maxLen]using Mt
 have A4:∀z∈ls++iw,z.length=size+1:=fun z Mv=>(dK.1 Mv).elim (hz z) (sk z)
 have g_:(ls++iw).length=m+m':=by simp [gT,I8]
 have key:∃so uo w',(Builtin.append_ #[t,t] o.type #[.slice A m c,.slice A' m' c']).run P w= .ok (.slice so (m+m') uo) w'∧w'.ownsRow 0 e (size+1) (.slice so (m+m') uo) (m+m') (ls++iw).flatten∧w.grownBy w' (A.map (·.block))∧
   (so.map (·.block)=A.map (·.block)∨so.map (·.block)=some w.heap.size):=by
  rcases A' with _|ad
  ·have adk:iw= []:=by
    rcases cS with h|⟨ad,h,_⟩
    ·exact h
    ·cases h
   subst adk
   simp only [dL]at I8
   subst I8
   refine⟨A,c,w,?_,by simpa using Mu,World.grownBy.refl w _,.inl rfl⟩
   rcases Mu.2 with⟨hv,h0⟩|⟨g,cap,di,hv,_,_,hnc,_⟩
   ·simp only [Value.slice.injEq]at hv
    obtain⟨rfl,_,rfl⟩:=hv
    subst h0
    simp [Builtin.append_,fk ht,sizeOf,typeInfo,kr,Builtin.lenOf,Builtin.firstCells]
   ·simp only [Value.slice.injEq,true_and]at hv
    obtain⟨rfl,rfl⟩:=hv
    simp [Builtin.append_,fk ht,sizeOf,typeInfo,kr,Builtin.lenOf,Builtin.firstCells,hnc,storeCells]
  ·have adm:∀j u,iw.flatten[j]?=some u→w.cell? (ad.add j)=some u:=by
    intro j u hj
    rcases cS with h|⟨ad',h,hc⟩
    ·subst h;simp at hj
    ·simp only [Option.some.injEq]at h
     subst h
     have xv:j<iw.length*(size+1):=by rw [←y7 iw sk];exact(xg.1 hj).1
     have hq:j/(size+1)<iw.length:=Nat.div_lt_of_lt_mul (by rw [Fj];exact xv)
     have iU:j%(size+1)<(iw[j/(size+1)]).length:=by rw [sk _ (IM hq)];exact Nat.mod_lt _  oM
     have h2:=I1 iw (size+1) sk (j/(size+1)) _ (kW hq) (j%(size+1)) _ (kW iU)
     have e:j/(size+1)*(size+1)+j%(size+1)=j:=by rw [Fj];exact Nat.div_add_mod _ _
     rw [e]at h2
     rw [hj]at h2
     have h3:=hc (j/(size+1)) _ (kW hq) (j%(size+1)) _ (kW iU)
     rw [e]at h3
     rw [h3];exact h2.symm
   obtain⟨v',w',gD,I_,hg,_,oA⟩:=run_append_own_at (P:=P) w 0 t o.type e i z (size+1) bytes ht kr A3 FM I9 hzc  oM (.slice A m c) m ls.flatten Mu ad m' c' iw.flatten (by rw [y7 iw sk,I8]) adm
    (fun u hu=>by
     obtain⟨z,Mv,huz⟩:=List.mem_flatten.1 hu
     exact Dg (h1 z Mv) u huz) adj hb (lI _)
   rw [IX]at hg oA
   have ado:∃so uo,v'= .slice so (m+m') uo:=by
    rcases I_.2 with⟨hv,h0⟩|⟨g,cap,di,hv,_⟩
    ·exact⟨none,0,by rw [h0];exact hv⟩
    ·exact⟨_,cap,hv⟩
   obtain⟨so,uo,rfl⟩:=ado
   rw [IX]at oA
   exact⟨so,uo,w',gD,by rw [List.flatten_append];exact I_,hg,oA⟩
 obtain⟨so,uo,w',gD,I_,hg,oA⟩:=key
 have adp:(execOp a.eval o).run P w= .ok (.value (.slice so (m+m') uo)) w':=by
  simp [execOp,ho,resolve,invoke,builtin,cu.eval hx,cu.eval hy,gD]
 refine vP adp ?_
 rw [hd]
 refine hk (so,uo) _ _ trivial ?_
 have hm:Mem (fun k=>A.map (·.block)=some k) w [.ae e (size+1) so (m+m') uo (ls++iw)] w':=by
  refine Mem.nil.cons (r:= .ae e (size+1) so (m+m') uo (ls++iw)) ⟨I_,g_,A4⟩ (fun k hk=>?_) sM
  simp only [an.at]at hk
  rcases oA with h|h
  ·rw [h]at hk;exact .inr hk
  ·rw [h]at hk;cases hk;exact .inl (ct _)
 have:=cu.change (Y:=fun k=>A.map (·.block)=some k) (cs:= [.ae e (size+1) A m c ls]) (ls:=l) hs.aI (aS.row hg (pA _ _ _ _ gD)) (fun k hk=>⟨.ae e (size+1) A m c ls,by simp,by simpa [an.at]using hk⟩) hm
 exact this.put hdn _
inductive uq(ah:List (Nat×Value))(size:Nat):Nat→List (Nat×Operand)→List Value→Prop where
 |nil {i:Nat}:uq ah size i [] []
 |cons {i:Nat} {x:Operand} {v:Value} {xs:List (Nat×Operand)} {vs:List Value} (h:ev ah x=some v) (hv:A2 v=false) (hl:(dW v).length=size) (h1:oC (dW v)=true) (t:uq ah size (i+1) xs vs):uq ah size i ((i,x)::xs) (v::vs)
theorem adq(cs:List Value):∀(off:Nat) (c:Array Value),off+cs.length≤c.size→
  (cs.zipIdx.foldl (fun(a:Array Value) (p:Value×Nat)=>a.setIfInBounds (off+p.2) p.1) c).toList=c.toList.take off++cs++c.toList.drop (off+cs.length):=by
 suffices h:∀(i off:Nat) (c:Array Value),off+i+cs.length≤c.size→
   ((cs.zipIdx i).foldl (fun(a:Array Value) (p:Value×Nat)=>a.setIfInBounds (off+p.2) p.1) c).toList=c.toList.take (off+i)++cs++c.toList.drop (off+i+cs.length) by
  intro off c hc
  simpa using h 0 off c  oM
 induction cs with
 |nil=>intro i off c _;simp
 |cons v cs ih=>
  intro i off c hc
  simp only [List.zipIdx_cons,List.foldl_cons]
  rw [ih (i+1) off (c.setIfInBounds (off+i) v) (by simp at hc⊢;omega)]
  rw [Array.toList_setIfInBounds]
  have:=list_seg_step c.toList (off+i) v cs (by simp at hc⊢;omega)
  simpa [AM]using this
theorem Td{size:Nat}:∀{i:Nat} {xs:List (Nat×Operand)} {vs:List Value},uq ah size i xs vs→cK X W n ⟨ah,mem⟩ a w→∀(c:Array Value),(i+xs.length)*size≤c.size→
  ∃c':Array Value,Instr.fill (fun i=>some (i*size,size)) c (xs.map fun p=>(p.1,a.eval p.2))=some c'∧c'.toList=c.toList.take (i*size)++(vs.map dW).flatten++c.toList.drop ((i+xs.length)*size)
 |i,_,_,.nil,_,c,_=>⟨c,rfl,by simp⟩
 |i,_,_,.cons (x:=x) (v:=v) (xs:=xs) (vs:=vs) h hv hl h1 t,hs,c,hc=>by
  have bR:v.cells=(dW v).toArray:=FJ hv
  simp only [eF]at hc
  have avb:i*size+size≤c.size:=by
   have:(i+1)*size≤(i+(xs.length+1))*size:=te _  oM
   rw [vD]at this;omega
  obtain⟨c',h2,h3⟩:=Td t hs (v.cells.zipIdx.foldl (fun cs (p:Value×Nat)=>cs.setIfInBounds (i*size+p.2) p.1) c) (by
   have h4:∀(l:List (Value×Nat)) (c:Array Value),(l.foldl (fun cs (p:Value×Nat)=>cs.setIfInBounds (i*size+p.2) p.1) c).size=c.size:=by
    intro l
    induction l with
    |nil=>intro c;rfl
    |cons p l ih=>intro c;rw [List.foldl_cons,ih];simp
   rw [←Array.foldl_toList,h4]
   rw [show i+1+xs.length=i+(xs.length+1)from oM];exact hc)
  refine⟨c',?_,?_⟩
  ·simp only [qq,Instr.fill,hs.eval h]
   rw [aB (by simp [bR,hl];omega)]
   exact h2
  ·have e:=adq (dW v) (i*size) c  oM
   have ez:(v.cells.zipIdx.foldl (fun cs (p:Value×Nat)=>cs.setIfInBounds (i*size+p.2) p.1) c).toList=c.toList.take (i*size)++dW v++c.toList.drop (i*size+(dW v).length):=by
    rw [←e,←Array.foldl_toList,bR];simp
   rw [h3,ez]
   have e1:(i+1)*size=(c.toList.take (i*size)++dW v).length:=by simp [hl,vD];omega
   have e2:(i+1+xs.length)*size=(c.toList.take (i*size)++dW v).length+xs.length*size:=by rw [←e1,vD]
   rw [e2,e1,List.take_left,List.drop_length_add_append,List.drop_drop]
   simp only [qq,xh,bj,eF]
   congr 4
   rw [hl,vD i,vD xs.length];omega
theorem uq.len{size i:Nat}{xs:List (Nat×Operand)}{vs:List Value}(h:uq ah size i xs vs):vs.length=xs.length∧∀z∈vs.map dW,z.length=size:=by
 induction h with
 |nil=>simp
 |cons h hv hl h1 t ih=>simp only [eF,ih.1,qq,gu,true_and];rintro z (rfl|hz);exact hl;exact ih.2 z hz
theorem dz{m size bytes:Nat}{zs:List Value}{xs:List (Nat×Operand)}{vs:List Value}(ho:o.op= .buildSlice t m xs.toArray)(hd:o.dst=some d)(hdn:Nat.blt d n=true)(ht:P.underlying t=some (.slice e))(hi:yZ P e zs (size+1) bytes)
  (hp:uq ah (size+1) 0 xs vs)(hm:xs.length=m)(avc:m*(size+1)≤16777216):
  H1 P X W n ⟨ah,mem⟩ o (fun _:Nat=>True) (fun b=>⟨(d,.slice (some ⟨b,0,none⟩) m m)::ah,.ae e (size+1) (some ⟨b,0,none⟩) m m (vs.map dW)::mem⟩):=by
 intro a w hs k Q hk
 obtain⟨i,z,kr,A3,FL,FM,I9⟩:=hi
 subst hm
 obtain⟨gn,hz⟩:=hp.len
 let zero:Array Value:=if xs.length*(size+1)=0 then #[]else z.cells
 obtain⟨c',hf,A5⟩:=Td (a:=a) hp hs ((Array.range (xs.length*(size+1))).map (zero[· %zero.size]!)) sM
 have A6:c'.toList=(vs.map dW).flatten:=by
  rw [A5,ox sM];simp
 have nq:c'=(vs.map dW).flatten.toArray:=by rw [←A6]
 have gD:(execOp a.eval o).run P w= .ok (.value (.slice (some ⟨w.heap.size,0,none⟩) xs.length xs.length)) (w.alloc (.cells (vs.map dW).flatten.toArray e)):=by
  have FN:(xs.toArray.map fun x=>(x.1,a.eval x.2)).toList=xs.map fun p=>(p.1,a.eval p.2):=by simp
  rw [←nq]
  simp only [execOp,ho,Instr.buildSlice,pw,fk ht,sf,sizeOf,typeInfo,uc,run_program,kr,FM,FN]
  have iy:¬(xs.length*(size+1)>2^24):=oM
  simp only [iy,vF]
  by_cases h0:xs.length*(size+1)=0
  ·have jq:zero= #[]:=by simp [zero,h0]
   rw [jq]at hf
   simp only [h0]at hf⊢
   simp only [pw,uc,sf,if_true,hf]
   simp [newRow]
  ·have jq:zero=z.cells:=by simp [zero,h0]
   rw [jq]at hf
   simp [h0,zeroValue,typeInfo,kr,A3,hf,newRow]
 refine vP gD ?_
 rw [hd]
 refine hk w.heap.size _ _ trivial (cK.put (hs.new _ (.ae e (size+1) (some ⟨w.heap.size,0,none⟩) xs.length xs.length (vs.map dW)) ⟨?_,?_,hz⟩ (fun _ h=>(Option.some.inj h).symm)) hdn _)
 ·have:=World.ownsRow_lit (base:=0) (e:=e) (size:=size+1) w (vs.map dW).flatten.toArray xs.length (lI _) (by have:=Nat.le_mul_of_pos_right xs.length (show 0<size+1 from oM);simp [maxLen];omega) (by simp only [List.size_toArray];rw [y7 _ hz,bG,gn])
  simpa using this
 ·simp [gn]
theorem A8{m cap:Nat}{kl kc:IntKind}{z:Value}{bytes:Nat}(ho:o.op= .makeSlice t x y)(hd:o.dst=some d)(hdn:Nat.blt d n=true)(ht:P.underlying t=some (.slice e))(hi:yZ P e [z] 1 bytes)(hx:ev ah x=some (.int kl m))(hy:ev ah y=some (.int kc cap))(FK:m≤cap)
  (hb:bytes*cap≤281474976710656)(Mt:cap≤9223372036854775807):
  H1 P X W n ⟨ah,mem⟩ o (fun _:Nat=>True) (fun b=>⟨(d,.slice (some ⟨b,0,none⟩) m cap)::ah,.ae e 1 (some ⟨b,0,none⟩) m cap (List.replicate m [z])::mem⟩):=by
 intro a w hs k Q hk
 obtain⟨i,z',kr,A3,FL,FM,I9⟩:=hi
 have sk:z'.cells= #[z]:=by apply Array.ext';simpa using FL
 have l9:(i.bytes:Int)*(cap:Int)≤281474976710656:=by
  rw [I9]
  have h:((bytes*cap:Nat):Int)≤281474976710656:=oM
  rwa [yS]at h
 have hr:=run_make (P:=P) w t e i z' ht kr A3 kl kc m cap  oM oM l9  oM
 simp only [Int.toNat_natCast,FM,Nat.mul_one,sk]at hr
 have gD:(execOp a.eval o).run P w= .ok (.value (.slice (some ⟨w.heap.size,0,none⟩) m cap)) (w.alloc (.cells (madeCells #[z] cap) e)):=by
  simp [execOp,ho,hs.eval hx,hs.eval hy,hr]
 refine vP gD ?_
 rw [hd]
 refine hk w.heap.size _ _ trivial (cK.put (hs.new _ (.ae e 1 (some ⟨w.heap.size,0,none⟩) m cap (List.replicate m [z])) ⟨⟨?_,.inr ⟨w.heap.size,cap,_,rfl,lI _,heap_alloc_new w _,FK,by simpa [maxLen]using Mt,by simp [size_madeCells],?_⟩⟩,by simp,by simp⟩ (fun _ h=>(Option.some.inj h).symm)) hdn _)
 ·rw [y7 (size:=1) _ sM];simp
 ·rw [toList_madeCells_one]
  simp only [Nat.mul_one,List.take_replicate,Nat.min_eq_left FK]
  simp
theorem pE{f:FuncId}{xs:List Operand}{ts:Array TypeId}{vs:List Value}{Y:World→Nat→Prop}{Φ:Value→List an→Prop}(cs ls:List an)(ho:o.op= .call {callee:= .value (.func f),args:=xs.toArray,argTypes:=ts})(hd:o.dst=some d)(hdn:Nat.blt d n=true)
  (hf:fb P f)(hx:kL ah xs vs)(hp:mem.Perm (cs++ls))(hY:∀w b,Y w b→∃r∈cs,r.at b)(hc:∀w,aS X W w→Mem X W mem w→Calls P f vs.toArray w (bk w (Y w) Φ)):
  H1 P X W n ⟨ah,mem⟩ o (fun i:Value×List an=>Φ i.1 i.2) (fun i=>⟨(d,i.1)::ah,i.2++ls⟩):=by
 intro a w hs k Q hk
 unfold Oper.wp
 rw [S6 ho hf hx hs]
 refine(hc w hs.dv hs.mem).mono ?_
 rintro e w' ⟨v,m,hΦ,rfl,FO,hm⟩
 have h2:=(hs.change hp FO (hY w) hm).put hdn v
 show k (a.put o.dst v) w'
 rw [hd]
 exact hk (v,m) _ _ hΦ h2
theorem kM{f:FuncId}{xs:List Operand}{ts:Array TypeId}{vs:List Value}{Φ:Value→List an→Prop}(ho:o.op= .call {callee:= .value (.func f),args:=xs.toArray,argTypes:=ts})(hd:o.dst=some d)(hdn:Nat.blt d n=true)
  (hf:fb P f)(hx:kL ah xs vs)(hc:∀w,aS X W w→Mem X W mem w→Calls P f vs.toArray w (bk w nX Φ)):
  H1 P X W n ⟨ah,mem⟩ o (fun i:Value×List an=>Φ i.1 i.2) (fun i=>⟨(d,i.1)::ah,i.2++mem⟩):=
 pE (Y:=fun _=>nX) [] mem ho hd hdn hf hx (List.Perm.refl _) (fun _ _ h=>h.elim) hc
end
theorem ax.tj{m:List an}:ax m (.aZ []::m):=ax.close_ (rs:= [])
theorem ax.cg{m:List an}(e:TypeId)(size:Nat):ax m (.ae e size none 0 0 []::m):=fun _ _ w h=>
 ⟨h.cons (r:= .ae e size none 0 0 []) ⟨⟨by simp,.inl ⟨rfl,rfl⟩⟩,rfl,by simp⟩ (fun b hb=>by simp [an.at]at hb) (fun _ _ b hb=>by simp [an.at]at hb),
  fun r hr b hb=>by
  rcases gu.1 hr with rfl|hr
  ·simp [an.at]at hb
  ·exact⟨r,hr,hb⟩⟩
end
inductive l_(P:Program)(ah:List (Nat×Value))(mem:List an):List ResultVar→List Value→Prop where
 |nil:l_ P ah mem [] []
 |tmp {t:Tmp} {v:Value} {rs:List ResultVar} {vs:List Value} (h:cW ah t=some v) (r:l_ P ah mem rs vs):l_ P ah mem (.tmp t::rs) (v::vs)
 |Di {a:Tmp} {T tb:TypeId} {b i s:Nat} {cs:List (Nat×Value)} {l:List an} {us:List Value} {rs:List ResultVar} {vs:List Value} (h:cW ah a=some (.pointer (some ⟨b,i,none⟩))) (ht:pC P T s) (hs:ag mem (.aj b tb cs) l) (hv:mP cs i us) (hl:us.length=s)
   (r:l_ P ah mem rs vs):l_ P ah mem (.cell a T::rs) (.agg us.toArray::vs)
 |Te {a:Tmp} {T tb:TypeId} {b i:Nat} {cs:List (Nat×Value)} {l:List an} {u:Value} {rs:List ResultVar} {vs:List Value} (h:cW ah a=some (.pointer (some ⟨b,i,none⟩))) (ht:k9 P T) (hs:ag mem (.aj b tb cs) l) (hv:cW cs i=some u)
   (r:l_ P ah mem rs vs):l_ P ah mem (.cell a T::rs) (u::vs)
def Mw:List Value→Value
 | [v]=>v
 |vs=> .tuple vs.toArray
def FP(tmps:Array Value):ResultVar→Sem Value
 | .tmp t=>pure (tmps.getD t undef)
 | .cell ad t=>do loadVar t (←asAddr (tmps.getD ad undef))
theorem ads{P:Program}{X:Nat→Prop}{W:World}{n:Nat}{ah:List (Nat×Value)}{mem:List an}{rs:List ResultVar}{vs:List Value}(h:l_ P ah mem rs vs){a:Act}{w:World}(hs:cK X W n ⟨ah,mem⟩ a w):
  (rs.mapM (FP a.tmps)).run P w= .ok vs w:=by
 induction h with
 |nil=>simp
 |tmp h r ih=>simp [List.mapM_cons,FP,hs.ah _ _ h,ih]
 |Di h ht cR hv hl r ih=>
  have hc:=run_loadCells_list (P:=P) w ⟨_,_,none⟩ _ (fun j v hj=>by rw [yR];exact De (cR.holds hs.mem) (hv.get j v hj))
  simp [List.mapM_cons,FP,hs.ah _ _ h,ih,asAddr,loadVar,ht.1,ht.2.run,←hl,hc]
 |Te h ht cR hv r ih=>
  have hc:=De (cR.holds hs.mem) hv
  simp [List.mapM_cons,FP,hs.ah _ _ h,ih,asAddr,loadVar,ht.1,hc]
theorem cX{P:Program}{fn:Func}{X:Nat→Prop}{W:World}{n:Nat}{ah:List (Nat×Value)}{mem:List an}{Φ:Value→List an→Prop}{rs:List ResultVar}{vs:List Value}(hr:fn.results=rs.toArray)(ho:l_ P ah mem rs vs)(xu:List an)(hm:ax mem xu)(hΦ:Φ (Mw vs) xu):
  aW P fn (bk W X Φ) X W n [] ⟨ah,mem⟩:=by
 intro a w hs
 refine⟨hs.defers,Mw vs,?_,_,xu,hΦ,rfl,hs.dv,(hm _ _ _ hs.mem).1⟩
 have h:=ads ho hs
 have e:results fn a.tmps=(do let vs←rs.toArray.mapM (FP a.tmps);pure (if h:vs.size=1 then vs[0]else .tuple vs)):=by
  unfold results;rw [hr];rfl
 rw [e]
 simp only [List.mapM_toArray,pw,Sem.run_map,h,sf,uc]
 congr 1
 cases vs with
 |nil=>rfl
 |cons v r=>cases r<;>simp [Mw]
end Hr
end Go.Proofs.YtafaoccjbifbaaaGreat
