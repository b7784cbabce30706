/- Part. -/
import Derived.ChangeKeysEq
import Derived.Deep.Fields
import Derived.Deep.Slices
import Derived.Ground.SlsfProg
import Derived.Laws.Bits64b
import Derived.Laws.IdiomRangeMap
import Derived.Laws.IdiomStrings
import Derived.Lib.BitFns
import Derived.LoopN
import Derived.MapKept
import Derived.Maps.AppendAt
import Derived.OpenShut
import Derived.Orders
import Derived.OrdersIn
import Derived.OwnWalkIn
import Derived.ProofKit
import Derived.RangeFuncBound
import Derived.RangeFuncCalls
import Derived.RangeFuncLeaves
import Derived.RangeFuncNested
import Derived.Scope
import Derived.Shelf.SlGeneric
import Derived.Still
import Derived.Test.YtdahjfmmndjcpaaGreatProg
import Derived.WalkKit
import Derived.WalkLawsBesides
import Derived.WalkSpells
import Derived.WideKeyRuns
set_option linter.unusedSimpArgs false
set_option linter.unusedVariables false
set_option maxHeartbeats 40000000
set_option maxRecDepth 100000
namespace Go.Proofs.YtdahjfmmndjcpaaGreat
namespace Hr
end Hr
open Go Go.RowKit Hr Go.Proofs.Tryz
theorem oM{p:Prop}(h:p:=by omega):p:=h
theorem dO{p:Prop}(h:p:=by(try dsimp only);omega):p:=h
theorem lE{p:Prop}(h:p:=by(try simp only [aP,fL,pM])<;>omega):p:=h
theorem lH{q p:Prop}(h:q)(g:q→p:=by intro this;simp only [aP,fL,pM]at this⊢;omega):p:=g h
theorem sM{p:Prop}(h:p:=by simp):p:=h
abbrev zz:Value:= .int .i64 0
abbrev zq:Value:= .slice none 0 0
theorem ay:type_of%@if_neg:=@if_neg
theorem aC:type_of%@congrArg:=@congrArg
theorem aG:type_of%@if_pos:=@if_pos
theorem aP:type_of%@List.length_append:=@List.length_append
theorem bD:type_of%@List.length_map:=@List.length_map
theorem bP:type_of%@List.append_assoc:=@List.append_assoc
theorem bR:type_of%@underlying3:=@underlying3
theorem cm:type_of%@Nat.le_refl:=@Nat.le_refl
theorem cn:type_of%@decide_eq_false:=@decide_eq_false
theorem cB:type_of%@List.map_append:=@List.map_append
theorem cL:type_of%@run_underlying:=@run_underlying
theorem cM:type_of%@List.mem_map:=@List.mem_map
theorem cS:type_of%@List.mem_singleton:=@List.mem_singleton
theorem dz:type_of%@decide_eq_true:=@decide_eq_true
theorem dH:type_of%@List.mem_cons_self:=@List.mem_cons_self
theorem dJ:type_of%@List.mem_append:=@List.mem_append
theorem dQ:type_of%@run_equalIn_int:=@run_equalIn_int
theorem eD:type_of%@List.length_pos_iff:=@List.length_pos_iff
theorem eM:type_of%@List.length_set:=@List.length_set
theorem eN:type_of%@Bool.true_and:=@Bool.true_and
theorem eT:type_of%@List.mem_cons_of_mem:=@List.mem_cons_of_mem
theorem ft:type_of%@Bool.and_eq_true:=@Bool.and_eq_true
theorem fL:type_of%@List.length_take:=@List.length_take
theorem fW:type_of%@List.length_cons:=@List.length_cons
theorem fX:type_of%@List.getElem_of_mem:=@List.getElem_of_mem
theorem fY:type_of%@List.mem_range:=@List.mem_range
theorem gn:type_of%@IntKind.wrap_i64:=@IntKind.wrap_i64
theorem gp:type_of%@List.map_set:=@List.map_set
theorem gq:type_of%@Bool.and_true:=@Bool.and_true
theorem gA:type_of%@Nat.zero_le:=@Nat.zero_le
theorem gT:type_of%@List.append_nil:=@List.append_nil
theorem gU:type_of%@List.take_of_length_le:=@List.take_of_length_le
theorem ib:type_of%@List.mem_cons:=@List.mem_cons
theorem iu:type_of%@Bool.false_or:=@Bool.false_or
theorem iK:type_of%@decide_eq_true_eq:=@decide_eq_true_eq
theorem ja:type_of%@List.mem_flatMap:=@List.mem_flatMap
theorem jc:type_of%@underlying5:=@underlying5
theorem jo:type_of%@Nat.lt_or_ge:=@Nat.lt_or_ge
theorem jq:type_of%@List.length_nil:=@List.length_nil
theorem jr:type_of%@beq_iff_eq:=@beq_iff_eq
theorem jt:type_of%@List.getElem?_map:=@List.getElem?_map
theorem ju:type_of%@List.flatMap_append:=@List.flatMap_append
theorem jv:type_of%@Bool.true_or:=@Bool.true_or
theorem jJ:type_of%@underlying32:=@underlying32
theorem j3:type_of%@List.sublist_append_right:=@List.sublist_append_right
theorem j4:type_of%@List.getElem?_eq_getElem:=@List.getElem?_eq_getElem
theorem j5:type_of%@Bool.false_and:=@Bool.false_and
theorem ku:type_of%@beq_eq_false_iff_ne:=@beq_eq_false_iff_ne
theorem kM:type_of%@and_true:=@and_true
theorem kN:type_of%@Bool.and_false:=@Bool.and_false
theorem la:type_of%@Nat.le_trans:=@Nat.le_trans
theorem lD:type_of%@List.any_eq_true:=@List.any_eq_true
theorem lF:type_of%@bne_eq_false_iff_eq:=@bne_eq_false_iff_eq
theorem lG:type_of%@Bool.not_false:=@Bool.not_false
theorem l9:type_of%@Bool.or_true:=@Bool.or_true
theorem l_:type_of%@Bool.or_false:=@Bool.or_false
theorem mf:type_of%@Bool.not_true:=@Bool.not_true
theorem na:type_of%@run_equalIn_struct:=@run_equalIn_struct
theorem oU:type_of%@List.range_succ:=@List.range_succ
theorem oV:type_of%@List.map_map:=@List.map_map
theorem pM:type_of%@List.length_drop:=@List.length_drop
theorem pN:type_of%@underlying43:=@underlying43
theorem qC:type_of%@underlying4:=@underlying4
theorem rj:type_of%@List.pairwise_append:=@List.pairwise_append
theorem rk:type_of%@List.take_append_drop:=@List.take_append_drop
theorem rl:type_of%@Eq.trans:=@Eq.trans
theorem sA:type_of%@List.drop_eq_nil_of_le:=@List.drop_eq_nil_of_le
theorem sB:type_of%@List.map_cons:=@List.map_cons
theorem sC:type_of%@List.length_singleton:=@List.length_singleton
theorem sD:type_of%@Bool.eq_iff_iff:=@Bool.eq_iff_iff
theorem sE:type_of%@List.map_flatMap:=@List.map_flatMap
theorem sG:type_of%@Bool.and_assoc:=@Bool.and_assoc
theorem tz:type_of%@Option.map_some:=@Option.map_some
theorem tA:type_of%@List.flatten_cons:=@List.flatten_cons
theorem tB:type_of%@List.getElem?_eq_none:=@List.getElem?_eq_none
theorem tC:type_of%@List.flatMap_def:=@List.flatMap_def
theorem tD:type_of%@bne_iff_ne:=@bne_iff_ne
theorem tE:type_of%@underlying9:=@underlying9
theorem tF:type_of%@bne_self_eq_false:=@bne_self_eq_false
theorem uC:type_of%@List.getElem?_append_right:=@List.getElem?_append_right
theorem uD:type_of%@Nat.add_mul:=@Nat.add_mul
theorem uE:type_of%@Option.isSome_iff_exists:=@Option.isSome_iff_exists
theorem uF:type_of%@Nat.mul_le_mul_right:=@Nat.mul_le_mul_right
theorem uG:type_of%@List.drop_eq_getElem_cons:=@List.drop_eq_getElem_cons
theorem uH:type_of%@List.filter_append:=@List.filter_append
theorem uI:type_of%@List.ext_getElem:=@List.ext_getElem
theorem uJ:type_of%@List.flatMap_cons:=@List.flatMap_cons
theorem uK:type_of%@underlying209:=@underlying209
theorem wg:type_of%@Addr.add_lit:=@Addr.add_lit
theorem wh:type_of%@Sem.run_bind:=@Sem.run_bind
theorem wi:type_of%@List.mem_of_mem_take:=@List.mem_of_mem_take
theorem wj:type_of%@decide_eq_false_iff_not:=@decide_eq_false_iff_not
theorem wk:type_of%@List.perm_middle:=@List.perm_middle
theorem wm:type_of%@Nat.le_of_lt:=@Nat.le_of_lt
theorem wu:type_of%@underlying170:=@underlying170
theorem xO:type_of%@Nat.eq_of_beq_eq_true:=@Nat.eq_of_beq_eq_true
theorem xP:type_of%@Nat.lt_of_lt_of_le:=@Nat.lt_of_lt_of_le
theorem xQ:type_of%@List.getElem?_eq_some_iff:=@List.getElem?_eq_some_iff
theorem xR:type_of%@Nat.zero_add:=@Nat.zero_add
theorem xS:type_of%@Result.andThen_ok:=@Result.andThen_ok
theorem xT:type_of%@List.ext_getElem?:=@List.ext_getElem?
theorem xU:type_of%@List.mem_or_eq_of_mem_set:=@List.mem_or_eq_of_mem_set
theorem xV:type_of%@Int.le_refl:=@Int.le_refl
theorem xW:type_of%@List.map_take:=@List.map_take
theorem xX:type_of%@List.length_range:=@List.length_range
theorem zt:type_of%@Nat.add_assoc:=@Nat.add_assoc
theorem zu:type_of%@List.mem_filter:=@List.mem_filter
theorem zw:type_of%@List.all_eq_true:=@List.all_eq_true
theorem zx:type_of%@List.sublist_cons_self:=@List.sublist_cons_self
theorem zy:type_of%@List.getD_eq_getElem?_getD:=@List.getD_eq_getElem?_getD
theorem zB:type_of%@List.pairwise_iff_getElem:=@List.pairwise_iff_getElem
theorem zC:type_of%@List.take_length:=@List.take_length
theorem zD:type_of%@List.not_mem_nil:=@List.not_mem_nil
theorem zF:type_of%@or_false:=@or_false
theorem zG:type_of%@List.set_append_right:=@List.set_append_right
theorem zH:type_of%@Nat.sub_self:=@Nat.sub_self
theorem zJ:type_of%@Oper.semAt_plain:=@Oper.semAt_plain
theorem zK:type_of%@of_decide_eq_true:=@of_decide_eq_true
theorem zL:type_of%@underlying128:=@underlying128
theorem zM:type_of%@List.getElem?_set_self:=@List.getElem?_set_self
theorem Bp:type_of%@Code.wp_mono:=@Code.wp_mono
theorem Bt:type_of%@List.cons_append:=@List.cons_append
theorem Bu:type_of%@List.getElem?_append_left:=@List.getElem?_append_left
theorem Bv:type_of%@Sem.run_pure:=@Sem.run_pure
theorem Bw:type_of%@Nat.lt_irrefl:=@Nat.lt_irrefl
theorem Bx:type_of%@List.nil_append:=@List.nil_append
theorem By:type_of%@Nat.mul_comm:=@Nat.mul_comm
theorem Bz:type_of%@List.getElem_mem:=@List.getElem_mem
theorem BB:type_of%@List.mem_of_getElem?:=@List.mem_of_getElem?
theorem BC:type_of%@List.mem_append_left:=@List.mem_append_left
theorem DR:type_of%@Array.getElem?_eq_none:=@Array.getElem?_eq_none
theorem DS:type_of%@List.pairwise_cons:=@List.pairwise_cons
theorem DT:type_of%@List.getElem?_take:=@List.getElem?_take
theorem DU:type_of%@Array.length_toList:=@Array.length_toList
theorem DV:type_of%@Nat.add_sub_cancel:=@Nat.add_sub_cancel
theorem DW:type_of%@List.filter_cons:=@List.filter_cons
theorem DX:type_of%@World.alloc_heap_new:=@World.alloc_heap_new
theorem DY:type_of%@List.map_congr_left:=@List.map_congr_left
theorem DZ:type_of%@Bool.false_eq_true:=@Bool.false_eq_true
theorem F7:type_of%@Classical.choose_spec:=@Classical.choose_spec
theorem F8:type_of%@List.set_cons_succ:=@List.set_cons_succ
theorem F9:type_of%@Nat.succ_mul:=@Nat.succ_mul
theorem F_:type_of%@List.foldl_cons:=@List.foldl_cons
theorem Ga:type_of%@Array.foldl_toList:=@Array.foldl_toList
theorem Gb:type_of%@Int.natCast_mul:=@Int.natCast_mul
theorem Gc:type_of%@Region.noSelect_spec:=@Region.noSelect_spec
theorem Ge:type_of%@Region.free_spec:=@Region.free_spec
theorem Gf:type_of%@Option.getD_some:=@Option.getD_some
theorem Gg:type_of%@List.take_succ_cons:=@List.take_succ_cons
theorem Gh:type_of%@Decidable.not_not:=@Decidable.not_not
theorem Gi:type_of%@List.take_append_of_le_length:=@List.take_append_of_le_length
theorem Gj:type_of%@List.eq_of_mem_replicate:=@List.eq_of_mem_replicate
theorem Gk:type_of%@Nat.add_zero:=@Nat.add_zero
theorem Gl:type_of%@List.getElem?_set:=@List.getElem?_set
theorem Gm:type_of%@MapKept.run_getObj_map:=@MapKept.run_getObj_map
theorem JW:type_of%@Array.getElem?_append_left:=@Array.getElem?_append_left
theorem JX:type_of%@Int.ediv_nonneg:=@Int.ediv_nonneg
theorem JY:type_of%@Int.ediv_le_self:=@Int.ediv_le_self
theorem JZ:type_of%@run_equalIn_bool':=@run_equalIn_bool'
theorem J0:type_of%@run_storeCells_at:=@run_storeCells_at
theorem J1:type_of%@Nat.min_eq_left:=@Nat.min_eq_left
theorem J2:type_of%@Nat.add_sub_cancel_left:=@Nat.add_sub_cancel_left
theorem J3:type_of%@List.getElem?_cons_zero:=@List.getElem?_cons_zero
theorem J4:type_of%@List.filter_eq_self:=@List.filter_eq_self
theorem J5:type_of%@Int.mul_le_mul_of_nonneg_right:=@Int.mul_le_mul_of_nonneg_right
theorem J6:type_of%@Array.toList_inj:=@Array.toList_inj
theorem J7:type_of%@Bool.not_eq_true:=@Bool.not_eq_true
theorem J8:type_of%@List.mem_append_right:=@List.mem_append_right
theorem J9:type_of%@List.foldl_append:=@List.foldl_append
theorem J_:type_of%@Bool.or_eq_false_iff:=@Bool.or_eq_false_iff
theorem Ka:type_of%@Bool.not_eq_true':=@Bool.not_eq_true'
theorem Kb:type_of%@Bool.not_eq_false':=@Bool.not_eq_false'
theorem NO:type_of%@Array.getElem?_eq_some_iff:=@Array.getElem?_eq_some_iff
theorem NP:type_of%@List.getElem?_toArray:=@List.getElem?_toArray
theorem NQ:type_of%@List.drop_length_add_append:=@List.drop_length_add_append
theorem NR:type_of%@Array.getD_eq_getD_getElem?:=@Array.getD_eq_getD_getElem?
theorem NS:type_of%@Array.getElem?_eq_getElem:=@Array.getElem?_eq_getElem
theorem NT:type_of%@List.perm_append_comm:=@List.perm_append_comm
namespace Hr
theorem NU{α:Type}:∀(q:Ask α) (w:World),w.drawn≤(w.ask q).2.drawn
 | .done a,w=>cm _
 | .ask avT range k,w=>by
  unfold World.ask
  simp only
  split
  ·exact NU _ _
  ·exact la (Nat.le_succ _) (NU (k _) {w with drawn:=w.drawn+1})
theorem adX(w:World)(c:Sys):w.drawn≤(w.sys c).2.drawn:=by
 have h:=NU (Kernel.perform c w.os) w
 unfold World.sys
 split
 ·exact cm _
 ·rename_i r os w' e
  rw [e]at h
  exact h
theorem adY(w:World)(a:Addr)(v:Value):(w.setCell a v).drawn=w.drawn:=rfl
theorem adZ(w:World)(a:Addr)(n:Nat):(w.freeze a n).drawn=w.drawn:=by
 unfold World.freeze
 split<;>rfl
theorem ad0{p:Program}{w w':World}{cD:Addr}{u:TypeId}{k:Addr}{v:Value}{atomic:Bool}{l:List Addr}(h:w.viewStore p cD u k v atomic= .ok (w',l)):w'.drawn=w.drawn:=by
 unfold World.viewStore at h
 simp only [bind,Except.bind,pure,Except.pure,throw,throwThe,MonadExceptOf.throw]at h
 repeat' split at h
 all_goals first
  |(cases h;rfl)
  |(cases h;done)
  |skip
theorem ad1{p:Program}{w w':World}{a:Addr}{v:Value}{atomic:Bool}{l:List Addr}(h:w.farStore p a v atomic= .ok (w',l)):w'.drawn=w.drawn:=by
 unfold World.farStore at h
 split at h
 ·split at h
  ·rename_i r e
   cases h
   exact ad0 e
  ·cases h
 ·cases h
theorem pO{α:Type}{p:Program}:∀(s:Sem α) (w w':World) (a:α),s.run p w= .ok a w'→w.drawn≤w'.drawn
 | .pure a,w,w',b,h=>by simp only [Sem.run]at h;cases h;exact cm _
 | .load m a k,w,w',b,h=>by
  simp only [Sem.run]at h
  split at h
  ·exact pO _ _ _ _ h
  ·split at h
   ·exact pO _ _ _ _ h
   ·cases h
 | .store m a v k,w,w',b,h=>by
  cases v<;>(simp only [Sem.run]at h;first|(cases h;done)|skip)<;>
  (split at h
   ·split at h
    ·cases h
    ·exact la (Nat.le_of_eq (adY w a _).symm) (pO k _ _ _ h)
   ·split at h
    ·rename_i e;exact la (Nat.le_of_eq (ad1 e).symm) (pO k _ _ _ h)
    ·cases h)
 | .new o k,w,w',b,h=>by simp only [Sem.run]at h;exact pO (k _) {w with heap:=w.heap.push o} _ _ h
 | .shape r k,w,w',b,h=>by simp only [Sem.run]at h;exact pO _ _ _ _ h
 | .freeze a n k,w,w',b,h=>by simp only [Sem.run]at h;exact la (Nat.le_of_eq (adZ w a n).symm) (pO k _ _ _ h)
 | .frozen a k,w,w',b,h=>by simp only [Sem.run]at h;exact pO _ _ _ _ h
 | .getObj r k,w,w',b,h=>by
  simp only [Sem.run]at h
  split at h
  ·cases h
  ·exact pO _ _ _ _ h
  ·cases h
 | .setObj r o k,w,w',b,h=>by
  simp only [Sem.run]at h
  split at h
  ·cases h
  ·exact pO k {w with heap:=w.heap.setIfInBounds r o} _ _ h
  ·cases h
 | .choose q k,w,w',b,h=>by
  simp only [Sem.run]at h
  split at h
  ·exact pO _ _ _ _ h
  ·exact la (Nat.le_succ _) (pO (k _) {w with drawn:=w.drawn+1} _ _ h)
 | .sys c k,w,w',b,h=>by simp only [Sem.run]at h;exact la (adX w c) (pO (k _) _ _ _ h)
 | .program k,w,w',b,h=>by simp only [Sem.run]at h;exact pO _ _ _ _ h
 | .mark _ k,w,w',b,h=>by simp only [Sem.run]at h;exact pO _ _ _ _ h
 | .halt x,w,w',b,h=>by simp only [Sem.run]at h;cases h
end Hr
section
namespace Hr
def dj:List (Nat×Value)→Nat→Option Value
 | [],_=>none
 |(k,v)::r,i=>match Nat.beq k i with
  |true=>some v
  |false=>dj r i
theorem Gn(k:Nat)(v:Value)(r:List (Nat×Value)):dj ((k,v)::r) k=some v:=by
 simp [dj]
theorem Gp{k i:Nat}(h:k≠i)(v:Value)(r:List (Nat×Value)):dj ((k,v)::r) i=dj r i:=by
 have:Nat.beq k i=false:=by
  cases hb:Nat.beq k i with
  |true=>exact absurd (xO hb) h
  |false=>rfl
 simp [dj,this]
structure aU(X:Nat→Prop)(w w':World):Prop where
 os:w'.os=w.os
 tape:w'.tape=w.tape
 output:w'.output=w.output
 size:w.heap.size≤w'.heap.size
 block:∀k,k<w.heap.size→¬X k→w'.heap[k]?=w.heap[k]?
 drawn:w.drawn≤w'.drawn
def nX:Nat→Prop:=fun _=>False
theorem aU.refl(X:Nat→Prop)(w:World):aU X w w:=⟨rfl,rfl,rfl,cm _,fun _ _ _=>rfl,cm _⟩
theorem aU.step{X Y:Nat→Prop}{a b c:World}(h:aU X a b)(g:aU Y b c)(hY:∀k,k<a.heap.size→¬X k→¬Y k):aU X a c:=
 ⟨g.os.trans h.os,g.tape.trans h.tape,g.output.trans h.output,la h.size g.size,
  fun k hk hx=>(g.block k (xP hk h.size) (hY k hk hx)).trans (h.block k hk hx),la h.drawn g.drawn⟩
theorem aU.ad2{w w':World}(h:Below w.heap.size w w')(hd:w.drawn≤w'.drawn):aU nX w w':=⟨h.os,h.tape,h.output,h.size,fun k hk _=>h.block k hk,hd⟩
theorem aU.below{w w':World}(h:aU nX w w'):Below w.heap.size w w':=⟨h.os,h.tape,h.output,h.size,fun k hk=>h.block k hk (fun e=>e)⟩
theorem aU.fu{X:Nat→Prop}{a b c:World}(h:aU X a b)(g:aU nX b c):aU X a c:=h.step g (fun _ _ _ e=>e)
theorem aU.drew{X:Nat→Prop}{a b:World}(h:aU X a b):aU X a {b with drawn:=b.drawn+1}:=⟨h.os,h.tape,h.output,h.size,h.block,la h.drawn (Nat.le_succ _)⟩
theorem aU.alloc(w:World)(o:Obj):aU nX w (w.alloc o):=aU.ad2 ((Below.refl _ _).alloc (cm _) o) (cm _)
theorem aU.setCell(w:World)(a:Addr)(u:Value):aU (fun k=>k=a.block) w (w.setCell a u):=
 ⟨rfl,rfl,rfl,by simp [World.setCell],fun k _ hx=>Below.heap_setCell _ _ _ _ hx,cm _⟩
inductive ak where
 |ai (b:Nat) (t:TypeId) (cs:List (Nat×Value))
 |ae (t:TypeId) (size:Nat) (A:Option Addr) (n c:Nat) (ls:List (List Value))
 |any (cD:Nat→Prop) (Q:World→Prop) (lt:∀w,Q w→∀b,cD b→b<w.heap.size) (og:∀w w',Q w→(∀b,cD b→w'.heap[b]?=w.heap[b]?)→Q w')
def ak.at:ak→Nat→Prop
 | .ai b _ _=>fun k=>b=k
 | .ae _ _ A _ _ _=>fun k=>A.map (·.block)=some k
 | .any cD _ _ _=>cD
def ak.holds(w:World):ak→Prop
 | .ai b t cs=>∃c:Array Value,w.heap[b]?=some (.cells c t (0,0))∧∀i v,dj cs i=some v→c[i]?=some v
 | .ae t size A n c ls=>w.ownsRow 0 t size (.slice A n c) n ls.flatten∧ls.length=n∧∀x∈ls,x.length=size
 | .any _ Q _ _=>Q w
theorem Kc(A:Option Addr)(n c:Nat):(Value.slice A n c).ownBlock=A.map (·.block):=by cases A<;>rfl
theorem tG{w:World}{b:Nat}{o:Obj}(h:w.heap[b]?=some o):b<w.heap.size:=by
 rcases jo b w.heap.size with bG|BD
 ·exact bG
 ·rw [DR BD]at h;cases h
theorem ak.holds.lt{w:World}{r:ak}(h:r.holds w):∀b,r.at b→b<w.heap.size:=by
 intro b hb
 cases r with
 |ai b' t cs=>
  obtain⟨c,hc,_⟩:=h
  simp only [ak.at]at hb
  subst hb
  exact tG hc
 |ae t size A n c ls=>exact(World.ownsRow.lt h.1 b (by rw [Kc];exact hb)).2
 |any cD Q lt og=>exact lt w h b hb
theorem ak.holds.og{w w':World}{r:ak}(h:r.holds w)(hk:∀b,r.at b→w'.heap[b]?=w.heap[b]?):r.holds w':=by
 cases r with
 |ai b' t cs=>
  obtain⟨c,hc,h2⟩:=h
  exact⟨c,(hk b' rfl).trans hc,h2⟩
 |ae t size A n c ls=>
  obtain⟨⟨h1,h2⟩,h3⟩:=h
  refine⟨⟨h1,?_⟩,h3⟩
  rcases h2 with h2|⟨g,cap,fe,hv,hg,hh,r⟩
  ·exact .inl h2
  ·refine .inr ⟨g,cap,fe,hv,hg,(hk g ?_).trans hh,r⟩
   simp only [Value.slice.injEq]at hv
   show A.map (·.block)=some g
   rw [hv.1];rfl
 |any cD Q lt og=>exact og w w' h hk
structure Mem(X:Nat→Prop)(W:World)(rs:List ak)(w:World):Prop where
 holds:∀r∈rs,r.holds w
 ae:∀r∈rs,∀b,r.at b→W.heap.size≤b∨X b
 apart:rs.Pairwise fun(r s:ak)=>∀b:Nat,r.at b→¬s.at b
theorem Mem.nil{X:Nat→Prop}{W w:World}:Mem X W [] w:=⟨by simp,by simp,.nil⟩
theorem Mem.aR{X:Nat→Prop}{W w:World}{rs bZ:List ak}(h:Mem X W rs w)(p:rs.Perm bZ):Mem X W bZ w:=
 ⟨fun r hr=>h.holds r (p.mem_iff.2 hr),fun r hr=>h.ae r (p.mem_iff.2 hr),
  (p.pairwise_iff (fun Ub b hy hx=>Ub b hx hy)).1 h.apart⟩
theorem Mem.sub{X:Nat→Prop}{W w:World}{rs bZ:List ak}(h:Mem X W rs w)(p:bZ.Sublist rs):Mem X W bZ w:=
 ⟨fun r hr=>h.holds r (p.subset hr),fun r hr=>h.ae r (p.subset hr),h.apart.sublist p⟩
theorem Mem.og{X Y:Nat→Prop}{W w w':World}{rs:List ak}(h:Mem X W rs w)(hk:aU Y w w')(hY:∀r∈rs,∀b,r.at b→¬Y b):Mem X W rs w':=
 ⟨fun r hr=>(h.holds r hr).og fun b hb=>hk.block b ((h.holds r hr).lt b hb) (hY r hr b hb),h.ae,h.apart⟩
theorem Mem.uL{X:Nat→Prop}{W w w':World}{rs:List ak}(h:Mem X W rs w)(hk:aU nX w w'):Mem X W rs w':=h.og hk fun _ _ _ _ e=>e
theorem Mem.lt{X:Nat→Prop}{W w:World}{rs:List ak}(h:Mem X W rs w):∀r∈rs,∀b,r.at b→b<w.heap.size:=fun r hr=>(h.holds r hr).lt
theorem Mem.cons{X:Nat→Prop}{W w:World}{r:ak}{rs:List ak}(h:Mem X W rs w)(h1:r.holds w)(h2:∀b,r.at b→W.heap.size≤b∨X b)
  (h3:∀s∈rs,∀b,r.at b→¬s.at b):Mem X W (r::rs) w:=
 ⟨by simpa using ⟨h1,h.holds⟩,by simpa using ⟨h2,h.ae⟩,.cons h3 h.apart⟩
theorem Mem.head{X:Nat→Prop}{W w:World}{r:ak}{rs:List ak}(h:Mem X W (r::rs) w):
  r.holds w∧(∀b,r.at b→W.heap.size≤b∨X b)∧(∀s∈rs,∀b,r.at b→¬s.at b)∧Mem X W rs w:=by
 have h3:=DS.1 h.apart
 exact⟨h.holds r sM,h.ae r sM,h3.1,⟨fun s hs=>h.holds s (by simp [hs]),fun s hs=>h.ae s (by simp [hs]),h3.2⟩⟩
structure St where
 ah:List (Nat×Value)
 mem:List ak
structure cd(X:Nat→Prop)(W:World)(n:Nat)(S:St)(a:Act)(w:World):Prop where
 size:a.tmps.size=n
 defers:a.defers= []
 ah:∀k v,dj S.ah k=some v→a.tmps[k]?=some v
 dm:aU X W w
 mem:Mem X W S.mem w
def ev(ah:List (Nat×Value)):Operand→Option Value
 | .tmp t=>dj ah t
 | .const v=>some v
 | .global g=>some (.pointer (some ⟨g,0,none⟩))
 | .func f=>some (.func (.func f) #[] #[])
section
variable{X:Nat→Prop}{W:World}{n:Nat}{S:St}{a:Act}{w:World}
theorem cd.eval(h:cd X W n S a w){x:Operand}{v:Value}(hx:ev S.ah x=some v):a.eval x=v:=by
 cases x with
 |tmp t=>
  have:=h.ah t v hx
  simp [Act.eval,this]
 |const u=>exact Option.some.inj hx
 |global g=>exact Option.some.inj hx
 |func f=>exact Option.some.inj hx
theorem cd.world(h:cd X W n S a w){w':World}(hk:aU nX w w'):cd X W n S a w':=
 ⟨h.size,h.defers,h.ah,h.dm.fu hk,h.mem.uL hk⟩
theorem ad3(h:a.tmps.size=n){d:Nat}(hd:Nat.blt d n=true)(v:Value):(a.put (some d) v).tmps[d]?=some v∧∀k,d≠k→(a.put (some d) v).tmps[k]?=a.tmps[k]?:=by
 have Gq:d<a.tmps.size:=by rw [h];simpa using hd
 refine⟨by simp [Act.put,Gq],fun k hk=>by simp [Act.put,hk]⟩
theorem cd.put(h:cd X W n S a w){d:Nat}(hd:Nat.blt d n=true)(v:Value):cd X W n ⟨(d,v)::S.ah,S.mem⟩ (a.put (some d) v) w:=by
 obtain⟨h1,h2⟩:=ad3 h.size hd v
 refine⟨by simp [Act.put,h.size],h.defers,fun k u hk=>?_,h.dm,h.mem⟩
 by_cases e:d=k
 ·subst e
  rw [Gn]at hk
  rw [h1,hk]
 ·rw [Gp e]at hk
  rw [h2 k e]
  exact h.ah k u hk
theorem cd.D2(h:cd X W n S a w){w':World}{m:List ak}(hk:aU X W w')(hm:Mem X W m w'):cd X W n ⟨S.ah,m⟩ a w':=⟨h.size,h.defers,h.ah,hk,hm⟩
end
inductive K where
 |bq (c:Code)
 |an (all:Array Oper) (l:List Oper)
 |ai (id:Nat)
 |stop (J:Act→World→Prop)
def post(P:Program)(fn:Func)(R:Ending→World→Prop):List K→Exit→Act→World→Prop
 | []=>bodyPost P fn R
 | .bq c::k=>Exit.then (c.wp P (post P fn R k)) (post P fn R k)
 | .an all l::k=>Exit.then (wpList P all (post P fn R k) l) (post P fn R k)
 | .ai id::k=>Exit.inBlock id (post P fn R k)
 | .stop J::k=>Exit.then J (post P fn R k)
def tH(id:Nat):List K→Option (List K)
 | []=>none
 | .ai xY::k=>match Nat.beq id xY with
  |true=>some k
  |false=>tH id k
 | .bq _::k=>tH id k
 | .an _ _::k=>tH id k
 | .stop _::k=>tH id k
theorem Gs{P:Program}{fn:Func}{R:Ending→World→Prop}{id:Nat}{a:Act}{w:World}:∀{k k':List K},tH id k=some k'→post P fn R k' .normal a w→post P fn R k (.exit id) a w
 | [],_,h,_=>by simp [tH]at h
 | .ai xY::k,k',h,hp=>by
  simp only [tH]at h
  simp only [post,Exit.inBlock]
  by_cases e:id=xY
  ·subst e
   rw [show Nat.beq id id=true from by simp]at h
   simp only [Option.some.injEq]at h
   subst h
   simpa using hp
  ·have hb:Nat.beq id xY=false:=by
    cases hb:Nat.beq id xY with
    |true=>exact absurd (xO hb) e
    |false=>rfl
   rw [hb]at h
   rw [ay e]
   exact Gs h hp
 | .bq _::k,k',h,hp=>Gs (k:=k) h hp
 | .an _ _::k,k',h,hp=>Gs (k:=k) h hp
 | .stop _::k,k',h,hp=>Gs (k:=k) h hp
theorem Gt{P:Program}{fn:Func}{R:Ending→World→Prop}{a:Act}{w:World}(h:bodyPost P fn R .ret a w):∀(k:List K),post P fn R k .ret a w
 | []=>h
 | .ai _::k=>Gt h k
 | .bq _::k=>Gt h k
 | .an _ _::k=>Gt h k
 | .stop _::k=>Gt h k
def bj(P:Program)(fn:Func)(R:Ending→World→Prop)(X:Nat→Prop)(W:World)(n:Nat)(k:List K)(S:St):Prop:=
 ∀a w,cd X W n S a w→post P fn R k .normal a w
section
variable{P:Program}{fn:Func}{R:Ending→World→Prop}{X:Nat→Prop}{W:World}{n:Nat}{k:List K}{S:St}
theorem ad4{x y:Code}(h:bj P fn R X W n (.bq x:: .bq y::k) S):bj P fn R X W n (.bq (.seq x y)::k) S:=
 fun a w hs=>wp_seq (h a w hs)
theorem ad5(h:bj P fn R X W n k S):bj P fn R X W n (.bq .skip::k) S:=fun a w hs=>wp_skip (h a w hs)
theorem ad6{id:Nat}{c:Code}(h:bj P fn R X W n (.bq c:: .ai id::k) S):bj P fn R X W n (.bq (.block id c)::k) S:=
 fun a w hs=>wp_block (h a w hs)
theorem ad7{id:Nat}(h:bj P fn R X W n k S):bj P fn R X W n (.ai id::k) S:=fun a w hs=>h a w hs
theorem ad8{id:Nat}{k':List K}(hp:tH id k=some k')(h:bj P fn R X W n k' S):bj P fn R X W n (.bq (.exit id)::k) S:=
 fun a w hs=>wp_exit (Gs hp (h a w hs))
theorem ad9(h:bj P fn R X W n [] S):bj P fn R X W n (.bq .ret::k) S:=
 fun a w hs=>wp_ret (Gt (h a w hs) k)
theorem ad_{c:Operand}{x y:Code}(hc:ev S.ah c=some (.bool true))(h:bj P fn R X W n (.bq x::k) S):bj P fn R X W n (.bq (.cond c x y)::k) S:=
 fun a w hs=>wp_cond_true (hs.eval hc) (h a w hs)
theorem aea{c:Operand}{x y:Code}(hc:ev S.ah c=some (.bool false))(h:bj P fn R X W n (.bq y::k) S):bj P fn R X W n (.bq (.cond c x y)::k) S:=
 fun a w hs=>wp_cond_false (hs.eval hc) (h a w hs)
theorem aeb{c:Operand}{x y:Code}{t:Bool}(hc:ev S.ah c=some (.bool t))(h1:t=true→bj P fn R X W n (.bq x::k) S)(h2:t=false→bj P fn R X W n (.bq y::k) S):
  bj P fn R X W n (.bq (.cond c x y)::k) S:=
 fun a w hs=>wp_cond_split (hs.eval hc) (fun e=>h1 e a w hs) (fun e=>h2 e a w hs)
theorem pP{c:Operand}{x y:Code}{t:Bool}(hc:ev S.ah c=some (.bool t))(ht:t=true)(h:bj P fn R X W n (.bq x::k) S):bj P fn R X W n (.bq (.cond c x y)::k) S:=by
 subst ht;exact ad_ hc h
theorem dB{c:Operand}{x y:Code}{t:Bool}(hc:ev S.ah c=some (.bool t))(ht:t=false)(h:bj P fn R X W n (.bq y::k) S):bj P fn R X W n (.bq (.cond c x y)::k) S:=by
 subst ht;exact aea hc h
theorem aec(t:Tmp){c:Bool}(NV:dj S.ah t=some (.bool c))(h1:c=true→bj P fn R X W n k S)(h2:c=false→bj P fn R X W n k S):bj P fn R X W n k S:=by
 cases c
 ·exact h2 rfl
 ·exact h1 rfl
theorem aed{id:Nat}{l:List Oper}(h:bj P fn R X W n (.an l.toArray l::k) S):bj P fn R X W n (.bq (.region id l.toArray false)::k) S:=
 fun a w hs=>wp_region_lit (h a w hs)
theorem aee{all:Array Oper}(h:bj P fn R X W n k S):bj P fn R X W n (.an all []::k) S:=fun a w hs=>h a w hs
def uM(X:Nat→Prop)(W:World)(n:Nat)(S S':St):Prop:=∀a w,cd X W n S a w→cd X W n S' a w
theorem eh{S':St}(hs:uM X W n S S')(h:bj P fn R X W n k S'):bj P fn R X W n k S:=fun a w h'=>h a w (hs a w h')
def x0(X:Nat→Prop)(W:World)(n:Nat){ι:Type}(φ:ι→Prop)(fm:ι→St)(a:Act)(w:World):Prop:=∃i,φ i∧cd X W n (fm i) a w
theorem jK{ι:Type}{φ:ι→Prop}{fm:ι→St}(i:ι)(hi:φ i)(hs:uM X W n S (fm i)):bj P fn R X W n (.stop (x0 X W n φ fm)::k) S:=
 fun a w h=>⟨i,hi,hs a w h⟩
theorem D3{ι:Type}{c:Code}(φ:ι→Prop)(fm:ι→St)(h:bj P fn R X W n (.bq c:: .stop (x0 X W n φ fm)::k) S)(h':∀i,φ i→bj P fn R X W n k (fm i)):
  bj P fn R X W n (.bq c::k) S:=fun a w hs=>by
 refine Bp ?_ (h a w hs)
 intro e a' w' q
 cases e with
 |normal=>obtain⟨i,hi,cF⟩:=q;exact h' i hi a' w' cF
 |_=>exact q
def oW(X:Nat→Prop)(W:World)(n:Nat){ι:Type}(φ:ι→Prop)(fm:ι→St)(μ:ι→Nat)(m:Nat)(a:Act)(w:World):Prop:=∃i,φ i∧μ i<m∧cd X W n (fm i) a w
theorem uN{ι:Type}{φ:ι→Prop}{fm:ι→St}{μ:ι→Nat}{m:Nat}(i:ι)(hi:φ i)(hm:μ i<m)(hs:uM X W n S (fm i)):bj P fn R X W n (.stop (oW X W n φ fm μ m)::k) S:=
 fun a w h=>⟨i,hi,hm,hs a w h⟩
theorem NW{p:Nat→Prop}:∀(b m:Nat),m≤b→p m→∃m,p m∧∀k,p k→m≤k
 |0,m,hm,h=>⟨m,h,fun k _=>oM⟩
 |b+1,m,hm,h=>by
  by_cases hk:∃k,k≤b∧p k
  ·obtain⟨k,x3,hp⟩:=hk
   exact NW b k x3 hp
  ·refine⟨m,h,fun k hp=>?_⟩
   rcases jo b k with h1|h1
   ·omega
   ·exact absurd ⟨k,h1,hp⟩ hk
open Classical in
theorem rn{ι:Type}{c:Code}(φ:ι→Prop)(fm:ι→St)(μ:ι→Nat)(i0:ι)(h0:φ i0)(ei:uM X W n S (fm i0))
  (hr:∀i,φ i→bj P fn R X W n (.bq c:: .stop (oW X W n φ fm μ (μ i))::k) (fm i)):bj P fn R X W n (.bq (.loop c)::k) S:=by
 intro a w hs
 have hl:∀a w,(∃m i,φ i∧μ i=m∧cd X W n (fm i) a w)→∃m,(∃i,φ i∧μ i=m∧cd X W n (fm i) a w)∧∀k,(∃i,φ i∧μ i=k∧cd X W n (fm i) a w)→m≤k:=
  fun a w ⟨m,h⟩=>NW m m (cm _) h
 refine wp_loop (fun a w=>∃m i,φ i∧μ i=m∧cd X W n (fm i) a w)
  (fun a w=>if h:∃m i,φ i∧μ i=m∧cd X W n (fm i) a w then Classical.choose (hl a w h)else 0) ⟨_,i0,h0,rfl,ei a w hs⟩ ?_
 intro a w hI
 rw [dif_pos hI]
 obtain⟨⟨i,hi,hm,cF⟩,_⟩:=F7 (hl a w hI)
 refine Bp ?_ (hr i hi a w cF)
 intro e a' w' q
 cases e with
 |normal=>
  obtain⟨i',eA,bG,Gu⟩:=q
  have BE:∃m i,φ i∧μ i=m∧cd X W n (fm i) a' w':=⟨_,i',eA,rfl,Gu⟩
  refine⟨BE,?_⟩
  rw [dif_pos BE]
  have:=(F7 (hl a' w' BE)).2 (μ i') ⟨i',eA,rfl,Gu⟩
  omega
 |_=>exact q
end
inductive cW(all:Array Oper)(ah:List (Nat×Value))(o:Oper):Bool→Prop where
 |none (h:o.guard=Option.none):cW all ah o true
 |guard {j:Nat} {b c:Bool} {t:Tmp} (h:o.guard=some (j,b)) (hd:(all[j]?).bind (·.dst)=some t) (ht:dj ah t=some (.bool c)):cW all ah o (c==b)
 |off {j:Nat} {b:Bool} {t:Tmp} (h:o.guard=some (j,b)) (hd:(all[j]?).bind (·.dst)=some t) (ht:dj ah t=some undef):cW all ah o false
theorem cW.on{all:Array Oper}{ah:List (Nat×Value)}{o:Oper}{j:Nat}{b c:Bool}{t:Tmp}(h:o.guard=some (j,b))(hd:(all[j]?).bind (·.dst)=some t)(ht:dj ah t=some (.bool c))(hc:c=b):cW all ah o true:=by
 subst hc
 have:=cW.guard h hd ht
 cases c<;>exact this
theorem cW.no{all:Array Oper}{ah:List (Nat×Value)}{o:Oper}{j:Nat}{b c:Bool}{t:Tmp}(h:o.guard=some (j,b))(hd:(all[j]?).bind (·.dst)=some t)(ht:dj ah t=some (.bool c))(hc:c= !b):cW all ah o false:=by
 subst hc
 have:=cW.guard h hd ht
 cases b<;>exact this
section
variable{X:Nat→Prop}{W:World}{n:Nat}{S:St}{a:Act}{w:World}
theorem cW.eq{all:Array Oper}{o:Oper}{c:Bool}(h:cW all S.ah o c)(hs:cd X W n S a w):Region.wanted o (yielded all a.tmps)=c:=by
 cases h with
 |none h=>simp [Region.wanted,h]
 | @guard j b c t h hd ht=>
  have:=hs.ah t _ ht
  have hy:yielded all a.tmps j=some c:=by simp only [yielded,hd,Option.bind_some,this]
  simp only [Region.wanted,h,hy]
  cases c<;>cases b<;>rfl
 | @off j b t h hd ht=>
  have:=hs.ah t _ ht
  have hy:yielded all a.tmps j=Option.none:=by simp only [yielded,hd,Option.bind_some,this,undef]
  simp only [Region.wanted,h,hy]
  cases b<;>rfl
end
def Q1(P:Program)(X:Nat→Prop)(W:World)(n:Nat)(S:St)(o:Oper)(v:Value):Prop:=
 ∀a w,cd X W n S a w→(execOp a.eval o).run P w= .ok (.value v) w∨((execOp a.eval o).run P w= .ok .skip w∧v=undef)∨
  ∃f args,(execOp a.eval o).run P w= .ok (.enter f args) w∧Calls P f args w fun e w'=>e= .returned v∧aU nX w w'
def H1(P:Program)(X:Nat→Prop)(W:World)(n:Nat)(S:St)(o:Oper){ι:Type}(φ:ι→Prop)(next:ι→St):Prop:=
 ∀a w,cd X W n S a w→∀(k:Act→World→Prop) (Q:Exit→Act→World→Prop),(∀i a' w',φ i→cd X W n (next i) a' w'→k a' w')→o.wp P a w k Q
theorem Q1.wp{P:Program}{X:Nat→Prop}{W:World}{n:Nat}{S:St}{o:Oper}{v:Value}(h:Q1 P X W n S o v){a:Act}{w:World}(hs:cd X W n S a w)
  {k:Act→World→Prop}{Q:Exit→Act→World→Prop}(hk:∀w',aU nX w w'→k (a.put o.dst v) w'):o.wp P a w k Q:=by
 unfold Oper.wp
 rcases h a w hs with h1|⟨h1,h2⟩|⟨f,args,h1,hc⟩
 ·rw [h1];exact hk _ (aU.refl _ _)
 ·rw [h1];subst h2;exact hk _ (aU.refl _ _)
 ·rw [h1];exact hc.mono fun e w' ⟨he,hw⟩=>by subst he;exact hk _ hw
section
variable{P:Program}{fn:Func}{R:Ending→World→Prop}{X:Nat→Prop}{W:World}{n:Nat}{k:List K}{S:St}{ah:List (Nat×Value)}{mem:List ak}{all:Array Oper}{aQ:List Oper}{o:Oper}
theorem dr{v:Value}{d:Nat}(hw:cW all ah o true)(hd:o.dst=some d)(hdn:Nat.blt d n=true)(h:Q1 P X W n ⟨ah,mem⟩ o v)
  (hk:bj P fn R X W n (.an all aQ::k) ⟨(d,v)::ah,mem⟩):bj P fn R X W n (.an all (o::aQ)::k) ⟨ah,mem⟩:=by
 intro a w hs
 refine wpList_step fun K hK=>?_
 rw [aG (hw.eq hs)]
 refine h.wp hs fun w' lf=>hK _ _ ?_
 rw [hd]
 exact hk _ _ ((hs.world lf).put hdn v)
theorem tI{d:Nat}(hw:cW all ah o false)(hd:o.dst=some d)(hdn:Nat.blt d n=true)
  (hk:bj P fn R X W n (.an all aQ::k) ⟨(d,undef)::ah,mem⟩):bj P fn R X W n (.an all (o::aQ)::k) ⟨ah,mem⟩:=by
 intro a w hs
 refine wpList_step fun K hK=>?_
 rw [ay (by rw [hw.eq hs];simp)]
 rw [hd]
 exact hK _ _ (hk _ _ (hs.put hdn undef))
theorem uO{ι:Type}{φ:ι→Prop}{next:ι→St}(hw:cW all ah o true)(h:H1 P X W n ⟨ah,mem⟩ o φ next)
  (hk:∀i,φ i→bj P fn R X W n (.an all aQ::k) (next i)):bj P fn R X W n (.an all (o::aQ)::k) ⟨ah,mem⟩:=by
 intro a w hs
 refine wpList_step fun K hK=>?_
 rw [aG (hw.eq hs)]
 exact h a w hs K _ fun i a' w' hi cP=>hK _ _ (hk i hi _ _ cP)
theorem H1.fC{v:Value}{d:Nat}(hd:o.dst=some d)(hdn:Nat.blt d n=true)(h:Q1 P X W n ⟨ah,mem⟩ o v):H1 P X W n ⟨ah,mem⟩ o (fun _:Unit=>True) (fun _=>⟨(d,v)::ah,mem⟩):=by
 intro a w hs k Q hk
 refine h.wp hs fun w' lf=>?_
 rw [hd]
 exact hk () _ _ trivial ((hs.world lf).put hdn v)
end
def bK(W:World)(X:Nat→Prop)(Φ:Value→List ak→Prop):Ending→World→Prop:=
 fun e w'=>∃v m,Φ v m∧e= .returned v∧aU X W w'∧Mem X W m w'
def aK(W:World)(v:Value):Ending→World→Prop:=fun e w'=>e= .returned v∧aU nX W w'
section
variable{P:Program}{fn:Func}{X:Nat→Prop}{W:World}{n:Nat}{S:St}
theorem aK.Uc{f:FuncId}{args:Array Value}{v:Value}(h:Calls P f args W (bK W nX fun u _=>u=v)):Calls P f args W (aK W v):=
 h.mono fun _ _ ⟨_,_,e,he,hk,_⟩=>⟨e▸he,hk⟩
theorem enter{f:FuncId}{args:Array Value}{R:Ending→World→Prop}{c:Code}{S:St}(hf:P.funcs[f]?=some fn)(hn:fn.ntmps=n)(hb:fn.body=some c)
  (hz:Nat.ble args.size n=true)(he:∀k v,dj S.ah k=some v→args[k]?=some v)(hm:Mem X W S.mem W)(h:bj P fn R X W n [.bq c] S):Calls P f args W R:=by
 refine calls_of_wp hf hb (h _ W ?_)
 have oX:args.size≤n:=by simpa using hz
 refine⟨by simp [hn];omega,rfl,fun k v hk=>?_,aU.refl _ _,hm⟩
 have:=he k v hk
 have bG:=(NO.1 this).1
 show(args++_)[k]?=_
 rw [JW bG,this]
theorem ax{Φ:Value→List ak→Prop}{t:Tmp}{v:Value}(hr:fn.results= #[.tmp t])(hv:dj S.ah t=some v)(hΦ:Φ v S.mem):bj P fn (bK W X Φ) X W n [] S:=by
 intro a w hs
 refine⟨hs.defers,v,?_,v,S.mem,hΦ,rfl,hs.dm,hs.mem⟩
 rw [results_tmp hr]
 simp [hs.ah t v hv]
theorem eY{Φ:Value→List ak→Prop}{t u:Tmp}{v v':Value}(hr:fn.results= #[.tmp t,.tmp u])(hv:dj S.ah t=some v)(mB:dj S.ah u=some v')(hΦ:Φ (.tuple #[v,v']) S.mem):bj P fn (bK W X Φ) X W n [] S:=by
 intro a w hs
 refine⟨hs.defers,.tuple #[v,v'],?_,_,S.mem,hΦ,rfl,hs.dm,hs.mem⟩
 rw [results_tmp2 hr]
 simp [hs.ah t v hv,hs.ah u v' mB]
theorem Gv{Φ:Value→List ak→Prop}{t u x:Tmp}{v v' Kd:Value}(hr:fn.results= #[.tmp t,.tmp u,.tmp x])(hv:dj S.ah t=some v)(mB:dj S.ah u=some v')(aef:dj S.ah x=some Kd)
  (hΦ:Φ (.tuple #[v,v',Kd]) S.mem):bj P fn (bK W X Φ) X W n [] S:=by
 intro a w hs
 refine⟨hs.defers,.tuple #[v,v',Kd],?_,_,S.mem,hΦ,rfl,hs.dm,hs.mem⟩
 simp [results,hr,hs.ah t v hv,hs.ah u v' mB,hs.ah x Kd aef]
theorem di{Φ:Value→List ak→Prop}(hr:fn.results= #[])(hΦ:Φ (.tuple #[]) S.mem):bj P fn (bK W X Φ) X W n [] S:=by
 intro a w hs
 exact⟨hs.defers,.tuple #[],results_none hr _ _ _,_,S.mem,hΦ,rfl,hs.dm,hs.mem⟩
def dR(ah Ke:List (Nat×Value)):Prop:=∀k v,dj Ke k=some v→dj ah k=some v
theorem dR.nil{ah:List (Nat×Value)}:dR ah []:=fun k v h=>by simp [dj]at h
theorem dR.refl{ah:List (Nat×Value)}:dR ah ah:=fun _ _ h=>h
theorem dR.cons{ah r:List (Nat×Value)}{s:Nat}{v:Value}(h:dj ah s=some v)(t:dR ah r):dR ah ((s,v)::r):=by
 intro k u hk
 by_cases e:s=k
 ·subst e;rw [Gn]at hk;rw [h,hk]
 ·rw [Gp e]at hk;exact t k u hk
theorem dR.aF{ah r:List (Nat×Value)}{s:Nat}{v v':Value}(h:dj ah s=some v)(e:v=v')(t:dR ah r):dR ah ((s,v')::r):=by
 subst e;exact dR.cons h t
inductive ag:List ak→ak→List ak→Prop where
 |ao {r:ak} {l:List ak}:ag (r::l) r l
 |aj {r s:ak} {l l':List ak}:ag l r l'→ag (s::l) r (s::l')
theorem ag.aR{l l':List ak}{r:ak}(h:ag l r l'):l.Perm (r::l'):=by
 induction h with
 |ao=>exact List.Perm.refl _
 |aj _ ih=>exact(ih.cons _).trans (List.Perm.swap _ _ _)
def cN(r r':ak):Prop:=(∀b,r'.at b→r.at b)∧∀w,r.holds w→r'.holds w
theorem cN.refl{r:ak}:cN r r:=⟨fun _ h=>h,fun _ h=>h⟩
theorem cN.ai{b:Nat}{t:TypeId}{cs x4:List (Nat×Value)}(h:dR cs x4):cN (.ai b t cs) (.ai b t x4):=
 ⟨fun _ h=>h,fun _ ⟨c,h1,h3⟩=>⟨c,h1,fun i v hi=>h3 i v (h i v hi)⟩⟩
theorem cN.ae{t:TypeId}{size:Nat}{A A':Option Addr}{m m' c c':Nat}{xs du:List (List Value)}(hA:A=A')(hm:m=m')(hc:c=c')(hx:xs=du):cN (.ae t size A m c xs) (.ae t size A' m' c' du):=by
 subst hA;subst hm;subst hc;subst hx;exact .refl
def ar(m m':List ak):Prop:=∀X W w,Mem X W m w→Mem X W m' w∧∀r'∈m',∀b,r'.at b→∃r∈m,r.at b
theorem ar.nil{m:List ak}:ar m []:=fun _ _ _ _=>⟨Mem.nil,by simp⟩
theorem ar.refl{m:List ak}:ar m m:=fun _ _ _ h=>⟨h,fun r hr _ hb=>⟨r,hr,hb⟩⟩
theorem ar.aR{m m':List ak}(h:m.Perm m'):ar m m':=fun _ _ _ h'=>⟨h'.aR h,fun r hr _ hb=>⟨r,h.mem_iff.2 hr,hb⟩⟩
theorem ar.sub{m m':List ak}(h:m'.Sublist m):ar m m':=fun _ _ _ h'=>⟨h'.sub h,fun r hr _ hb=>⟨r,h.subset hr,hb⟩⟩
theorem ar.cons{m l l':List ak}{r r':ak}(hs:ag m r l)(hr:cN r r')(hl:ar l l'):ar m (r'::l'):=by
 intro X W w h
 obtain⟨h1,h2,h3,h4⟩:=(h.aR hs.aR).head
 obtain⟨g1,g2⟩:=hl X W w h4
 refine⟨g1.cons (hr.2 w h1) (fun b hb=>h2 b (hr.1 b hb)) (fun s cP b hb jw=>?_),fun s cP b hb=>?_⟩
 ·obtain⟨u,hu,uP⟩:=g2 s cP b jw
  exact h3 u hu b (hr.1 b hb) uP
 ·rcases ib.1 cP with rfl|cP
  ·exact⟨r,hs.aR.mem_iff.2 sM,hr.1 b hb⟩
  ·obtain⟨u,hu,uP⟩:=g2 s cP b hb
   exact⟨u,hs.aR.mem_iff.2 (by simp [hu]),uP⟩
theorem ar.trans{a b c:List ak}(h:ar a b)(h':ar b c):ar a c:=fun X W w x=>by
 obtain⟨g1,g2⟩:=h X W w x
 obtain⟨k1,k2⟩:=h' X W w g1
 refine⟨k1,fun r hr b hb=>?_⟩
 obtain⟨u,hu,uP⟩:=k2 r hr b hb
 exact g2 u hu b uP
def ak.aT(rs:List ak):ak:=
 .any (fun b=>∃r∈rs,r.at b) (fun w=>(∀r∈rs,r.holds w)∧rs.Pairwise fun(r s:ak)=>∀b:Nat,r.at b→¬s.at b)
  (fun w h b hb=>by obtain⟨r,hr,hb⟩:=hb;exact(h.1 r hr).lt b hb)
  (fun w w' h hk=>⟨fun r hr=>(h.1 r hr).og fun b hb=>hk b ⟨r,hr,hb⟩,h.2⟩)
theorem ar.tJ{rs l:List ak}:ar (.aT rs::l) (rs++l):=by
 intro X W w h
 obtain⟨h1,h2,h3,h4⟩:=h.head
 refine⟨⟨fun r hr=>?_,fun r hr b hb=>?_,rj.2 ⟨h1.2,h4.apart,fun r hr s hs b hb jw=>h3 s hs b ⟨r,hr,hb⟩ jw⟩⟩,fun r hr b hb=>?_⟩
 ·rcases dJ.1 hr with h|h
  ·exact h1.1 r h
  ·exact h4.holds r h
 ·rcases dJ.1 hr with h|h
  ·exact h2 b ⟨r,h,hb⟩
  ·exact h4.ae r h b hb
 ·rcases dJ.1 hr with h|h
  ·exact⟨.aT rs,by simp,⟨r,h,hb⟩⟩
  ·exact⟨r,by simp [h],hb⟩
theorem ar.close_{rs l:List ak}:ar (rs++l) (.aT rs::l):=by
 intro X W w h
 have zN:=rj.1 h.apart
 refine⟨Mem.cons (r:= .aT rs) ⟨fun r hr=>h.holds r (by simp [hr]),fun r hr=>h.ae r (by simp [hr]),zN.2.1⟩ ⟨fun r hr=>h.holds r (by simp [hr]),zN.1⟩ ?_ ?_,fun r hr b hb=>?_⟩
 ·rintro b ⟨r,hr,hb⟩;exact h.ae r (by simp [hr]) b hb
 ·rintro s hs b ⟨r,hr,hb⟩ jw;exact zN.2.2 r hr s hs b hb jw
 ·rcases ib.1 hr with rfl|h'
  ·obtain⟨u,hu,uP⟩:=hb;exact⟨u,by simp [hu],uP⟩
  ·exact⟨r,by simp [h'],hb⟩
theorem ar.fM{r:ak}{rs l:List ak}:ar (r:: .aT rs::l) (.aT (r::rs)::l):=
 (ar.cons .ao .refl (ar.tJ)).trans (ar.close_ (rs:=r::rs))
theorem au{ah Ke:List (Nat×Value)}{mem x5:List ak}(he:dR ah Ke)(hm:ar mem x5):uM X W n ⟨ah,mem⟩ ⟨Ke,x5⟩:=
 fun _ _ h=>⟨h.size,h.defers,fun k v hk=>h.ah k v (he k v hk),h.dm,(hm _ _ _ h.mem).1⟩
end
end Hr
end
namespace Hr
def bm:Nat→List Value→List (Nat×Value)
 |_, []=> []
 |i,v::r=>(i,v)::bm (i+1) r
def dC:Value→List Value
 | .agg c=>c.toList
 | .tuple _=> []
 |v=> [v]
theorem Gw:∀(l:List Value) (i k:Nat) (v:Value),dj (bm i l) k=some v→i≤k∧l[k-i]?=some v
 | [],i,k,v,h=>by simp [bm,dj]at h
 |x::l,i,k,v,h=>by
  by_cases e:i=k
  ·subst e
   simp only [bm]at h
   rw [Gn]at h
   simpa using h
  ·simp only [bm]at h
   rw [Gp e]at h
   obtain⟨h1,h2⟩:=Gw l (i+1) k v h
   refine⟨oM,?_⟩
   rw [show k-i=(k-(i+1))+1 from oM,List.getElem?_cons_succ]
   exact h2
theorem aeg(l r:List (Nat×Value))(k:Nat):dj (l++r) k=(dj l k).or (dj r k):=by
 induction l with
 |nil=>simp [dj]
 |cons p l ih=>
  simp only [Bt,dj]
  split
  ·rfl
  ·exact ih
inductive lj(cs:List (Nat×Value)):Nat→List Value→Prop where
 |nil {i:Nat}:lj cs i []
 |cons {i:Nat} {v:Value} {vs:List Value} (h:dj cs i=some v) (t:lj cs (i+1) vs):lj cs i (v::vs)
theorem lj.get{cs:List (Nat×Value)}{i:Nat}{vs:List Value}(h:lj cs i vs):∀j v,vs[j]?=some v→dj cs (i+j)=some v:=by
 induction h with
 |nil=>intro j v hj;simp at hj
 | @cons i v vs h t ih=>
  intro j u hj
  cases j with
  |zero=>simp at hj;subst hj;simpa using h
  |succ j=>
   have:=ih j u (by simpa using hj)
   rwa [show i+(j+1)=i+1+j from oM]
def Sz(P:Program)(e:TypeId)(s:Nat):Prop:=∃i,P.info? e=some i∧i.size=s
theorem Sz.of{P:Program}{e:TypeId}{s:Nat}(h:(P.info? e).map (·.size)=some s):Sz P e s:=by
 cases hi:P.info? e with
 |none=>rw [hi]at h;cases h
 |some i=>rw [hi]at h;exact⟨i,hi,by simpa using h⟩
theorem Sz.run{P:Program}{e:TypeId}{s:Nat}(h:Sz P e s)(w:World):(sizeOf e).run P w= .ok s w:=by
 obtain⟨i,hi,rfl⟩:=h
 simp [sizeOf,typeInfo,hi]
def tK(P:Program)(e:TypeId)(zs:List Value)(s b:Nat):Prop:=∃i z,P.info? e=some i∧i.zero=some z∧z.cells.toList=zs∧i.size=s∧i.bytes=b
theorem tK.of{P:Program}{e:TypeId}{zs:List Value}{s b:Nat}(h:(P.info? e).map (fun i=>(i.zero.map (·.cells.toList),i.size,i.bytes))=some (some zs,s,b)):tK P e zs s b:=by
 cases hi:P.info? e with
 |none=>rw [hi]at h;cases h
 |some i=>
  rw [hi]at h
  simp only [tz,Option.some.injEq,Prod.mk.injEq,Option.map_eq_some_iff]at h
  obtain⟨⟨z,hz,rp⟩,h2,h3⟩:=h
  exact⟨i,z,hi,hz,rp,h2,h3⟩
theorem tK.sz{P:Program}{e:TypeId}{zs:List Value}{s b:Nat}(h:tK P e zs s b):Sz P e s:=by
 obtain⟨i,z,h1,h2,h3,h4,h5⟩:=h
 exact⟨i,h1,h4⟩
def iE(P:Program)(t:TypeId)(s:Nat):Prop:=(∀w,(isAgg t).run P w= .ok true w)∧Sz P t s
def f_(P:Program)(t:TypeId):Prop:=(∀w,(isAgg t).run P w= .ok false w)∧Sz P t 1
def Rd(w:World)(A:Option Addr)(size:Nat)(ls:List (List Value)):Prop:=
 ls= []∨∃ad,A=some ad∧∀i c,ls[i]?=some c→∀j v,c[j]?=some v→w.cell? (ad.add (i*size+j))=some v
def oh(X:Nat→Prop)(A:Option Addr):Prop:=∀ad,A=some ad→¬X ad.block
theorem oh.no{A:Option Addr}:oh nX A:=fun _ _ h=>h
theorem NX{w:World}{a:Addr}{v:Value}(h:w.cell? a=some v):a.block<w.heap.size:=by
 unfold World.cell? at h
 split at h
 ·rename_i hh;exact tG hh
 ·cases h
theorem D4(a:Addr)(n:Nat):(a.add n).block=a.block:=by unfold Addr.add;split<;>rfl
theorem zP(a:Addr)(i j:Nat):(a.add i).add j=a.add (i+j):=by
 unfold Addr.add
 by_cases hi:i=0<;>by_cases hj:j=0<;>simp [hi,hj,zt]
theorem Rd.dm{X:Nat→Prop}{w w':World}{A:Option Addr}{size:Nat}{ls:List (List Value)}(h:Rd w A size ls)(hk:aU X w w')(hX:oh X A):Rd w' A size ls:=by
 rcases h with h|⟨ad,rfl,h⟩
 ·exact .inl h
 ·refine .inr ⟨ad,rfl,fun i c hi j v hj=>?_⟩
  have h1:=h i c hi j v hj
  have h2:=NX h1
  rw [D4]at h2
  rw [←h1]
  exact World.cell?_of_block (by rw [D4];exact hk.block _ h2 (hX ad rfl))
theorem Rd.az{w w':World}{A:Option Addr}{size:Nat}{ls:List (List Value)}(h:Rd w A size ls)(hk:aU nX w w'):Rd w' A size ls:=h.dm hk oh.no
theorem Rd.nil{w:World}{A:Option Addr}{size:Nat}:Rd w A size []:= .inl rfl
theorem Gx:∀(ls:List (List Value)) (size:Nat),(∀x∈ls,x.length=size)→∀i c,ls[i]?=some c→∀j v,c[j]?=some v→ls.flatten[i*size+j]?=some v
 | [],_,_,i,c,hi,_,_,_=>by simp at hi
 |x::ls,size,hl,i,c,hi,j,v,hj=>by
  have hx:=hl x sM
  cases i with
  |zero=>
   simp at hi;subst hi
   have qD:j<x.length:=(xQ.1 hj).1
   rw [Nat.zero_mul,xR,tA,Bu qD,hj]
  |succ i=>
   have:=Gx ls size (fun y hy=>hl y (by simp [hy])) i c (by simpa using hi) j v hj
   rw [tA,uC (by rw [hx,uD];omega)]
   rw [show(i+1)*size+j-x.length=i*size+j from by rw [hx,uD];omega]
   exact this
theorem bL{w:World}{t:TypeId}{size:Nat}{A:Option Addr}{n c:Nat}{ls:List (List Value)}(h:(ak.ae t size A n c ls).holds w):Rd w A size ls:=by
 obtain⟨h1,h2,h3⟩:=h
 rcases h1.2 with⟨hv,hn⟩|⟨g,cap,fe,hv,_⟩
 ·subst hn;exact .inl (List.eq_nil_of_length_eq_zero h2)
 ·simp only [Value.slice.injEq]at hv
  refine .inr ⟨⟨g,0,none⟩,hv.1,fun i c hi j v hj=>?_⟩
  exact World.ownsRow.cells h1 (by rw [Kc,hv.1];rfl) _ _ (Gx ls size h3 i c hi j v hj)
theorem ag.holds{X:Nat→Prop}{W w:World}{rs l:List ak}{r:ak}(h:ag rs r l)(hm:Mem X W rs w):r.holds w:=hm.holds _ (h.aR.mem_iff.2 sM)
def ie(X:Nat→Prop)(W:World)(S:St)(A:Option Addr)(size:Nat)(ls:List (List Value)):Prop:=∀w,aU X W w→Mem X W S.mem w→Rd w A size ls
def bI(A:Option Addr):Addr:=A.getD ⟨0,0,none⟩
section
variable{P:Program}{X:Nat→Prop}{W:World}{n:Nat}{S:St}{o:Oper}
theorem ie.aq{A:Option Addr}{size:Nat}{ls:List (List Value)}(h:Rd W A size ls)(hX:oh X A):ie X W S A size ls:=fun _ hk _=>h.dm hk hX
theorem ie.ae{A:Option Addr}{size:Nat}{ls:List (List Value)}{t:TypeId}{m c:Nat}{l:List ak}(h:ag S.mem (.ae t size A m c ls) l):ie X W S A size ls:=
 fun _ _ hm=>bL (h.holds hm)
theorem aO{k:IntKind}{a b:Int}(h:a=b):Value.int k a= .int k b:=by rw [h]
theorem qE{x:Operand}{v:Value}(ho:o.op= .move x)(hx:ev S.ah x=some v):Q1 P X W n S o v:=fun a w hs=> .inl (by simp [execOp,ho,hs.eval hx])
theorem oo{x:Operand}{v:Value}(ho:o.op= .assign x)(hx:ev S.ah x=some v):Q1 P X W n S o v:=fun a w hs=> .inl (by simp [execOp,ho,hs.eval hx])
theorem jx{c x y:Operand}{v:Value}{b:Bool}(ho:o.op= .pick c x y)(hc:ev S.ah c=some (.bool b))(hb:b=true)(hx:ev S.ah x=some v):Q1 P X W n S o v:=
 fun a w hs=> .inl (by subst hb;simp [execOp,ho,hs.eval hx,hs.eval hc,asBool])
theorem df{c x y:Operand}{v:Value}{b:Bool}(ho:o.op= .pick c x y)(hc:ev S.ah c=some (.bool b))(hb:b=false)(hy:ev S.ah y=some v):Q1 P X W n S o v:=
 fun a w hs=> .inl (by subst hb;simp [execOp,ho,hs.eval hy,hs.eval hc,asBool])
theorem NY{x:Operand}{i:Nat}{vs:Array Value}{v:Value}(ho:o.op= .extract x i)(hx:ev S.ah x=some (.tuple vs))(hv:vs[i]?=some v):Q1 P X W n S o v:=
 fun a w hs=> .inl (by simp [execOp,ho,hs.eval hx,Instr.extract,hv])
theorem Ud{x:Operand}{b:Bool}{t:TypeId}(ho:o.op= .unOp .not t x)(hx:ev S.ah x=some (.bool b)):Q1 P X W n S o (.bool !b):=
 fun a w hs=> .inl (by simp [execOp,ho,hs.eval hx,Op.unary])
theorem Ue{x:Operand}{i:Int}{t:TypeId}(ho:o.op= .unOp .neg t x)(hx:ev S.ah x=some (.int .i64 i))(h: -9223372036854775807≤i∧i≤9223372036854775807):Q1 P X W n S o (.int .i64 (-i)):=
 fun a w hs=> .inl (by
  have e:IntKind.i64.wrap (-i)= -i:=by rw [gn];omega
  simp [execOp,ho,hs.eval hx,Op.unary,Op.intArith,e])
section
variable{x y:Operand}{t t':TypeId}{k:IntKind}{i j:Int}
theorem D5(ho:o.op= .binOp .add t x y t')(hx:ev S.ah x=some (.int .i64 i))(hy:ev S.ah y=some (.int .i64 j))(h: -9223372036854775808≤i+j∧i+j≤9223372036854775807):Q1 P X W n S o (.int .i64 (i+j)):=
 fun a w hs=> .inl (by
  have e:IntKind.i64.wrap (i+j)=i+j:=by rw [gn];omega
  simp [execOp,ho,hs.eval hx,hs.eval hy,binOp,Op.intArith,e,eqGuard])
theorem Kf(ho:o.op= .binOp .sub t x y t')(hx:ev S.ah x=some (.int .i64 i))(hy:ev S.ah y=some (.int .i64 j))(h: -9223372036854775808≤i-j∧i-j≤9223372036854775807):Q1 P X W n S o (.int .i64 (i-j)):=
 fun a w hs=> .inl (by
  have e:IntKind.i64.wrap (i-j)=i-j:=by rw [gn];omega
  simp [execOp,ho,hs.eval hx,hs.eval hy,binOp,Op.intArith,e,eqGuard])
theorem Kg(ho:o.op= .binOp .mul t x y t')(hx:ev S.ah x=some (.int .i64 i))(hy:ev S.ah y=some (.int .i64 j))(h: -9223372036854775808≤i*j∧i*j≤9223372036854775807):Q1 P X W n S o (.int .i64 (i*j)):=
 fun a w hs=> .inl (by
  have e:IntKind.i64.wrap (i*j)=i*j:=by rw [gn];omega
  simp [execOp,ho,hs.eval hx,hs.eval hy,binOp,Op.intArith,e,eqGuard])
theorem aeh(ho:o.op= .binOp .add t x y t')(hx:ev S.ah x=some (.int k i))(hy:ev S.ah y=some (.int k j)):Q1 P X W n S o (.int k (k.wrap (i+j))):=
 fun a w hs=> .inl (by simp [execOp,ho,hs.eval hx,hs.eval hy,binOp,Op.intArith,eqGuard])
theorem zQ(ho:o.op= .binOp .quo t x y t')(hx:ev S.ah x=some (.int .i64 i))(hy:ev S.ah y=some (.int .i64 j))(h:0≤i∧1≤j∧i≤9223372036854775807):Q1 P X W n S o (.int .i64 (i/j)):=
 fun a w hs=> .inl (by
  have h1:0≤i/j:=JX h.1  oM
  have h2:i/j≤i:=JY _ h.1
  have e:IntKind.i64.wrap (i/j)=i/j:=by rw [gn];omega
  have h0:j≠0:=oM
  simp [execOp,ho,hs.eval hx,hs.eval hy,binOp,Op.intDiv,eqGuard,h0,Int.tdiv_eq_ediv_of_nonneg h.1,e])
theorem dv(ho:o.op= .binOp .rem t x y t')(hx:ev S.ah x=some (.int k i))(hy:ev S.ah y=some (.int k j))(h:0≤i∧1≤j):Q1 P X W n S o (.int k (i%j)):=
 fun a w hs=> .inl (by
  have h0:j≠0:=oM
  simp [execOp,ho,hs.eval hx,hs.eval hy,binOp,Op.intDiv,eqGuard,h0,Int.tmod_eq_emod_of_nonneg h.1])
theorem aei(ho:o.op= .binOp .quo t x y t')(hx:ev S.ah x=some (.int k i))(hy:ev S.ah y=some (.int k j))(h0:j≠0):Q1 P X W n S o (.int k (k.wrap (i.tdiv j))):=
 fun a w hs=> .inl (by simp [execOp,ho,hs.eval hx,hs.eval hy,binOp,Op.intDiv,eqGuard,h0])
theorem NZ(ho:o.op= .binOp .eql t x y t')(hx:ev S.ah x=some (.int k i))(hy:ev S.ah y=some (.int k j)):Q1 P X W n S o (.bool (i==j)):=
 fun a w hs=> .inl (by simp [execOp,ho,hs.eval hx,hs.eval hy,binOp,Op.intCmp,eqGuard])
theorem N0(ho:o.op= .binOp .neq t x y t')(hx:ev S.ah x=some (.int k i))(hy:ev S.ah y=some (.int k j)):Q1 P X W n S o (.bool (i !=j)):=
 fun a w hs=> .inl (by simp [execOp,ho,hs.eval hx,hs.eval hy,binOp,Op.intCmp,eqGuard])
theorem aej(ho:o.op= .binOp .lss t x y t')(hx:ev S.ah x=some (.int k i))(hy:ev S.ah y=some (.int k j)):Q1 P X W n S o (.bool (decide (i<j))):=
 fun a w hs=> .inl (by simp [execOp,ho,hs.eval hx,hs.eval hy,binOp,Op.intCmp,eqGuard])
theorem aek(ho:o.op= .binOp .leq t x y t')(hx:ev S.ah x=some (.int k i))(hy:ev S.ah y=some (.int k j)):Q1 P X W n S o (.bool (decide (i≤j))):=
 fun a w hs=> .inl (by simp [execOp,ho,hs.eval hx,hs.eval hy,binOp,Op.intCmp,eqGuard])
theorem ael(ho:o.op= .binOp .gtr t x y t')(hx:ev S.ah x=some (.int k i))(hy:ev S.ah y=some (.int k j)):Q1 P X W n S o (.bool (decide (j<i))):=
 fun a w hs=> .inl (by simp [execOp,ho,hs.eval hx,hs.eval hy,binOp,Op.intCmp,eqGuard])
theorem aem(ho:o.op= .binOp .geq t x y t')(hx:ev S.ah x=some (.int k i))(hy:ev S.ah y=some (.int k j)):Q1 P X W n S o (.bool (decide (j≤i))):=
 fun a w hs=> .inl (by simp [execOp,ho,hs.eval hx,hs.eval hy,binOp,Op.intCmp,eqGuard])
theorem fN(ho:o.op= .convert t t' x)(hx:ev S.ah x=some (.int k i)){d:TypeDesc}{k':IntKind}(ht:P.underlying t=some d)(nB:P.underlying t'=some (.int k'))(h:k'.wrap i=i):Q1 P X W n S o (.int k' i):=
 fun a w hs=> .inl (by simp [execOp,ho,hs.eval hx,convert,cL ht,cL nB,Conv.intToInt,h])
theorem N3{ts:Array TypeId}(ho:o.op= .call {callee:= .builtin .min,args:= #[x,y],argTypes:=ts})(hx:ev S.ah x=some (.int k i))(hy:ev S.ah y=some (.int k j)):Q1 P X W n S o (.int k (min i j)):=
 fun a w hs=> .inl (by
  have e:(if j<i then j else i)=min i j:=oM
  simp [execOp,ho,resolve,invoke,builtin,hs.eval hx,hs.eval hy,Builtin.min_,Builtin.min2,e])
theorem N4{ts:Array TypeId}(ho:o.op= .call {callee:= .builtin .max,args:= #[x,y],argTypes:=ts})(hx:ev S.ah x=some (.int k i))(hy:ev S.ah y=some (.int k j)):Q1 P X W n S o (.int k (max i j)):=
 fun a w hs=> .inl (by
  have e:(if i<j then j else i)=max i j:=oM
  simp [execOp,ho,resolve,invoke,builtin,hs.eval hx,hs.eval hy,Builtin.max_,Builtin.max2,e])
end
section
variable{x y:Operand}{t t' e:TypeId}{k:IntKind}{i j:Int}{A:Option Addr}{m c size:Nat}
theorem Uf(ho:o.op= .call {callee:= .builtin .len,args:= #[x],argTypes:= #[t]})(ht:P.underlying t=some (.slice e))(hx:ev S.ah x=some (.slice A m c)):Q1 P X W n S o (.int .i64 (m:Int)):=
 fun a w hs=> .inl (by simp [execOp,ho,resolve,invoke,builtin,hs.eval hx,Builtin.len_,cL ht,goInt])
theorem N5{s:ByteArray}(ho:o.op= .call {callee:= .builtin .len,args:= #[x],argTypes:= #[t]})(ht:P.underlying t=some .string)(hx:ev S.ah x=some (.string s)):Q1 P X W n S o (.int .i64 (s.size:Int)):=
 fun a w hs=> .inl (by simp [execOp,ho,resolve,invoke,builtin,hs.eval hx,Builtin.len_,cL ht,goInt])
theorem aen{a:Addr}(ho:o.op= .nilCheck x)(hx:ev S.ah x=some (.pointer (some a))):Q1 P X W n S o (.pointer (some a)):=
 fun _ w hs=> .inl (by simp [execOp,ho,hs.eval hx])
theorem aeo{a:Addr}{f:Nat}{fs:Array Field}{fd:Field}{s:Nat}(ho:o.op= .fieldAddr t x f)(ht:P.underlying t=some (.struct fs))(hx:ev S.ah x=some (.pointer (some a)))(hf:fs[f]?=some fd)(gr:Sz P fd.type (s+1)){d:Nat}(hd:fd.offset=d):
  Q1 P X W n S o (.pointer (some (a.add d))):=
 fun _ w hs=> .inl (by simp [execOp,ho,hs.eval hx,Instr.fieldAt,cL ht,hf,Instr.sureAddr,fieldPlace,gr.run,hd])
theorem kO{b i:Nat}{f:Nat}{fs:Array Field}{fd:Field}{s:Nat}(ho:o.op= .fieldAddr t x f)(ht:P.underlying t=some (.struct fs))(hx:ev S.ah x=some (.pointer (some ⟨b,i,none⟩)))(hf:fs[f]?=some fd)(gr:Sz P fd.type (s+1)){d:Nat}(hd:i+fd.offset=d):
  Q1 P X W n S o (.pointer (some ⟨b,d,none⟩)):=
 fun _ w hs=> .inl (by simp [execOp,ho,hs.eval hx,Instr.fieldAt,cL ht,hf,Instr.sureAddr,fieldPlace,gr.run,wg,hd])
theorem aep(ho:o.op= .indexAddr t x y)(ht:P.underlying t=some (.slice e))(gr:Sz P e size)(hx:ev S.ah x=some (.slice A m c))(hy:ev S.ah y=some (.int k i))
  (hA:A.isSome=true)(hi:0≤i∧i<m):Q1 P X W n S o (.pointer (some ((bI A).add (i.toNat*size)))):=
 fun _ w hs=> .inl (by
  obtain⟨ad,rfl⟩:=uE.1 hA
  simp [execOp,ho,hs.eval hx,hs.eval hy,Instr.indexAt,cL ht,asIntOf,gr.run,hi.1,hi.2,bI])
theorem ie.some{ls:List (List Value)}(h:ie X W S A size ls)(hl:i.toNat<ls.length){a:Act}{w:World}(hs:cd X W n S a w):A.isSome=true:=by
 rcases h w hs.dm hs.mem with h|⟨ad,rfl,_⟩
 ·subst h;simp at hl
 ·rfl
theorem nC{ls:List (List Value)}{q:Nat}(ho:o.op= .indexAddr t x y)(ht:P.underlying t= .some (.slice e))(gr:Sz P e size)(hx:ev S.ah x= .some (.slice A m c))(hy:ev S.ah y= .some (.int k i))
  (hr:ie X W S A size ls)(hl:ls.length=m)(hi:i=(q:Int))(hq:q<m):Q1 P X W n S o (.pointer (.some ((bI A).add (q*size)))):=
 fun a w hs=>by
  subst hi
  exact aep (i:=(q:Int)) ho ht gr hx hy (hr.some (i:=(q:Int)) (by simp;omega) hs)  oM a w hs
theorem N6{a:Addr}{v:Value}(ho:o.op= .load t x)(ht:f_ P t)(hx:ev S.ah x=some (.pointer (some a)))(hc:∀w,aU X W w→Mem X W S.mem w→w.cell? a=some v):Q1 P X W n S o v:=
 fun _ w hs=> .inl (by simp [execOp,ho,hs.eval hx,Instr.loadAt,Instr.sureAddr,loadVar,ht.1,hc w hs.dm hs.mem])
theorem N7{a:Addr}{vs:List Value}(ho:o.op= .load t x)(ht:iE P t vs.length)(hx:ev S.ah x=some (.pointer (some a)))(hc:∀w,aU X W w→Mem X W S.mem w→∀j v,vs[j]?=some v→w.cell? (a.add j)=some v):Q1 P X W n S o (.agg vs.toArray):=
 fun _ w hs=> .inl (by simp [execOp,ho,hs.eval hx,Instr.loadAt,Instr.sureAddr,loadVar,ht.1,ht.2.run,run_loadCells_list w a vs (hc w hs.dm hs.mem)])
theorem D6{w:World}{b:Nat}{tb:TypeId}{cs:List (Nat×Value)}(h:(ak.ai b tb cs).holds w){i:Nat}{v:Value}(hv:dj cs i=some v):w.cell? ⟨b,i,none⟩=some v:=by
 obtain⟨c,hc,h2⟩:=h
 rw [cell_of_row w b i c tb (0,0) hc]
 exact h2 i v hv
theorem pR{b i:Nat}{tb:TypeId}{cs:List (Nat×Value)}{l:List ak}{v:Value}(ho:o.op= .load t x)(ht:f_ P t)(hx:ev S.ah x=some (.pointer (some ⟨b,i,none⟩)))(hs:ag S.mem (.ai b tb cs) l)(hv:dj cs i=some v):Q1 P X W n S o v:=
 N6 ho ht hx fun _ _ hm=>D6 (hs.holds hm) hv
theorem Gy{b i s:Nat}{tb:TypeId}{cs:List (Nat×Value)}{l:List ak}{vs:List Value}(ho:o.op= .load t x)(ht:iE P t s)(hx:ev S.ah x=some (.pointer (some ⟨b,i,none⟩)))(hs:ag S.mem (.ai b tb cs) l)(hv:lj cs i vs)(hl:vs.length=s):Q1 P X W n S o (.agg vs.toArray):=
 N7 ho (by rw [hl];exact ht) hx fun _ _ hm j v hj=>by rw [wg];exact D6 (hs.holds hm) (hv.get j v hj)
theorem Kh{ls:List (List Value)}{q s:Nat}{vs:List Value}(ho:o.op= .load t x)(ht:iE P t s)(hx:ev S.ah x=some (.pointer (some ((bI A).add (q*size)))))(hr:ie X W S A size ls)(hq:ls[q]?=some vs)(hl:vs.length=s):Q1 P X W n S o (.agg vs.toArray):=
 N7 ho (by rw [hl];exact ht) hx fun w hk hm j v hj=>by
  rcases hr w hk hm with h|⟨ad,rfl,h⟩
  ·subst h;simp at hq
  ·rw [zP];exact h q vs hq j v hj
theorem kP{ls:List (List Value)}{q d:Nat}{vs:List Value}{v:Value}(ho:o.op= .load t x)(ht:f_ P t)(hx:ev S.ah x=some (.pointer (some (((bI A).add (q*size)).add d))))(hr:ie X W S A size ls)(hq:ls[q]?=some vs)(hd:vs[d]?=some v):Q1 P X W n S o v:=
 N6 ho ht hx fun w hk hm=>by
  rcases hr w hk hm with h|⟨ad,rfl,h⟩
  ·subst h;simp at hq
  ·rw [zP];exact h q vs hq d v hd
theorem gV{ls:List (List Value)}{q:Nat}{v:Value}(ho:o.op= .load t x)(ht:f_ P t)(hx:ev S.ah x=some (.pointer (some ((bI A).add (q*size)))))(hr:ie X W S A size ls)(hq:ls[q]?=some [v]):Q1 P X W n S o v:=
 N6 ho ht hx fun w hk hm=>by
  rcases hr w hk hm with h|⟨ad,rfl,h⟩
  ·subst h;simp at hq
  ·have:=h q [v] hq 0 v rfl
   simpa [bI]using this
def uQ(A:Option Addr)(l cap size:Nat):Option Addr:=if cap=l then A else A.map (·.add (l*size))
theorem BF{y:Operand}{h:Int}(ho:o.op= .slice t x none (some y) none)(ht:P.underlying t=some (.slice e))(gr:Sz P e size)(hx:ev S.ah x=some (.slice A m c))(hy:ev S.ah y=some (.int k h))(hh:0≤h∧h≤c):
  Q1 P X W n S o (.slice A h.toNat c):=fun _ w hs=> .inl (by
 have he:P.elem t=e:=by simp [Program.elem,ht]
 have nB:P.underlying t=some (.slice (P.elem t)):=by rw [he];exact ht
 have e1:(fun a:Addr=>a.add 0)=id:=by funext a;exact Addr.add_zero' a
 simp [execOp,ho,hs.eval hx,hs.eval hy,run_sliceAt_slice w t _ _ _ _ nB,run_slice_h w t A m c nB k h hh.1 hh.2,he,gr.run,sliced,e1])
theorem N8{y:Operand}{l:Int}(ho:o.op= .slice t x (some y) none none)(ht:P.underlying t=some (.slice e))(gr:Sz P e size)(hx:ev S.ah x=some (.slice A m c))(hy:ev S.ah y=some (.int k l))(hh:0≤l∧l≤m):
  Q1 P X W n S o (.slice (uQ A l.toNat c size) (m-l.toNat) (c-l.toNat)):=fun _ w hs=> .inl (by
 have he:P.elem t=e:=by simp [Program.elem,ht]
 have nB:P.underlying t=some (.slice (P.elem t)):=by rw [he];exact ht
 simp [execOp,ho,hs.eval hx,hs.eval hy,run_sliceAt_slice w t _ _ _ _ nB,run_slice_l w t A m c nB k l hh.1 hh.2,he,gr.run,sliced,uQ])
theorem Rd.cut{w:World}{ls:List (List Value)}(h:Rd w A size ls){l c:Nat}(hl:ls.length≤c):Rd w (uQ A l c size) size (ls.drop l):=by
 rcases h with h|⟨ad,rfl,h⟩
 ·subst h;exact .inl sM
 ·by_cases hc:c=l
  ·exact .inl (sA  oM)
  ·refine .inr ⟨ad.add (l*size),by simp [uQ,hc],fun i c hi j v hj=>?_⟩
   rw [List.getElem?_drop]at hi
   rw [zP,←zt,←uD]
   exact h _ c hi j v hj
theorem Rd.take{w:World}{ls:List (List Value)}(h:Rd w A size ls)(m:Nat):Rd w A size (ls.take m):=by
 rcases h with h|⟨ad,rfl,h⟩
 ·subst h;exact .inl sM
 ·refine .inr ⟨ad,rfl,fun i c hi j v hj=>?_⟩
  rw [DT]at hi
  split at hi
  ·exact h i c hi j v hj
  ·cases hi
theorem ie.cut{ls:List (List Value)}(h:ie X W S A size ls){l c:Nat}(hl:ls.length≤c):ie X W S (uQ A l c size) size (ls.drop l):=fun w hk hm=>(h w hk hm).cut hl
theorem ie.take{ls:List (List Value)}(h:ie X W S A size ls)(m:Nat):ie X W S A size (ls.take m):=fun w hk hm=>(h w hk hm).take m
end
def eG(P:Program)(f:FuncId):Prop:=∀args w,(callFunc f args).run P w= .ok (.enter f args) w
inductive kv(ah:List (Nat×Value)):List Operand→List Value→Prop where
 |nil:kv ah [] []
 |cons {x:Operand} {v:Value} {xs:List Operand} {vs:List Value} (h:ev ah x=some v) (t:kv ah xs vs):kv ah (x::xs) (v::vs)
theorem kv.map{a:Act}{w:World}{xs:List Operand}{vs:List Value}(h:kv S.ah xs vs)(hs:cd X W n S a w):xs.map a.eval=vs:=by
 induction h with
 |nil=>rfl
 |cons h _ ih=>simp [hs.eval h,ih]
theorem Ug{f:FuncId}{xs:List Operand}{ts:Array TypeId}{vs:List Value}(ho:o.op= .call {callee:= .value (.func f),args:=xs.toArray,argTypes:=ts})(hf:eG P f)(hx:kv S.ah xs vs){a:Act}{w:World}(hs:cd X W n S a w):
  (execOp a.eval o).run P w= .ok (.enter f vs.toArray) w:=by
 have hm:(xs.toArray).map a.eval=vs.toArray:=by simp [hx.map hs]
 have he:a.eval (.func f)= .func (.func f) #[] #[]:=rfl
 simp [execOp,ho,resolve,he,Deferred.ofValue,invoke,hx.map hs]
 exact hf _ _
theorem x6{f:FuncId}{xs:List Operand}{ts:Array TypeId}{vs:List Value}{v:Value}(ho:o.op= .call {callee:= .value (.func f),args:=xs.toArray,argTypes:=ts})(hf:eG P f)(hx:kv S.ah xs vs)
  (hc:∀w,aU X W w→Mem X W S.mem w→Calls P f vs.toArray w (aK w v)):Q1 P X W n S o v:=
 fun _ w hs=> .inr (.inr ⟨f,_,Ug ho hf hx hs,hc w hs.dm hs.mem⟩)
inductive PV(ah:List (Nat×Value)):List (Nat×Operand)→List (Nat×Value)→Prop where
 |nil:PV ah [] []
 |cons {i:Nat} {x:Operand} {v:Value} {xs:List (Nat×Operand)} {vs:List (Nat×Value)} (h:ev ah x=some v) (t:PV ah xs vs):PV ah ((i,x)::xs) ((i,v)::vs)
theorem PV.map{xs:List (Nat×Operand)}{vs:List (Nat×Value)}(h:PV S.ah xs vs){a:Act}{w:World}(hs:cd X W n S a w):xs.map (fun p=>(p.1,a.eval p.2))=vs:=by
 induction h with
 |nil=>rfl
 |cons h _ ih=>simp [hs.eval h,ih]
theorem bB{t:TypeId}{xs:List (Nat×Operand)}{vs:List (Nat×Value)}{cells:Array Value}(ho:o.op= .build t xs.toArray)(hp:PV S.ah xs vs)(hb:P.built t vs=some cells):Q1 P X W n S o (.agg cells):=
 fun a w hs=> .inl (by
  have hm:(xs.toArray.map fun x=>(x.1,a.eval x.2)).toList=vs:=by simpa using hp.map hs
  have hr:=run_build (P:=P) w t (xs.toArray.map fun x=>(x.1,a.eval x.2)) cells (by rw [hm];exact hb)
  simp only [execOp,ho,wh,hr,xS,Bv])
theorem Uh{f:FuncId}{y:Operand}{xs:List Operand}{ts:Array TypeId}{vs:List Value}{cap:List Value}(ho:o.op= .call {callee:= .value y,args:=xs.toArray,argTypes:=ts})(hy:ev S.ah y=some (.func (.func f) #[] cap.toArray))(hf:eG P f)(hx:kv S.ah xs vs){a:Act}{w:World}(hs:cd X W n S a w):
  (execOp a.eval o).run P w= .ok (.enter f (vs++cap).toArray) w:=by
 simp [execOp,ho,resolve,hs.eval hy,Deferred.ofValue,invoke,hx.map hs]
 exact hf _ _
theorem eU{f:FuncId}{y:Operand}{xs:List Operand}{ts:Array TypeId}{vs cap:List Value}{v:Value}(ho:o.op= .call {callee:= .value y,args:=xs.toArray,argTypes:=ts})(hy:ev S.ah y=some (.func (.func f) #[] cap.toArray))(hf:eG P f)(hx:kv S.ah xs vs)
  (hc:∀w,aU X W w→Mem X W S.mem w→Calls P f (vs++cap).toArray w (aK w v)):Q1 P X W n S o v:=
 fun _ w hs=> .inr (.inr ⟨f,_,Uh ho hy hf hx hs,hc w hs.dm hs.mem⟩)
theorem Ki{x y:Operand}{t e:TypeId}{k:IntKind}{i:Int}{len q:Nat}{cs:Array Value}{v:Value}(ho:o.op= .index t x y)(ht:P.underlying t=some (.array len e))(he:f_ P e)(hx:ev S.ah x=some (.agg cs))(hy:ev S.ah y=some (.int k i))
  (hi:i=(q:Int))(hq:q<len)(hv:cs[q]?=some v):Q1 P X W n S o v:=
 fun a w hs=> .inl (by
  subst hi
  have h1:(0:Int)≤(q:Int)∧(q:Int)<(len:Int):=oM
  simp [execOp,ho,hs.eval hx,hs.eval hy,Instr.index,asIntOf,cL ht,h1.2,he.2.run,part,he.1,hv,Nat.not_le.2 hq])
section
variable{x y:Operand}{t t':TypeId}{a b:Bool}
theorem Ui(ho:o.op= .binOp .eql t x y t')(hx:ev S.ah x=some (.bool a))(hy:ev S.ah y=some (.bool b))(ht:P.underlying t=some .bool):Q1 P X W n S o (.bool (a==b)):=
 fun _ w hs=> .inl (by
  have h1:(binOp .eql t (.bool a) (.bool b)).run P w= .ok (.bool (a==b)) w:=by
   simp only [binOp]
   simp [Op.equal,Op.maxDepth,JZ w _ t a b ht]
  simp only [execOp,ho,hs.eval hx,hs.eval hy,eqGuard_at_bool,wh,Bv,xS,h1])
theorem rq{xs ys:Array Value}{r:Bool}(ho:o.op= .binOp .eql t x y t')(hx:ev S.ah x=some (.agg xs))(hy:ev S.ah y=some (.agg ys))(hm:P.eqGuardType P.depth t=false)(he:∀w,(Op.equalIn 10000 t (.agg xs) (.agg ys)).run P w= .ok r w):Q1 P X W n S o (.bool r):=
 fun _ w hs=> .inl (by
  have h2:=run_eqGuard_agg (P:=P) w .eql t x y xs ys hm
  simp only [execOp,ho,hs.eval hx,hs.eval hy,wh,h2,Bv,xS,run_eql_struct,he])
theorem x7{xs ys:Array Value}{r:Bool}(ho:o.op= .binOp .neq t x y t')(hx:ev S.ah x=some (.agg xs))(hy:ev S.ah y=some (.agg ys))(hm:P.eqGuardType P.depth t=false)(he:∀w,(Op.equalIn 10000 t (.agg xs) (.agg ys)).run P w= .ok r w):Q1 P X W n S o (.bool (!r)):=
 fun _ w hs=> .inl (by
  have h2:=run_eqGuard_agg (P:=P) w .neq t x y xs ys hm
  simp only [execOp,ho,hs.eval hx,hs.eval hy,wh,h2,Bv,xS,run_neq_struct,he])
end
end
end Hr
end Go.Proofs.YtdahjfmmndjcpaaGreat
