/- Part. -/
import Derived.ChangeKeysEq
import Derived.Deep.Fields
import Derived.Deep.Slices
import Derived.Ground.SlsfProg
import Derived.Laws.Bits64b
import Derived.Laws.IdiomRangeMap
import Derived.Laws.IdiomStrings
import Derived.Lib.BitFns
import Derived.LoopN
import Derived.MapKept
import Derived.Maps.AppendAt
import Derived.OpenShut
import Derived.Orders
import Derived.OrdersIn
import Derived.OwnWalkIn
import Derived.ProofKit
import Derived.RangeFuncBound
import Derived.RangeFuncCalls
import Derived.RangeFuncLeaves
import Derived.RangeFuncNested
import Derived.Scope
import Derived.Shelf.SlGeneric
import Derived.Shelf.SlSortCmp.WholeK
import Derived.Still
import Derived.Test.YtjpbickffffgkaaGreatProg
import Derived.WalkKit
import Derived.WalkLawsBesides
import Derived.WalkSpells
import Derived.WideKeyRuns
set_option linter.unusedSimpArgs false
set_option linter.unusedVariables false
set_option maxHeartbeats 40000000
set_option maxRecDepth 100000
namespace Go.Proofs.YtjpbickffffgkaaGreat
namespace Hr
end Hr
open Go Go.RowKit Hr Go.Proofs.Tryz
theorem oM{p:Prop}(h:p:=by omega):p:=h
theorem dO{p:Prop}(h:p:=by(try dsimp only);omega):p:=h
theorem lE{p:Prop}(h:p:=by(try simp only [aT,eM,kQ])<;>omega):p:=h
theorem lH{q p:Prop}(h:q)(g:q→p:=by intro this;simp only [aT,eM,kQ]at this⊢;omega):p:=g h
theorem sM{p:Prop}(h:p:=by simp):p:=h
abbrev zz:Value:= .int .i64 0
abbrev zq:Value:= .slice none 0 0
theorem ay:type_of%@congrArg:=@congrArg
theorem aD:type_of%@if_neg:=@if_neg
theorem aG:type_of%@if_pos:=@if_pos
theorem aT:type_of%@List.length_append:=@List.length_append
theorem bE:type_of%@List.length_map:=@List.length_map
theorem cj:type_of%@List.append_assoc:=@List.append_assoc
theorem cn:type_of%@List.map_append:=@List.map_append
theorem cr:type_of%@Go.Proofs.Tryz.underlying3:=@Go.Proofs.Tryz.underlying3
theorem cw:type_of%@decide_eq_false:=@decide_eq_false
theorem cE:type_of%@Nat.le_refl:=@Nat.le_refl
theorem cL:type_of%@List.mem_map:=@List.mem_map
theorem c_:type_of%@List.mem_singleton:=@List.mem_singleton
theorem dC:type_of%@decide_eq_true:=@decide_eq_true
theorem dM:type_of%@Go.run_underlying:=@Go.run_underlying
theorem ep:type_of%@List.mem_append:=@List.mem_append
theorem eA:type_of%@List.mem_cons_self:=@List.mem_cons_self
theorem eH:type_of%@List.length_pos_iff:=@List.length_pos_iff
theorem eM:type_of%@List.length_take:=@List.length_take
theorem eN:type_of%@Bool.and_eq_true:=@Bool.and_eq_true
theorem eS:type_of%@List.take_of_length_le:=@List.take_of_length_le
theorem e_:type_of%@List.mem_range:=@List.mem_range
theorem fa:type_of%@Bool.true_and:=@Bool.true_and
theorem fi:type_of%@List.getElem?_eq_getElem:=@List.getElem?_eq_getElem
theorem fu:type_of%@List.map_map:=@List.map_map
theorem fR:type_of%@Go.run_equalIn_int:=@Go.run_equalIn_int
theorem ga:type_of%@List.length_cons:=@List.length_cons
theorem gl:type_of%@Nat.zero_le:=@Nat.zero_le
theorem gP:type_of%@List.mem_cons:=@List.mem_cons
theorem gQ:type_of%@Go.IntKind.wrap_i64:=@Go.IntKind.wrap_i64
theorem gR:type_of%@List.mem_cons_of_mem:=@List.mem_cons_of_mem
theorem gS:type_of%@List.getElem_of_mem:=@List.getElem_of_mem
theorem g_:type_of%@beq_iff_eq:=@beq_iff_eq
theorem hU:type_of%@List.length_set:=@List.length_set
theorem iF:type_of%@List.append_nil:=@List.append_nil
theorem iO:type_of%@List.map_congr_left:=@List.map_congr_left
theorem iP:type_of%@Bool.and_true:=@Bool.and_true
theorem iX:type_of%@Bool.false_or:=@Bool.false_or
theorem iY:type_of%@Go.Proofs.Tryz.underlying32:=@Go.Proofs.Tryz.underlying32
theorem jl:type_of%@decide_eq_true_eq:=@decide_eq_true_eq
theorem jH:type_of%@Nat.lt_or_ge:=@Nat.lt_or_ge
theorem jI:type_of%@List.length_nil:=@List.length_nil
theorem jV:type_of%@List.map_set:=@List.map_set
theorem j3:type_of%@Nat.le_trans:=@Nat.le_trans
theorem j4:type_of%@List.mem_flatMap:=@List.mem_flatMap
theorem j5:type_of%@List.flatMap_append:=@List.flatMap_append
theorem j6:type_of%@Go.Proofs.Tryz.underlying5:=@Go.Proofs.Tryz.underlying5
theorem j7:type_of%@bne_eq_false_iff_eq:=@bne_eq_false_iff_eq
theorem j8:type_of%@Bool.true_or:=@Bool.true_or
theorem kQ:type_of%@List.length_drop:=@List.length_drop
theorem kR:type_of%@List.any_eq_true:=@List.any_eq_true
theorem kS:type_of%@Bool.false_and:=@Bool.false_and
theorem lz:type_of%@and_true:=@and_true
theorem lT:type_of%@beq_eq_false_iff_ne:=@beq_eq_false_iff_ne
theorem mw:type_of%@List.sublist_append_right:=@List.sublist_append_right
theorem mx:type_of%@List.getElem?_map:=@List.getElem?_map
theorem mQ:type_of%@List.map_cons:=@List.map_cons
theorem mR:type_of%@List.take_append_drop:=@List.take_append_drop
theorem mT:type_of%@Bool.and_false:=@Bool.and_false
theorem mU:type_of%@Bool.or_false:=@Bool.or_false
theorem mW:type_of%@Bool.not_false:=@Bool.not_false
theorem nH:type_of%@Bool.or_true:=@Bool.or_true
theorem nI:type_of%@Bool.not_true:=@Bool.not_true
theorem ox:type_of%@Nat.le_of_lt:=@Nat.le_of_lt
theorem o0:type_of%@List.map_flatMap:=@List.map_flatMap
theorem qY:type_of%@List.range_succ:=@List.range_succ
theorem qZ:type_of%@List.length_mapIdx:=@List.length_mapIdx
theorem rW:type_of%@Option.map_some:=@Option.map_some
theorem rX:type_of%@Go.Proofs.Tryz.underlying48:=@Go.Proofs.Tryz.underlying48
theorem sQ:type_of%@Nat.mul_le_mul_right:=@Nat.mul_le_mul_right
theorem sR:type_of%@List.all_eq_true:=@List.all_eq_true
theorem sS:type_of%@List.take_succ_cons:=@List.take_succ_cons
theorem sT:type_of%@decide_eq_false_iff_not:=@decide_eq_false_iff_not
theorem sU:type_of%@List.drop_succ_cons:=@List.drop_succ_cons
theorem sV:type_of%@Go.run_equalIn_struct:=@Go.run_equalIn_struct
theorem ua:type_of%@List.pairwise_append:=@List.pairwise_append
theorem ub:type_of%@Nat.zero_add:=@Nat.zero_add
theorem uc:type_of%@List.flatten_cons:=@List.flatten_cons
theorem ud:type_of%@Nat.add_mul:=@Nat.add_mul
theorem ue:type_of%@List.mem_of_mem_take:=@List.mem_of_mem_take
theorem uf:type_of%@Int.le_refl:=@Int.le_refl
theorem ug:type_of%@Bool.eq_iff_iff:=@Bool.eq_iff_iff
theorem vf:type_of%@Go.Addr.add_lit:=@Go.Addr.add_lit
theorem vg:type_of%@List.drop_eq_nil_of_le:=@List.drop_eq_nil_of_le
theorem vh:type_of%@Nat.min_eq_left:=@Nat.min_eq_left
theorem vi:type_of%@List.filter_append:=@List.filter_append
theorem vj:type_of%@Go.Proofs.Tryz.underlying182:=@Go.Proofs.Tryz.underlying182
theorem wN:type_of%@List.getElem?_eq_some_iff:=@List.getElem?_eq_some_iff
theorem wO:type_of%@Go.Sem.run_bind:=@Go.Sem.run_bind
theorem wQ:type_of%@if_false:=@if_false
theorem wR:type_of%@List.mem_filter:=@List.mem_filter
theorem wS:type_of%@List.drop_eq_getElem_cons:=@List.drop_eq_getElem_cons
theorem wT:type_of%@Nat.sub_self:=@Nat.sub_self
theorem wV:type_of%@List.getElem?_eq_none:=@List.getElem?_eq_none
theorem wW:type_of%@List.map_take:=@List.map_take
theorem wX:type_of%@List.flatMap_map:=@List.flatMap_map
theorem wY:type_of%@Go.Proofs.Tryz.underlying147:=@Go.Proofs.Tryz.underlying147
theorem w8:type_of%@Eq.trans:=@Eq.trans
theorem w9:type_of%@Bool.and_assoc:=@Bool.and_assoc
theorem yh:type_of%@Nat.eq_of_beq_eq_true:=@Nat.eq_of_beq_eq_true
theorem yi:type_of%@Nat.lt_of_lt_of_le:=@Nat.lt_of_lt_of_le
theorem yj:type_of%@List.getElem?_append_right:=@List.getElem?_append_right
theorem yk:type_of%@Go.Result.andThen_ok:=@Go.Result.andThen_ok
theorem ym:type_of%@Nat.mul_comm:=@Nat.mul_comm
theorem yn:type_of%@List.length_singleton:=@List.length_singleton
theorem yp:type_of%@List.not_mem_nil:=@List.not_mem_nil
theorem yq:type_of%@or_false:=@or_false
theorem yt:type_of%@List.perm_middle:=@List.perm_middle
theorem yu:type_of%@bne_iff_ne:=@bne_iff_ne
theorem yv:type_of%@of_decide_eq_true:=@of_decide_eq_true
theorem Ah:type_of%@List.take_zero:=@List.take_zero
theorem Ai:type_of%@List.ext_getElem?:=@List.ext_getElem?
theorem Aj:type_of%@List.getD_eq_getElem?_getD:=@List.getD_eq_getElem?_getD
theorem Ak:type_of%@List.any_map:=@List.any_map
theorem Al:type_of%@Bool.false_eq_true:=@Bool.false_eq_true
theorem BW:type_of%@Go.Code.wp_mono:=@Go.Code.wp_mono
theorem BX:type_of%@List.cons_append:=@List.cons_append
theorem BY:type_of%@Nat.add_assoc:=@Nat.add_assoc
theorem BZ:type_of%@Go.Sem.run_pure:=@Go.Sem.run_pure
theorem B0:type_of%@List.mem_or_eq_of_mem_set:=@List.mem_or_eq_of_mem_set
theorem B1:type_of%@List.sublist_cons_self:=@List.sublist_cons_self
theorem B2:type_of%@List.pairwise_iff_getElem:=@List.pairwise_iff_getElem
theorem B3:type_of%@List.mem_of_getElem?:=@List.mem_of_getElem?
theorem B4:type_of%@List.set_append_right:=@List.set_append_right
theorem B5:type_of%@Go.Oper.semAt_plain:=@Go.Oper.semAt_plain
theorem B6:type_of%@List.mem_append_left:=@List.mem_append_left
theorem B7:type_of%@List.flatMap_cons:=@List.flatMap_cons
theorem B8:type_of%@List.any_congr:=@List.any_congr
theorem B9:type_of%@List.map_drop:=@List.map_drop
theorem Ek:type_of%@Array.getElem?_eq_none:=@Array.getElem?_eq_none
theorem El:type_of%@List.getElem?_append_left:=@List.getElem?_append_left
theorem Em:type_of%@Option.isSome_iff_exists:=@Option.isSome_iff_exists
theorem Eo:type_of%@List.getElem?_take:=@List.getElem?_take
theorem Ep:type_of%@Nat.lt_irrefl:=@Nat.lt_irrefl
theorem Er:type_of%@List.nil_append:=@List.nil_append
theorem Es:type_of%@Array.length_toList:=@Array.length_toList
theorem Et:type_of%@Nat.mod_lt:=@Nat.mod_lt
theorem Eu:type_of%@Nat.add_zero:=@Nat.add_zero
theorem Ev:type_of%@List.filter_cons:=@List.filter_cons
theorem Ew:type_of%@List.length_range:=@List.length_range
theorem Ex:type_of%@List.mem_of_mem_drop:=@List.mem_of_mem_drop
theorem Ey:type_of%@Bool.not_eq_true':=@Bool.not_eq_true'
theorem Ez:type_of%@Bool.or_eq_false_iff:=@Bool.or_eq_false_iff
theorem EB:type_of%@List.length_eq_one_iff:=@List.length_eq_one_iff
theorem GN:type_of%@Classical.choose_spec:=@Classical.choose_spec
theorem GO:type_of%@List.getElem?_drop:=@List.getElem?_drop
theorem GP:type_of%@Go.run_storeCells_at:=@Go.run_storeCells_at
theorem GQ:type_of%@Nat.succ_mul:=@Nat.succ_mul
theorem GR:type_of%@List.getElem_mem:=@List.getElem_mem
theorem GS:type_of%@List.foldl_cons:=@List.foldl_cons
theorem GU:type_of%@Int.natCast_mul:=@Int.natCast_mul
theorem GV:type_of%@Go.Region.noSelect_spec:=@Go.Region.noSelect_spec
theorem GW:type_of%@Go.Region.free_spec:=@Go.Region.free_spec
theorem GX:type_of%@Option.getD_some:=@Option.getD_some
theorem GY:type_of%@List.take_take:=@List.take_take
theorem GZ:type_of%@Decidable.not_not:=@Decidable.not_not
theorem G0:type_of%@List.filter_eq_self:=@List.filter_eq_self
theorem G1:type_of%@List.drop_sublist:=@List.drop_sublist
theorem G2:type_of%@List.eq_of_mem_replicate:=@List.eq_of_mem_replicate
theorem G3:type_of%@Array.toList_inj:=@Array.toList_inj
theorem G4:type_of%@Go.World.alloc_heap_new:=@Go.World.alloc_heap_new
theorem G5:type_of%@List.getElem?_set:=@List.getElem?_set
theorem G6:type_of%@Go.MapKept.run_getObj_map:=@Go.MapKept.run_getObj_map
theorem G7:type_of%@List.drop_zero:=@List.drop_zero
theorem G8:type_of%@List.foldl_append:=@List.foldl_append
theorem Kk:type_of%@List.pairwise_cons:=@List.pairwise_cons
theorem Kl:type_of%@Array.getElem?_append_left:=@Array.getElem?_append_left
theorem Kn:type_of%@Int.ediv_nonneg:=@Int.ediv_nonneg
theorem Ko:type_of%@Int.ediv_le_self:=@Int.ediv_le_self
theorem Kq:type_of%@Nat.div_lt_of_lt_mul:=@Nat.div_lt_of_lt_mul
theorem Kr:type_of%@Nat.div_add_mod:=@Nat.div_add_mod
theorem Kt:type_of%@List.flatten_append:=@List.flatten_append
theorem Ku:type_of%@Array.foldl_toList:=@Array.foldl_toList
theorem Kv:type_of%@List.getElem?_cons_zero:=@List.getElem?_cons_zero
theorem Kw:type_of%@List.take_length:=@List.take_length
theorem Kx:type_of%@Nat.add_sub_cancel:=@Nat.add_sub_cancel
theorem Kz:type_of%@List.take_append_of_le_length:=@List.take_append_of_le_length
theorem KA:type_of%@List.take_sublist:=@List.take_sublist
theorem KB:type_of%@Array.toList_map:=@Array.toList_map
theorem KC:type_of%@List.flatMap_def:=@List.flatMap_def
theorem KD:type_of%@List.find?_append:=@List.find?_append
theorem KE:type_of%@List.find?_eq_none:=@List.find?_eq_none
theorem KF:type_of%@List.ext_getElem:=@List.ext_getElem
theorem KG:type_of%@Bool.not_eq_false':=@Bool.not_eq_false'
theorem KH:type_of%@of_decide_eq_false:=@of_decide_eq_false
theorem KI:type_of%@List.not_any_eq_all_not:=@List.not_any_eq_all_not
theorem On:type_of%@Array.getElem?_eq_some_iff:=@Array.getElem?_eq_some_iff
theorem Oo:type_of%@List.getElem?_toArray:=@List.getElem?_toArray
theorem Oq:type_of%@List.drop_length_add_append:=@List.drop_length_add_append
theorem Ot:type_of%@Array.getD_eq_getD_getElem?:=@Array.getD_eq_getD_getElem?
theorem Ou:type_of%@Array.getElem?_eq_getElem:=@Array.getElem?_eq_getElem
theorem Ow:type_of%@List.length_filter_le:=@List.length_filter_le
theorem Ox:type_of%@Int.mul_le_mul_of_nonneg_right:=@Int.mul_le_mul_of_nonneg_right
theorem Oy:type_of%@List.perm_append_comm:=@List.perm_append_comm
theorem Oz:type_of%@List.mem_append_right:=@List.mem_append_right
theorem OA:type_of%@List.drop_of_length_le:=@List.drop_of_length_le
namespace Hr
theorem OB{α:Type}:∀(q:Ask α) (w:World),w.drawn≤(w.ask q).2.drawn
 | .done a,w=>cE _
 | .ask aw3 range k,w=>by
  unfold World.ask
  simp only
  split
  ·exact OB _ _
  ·exact j3 (Nat.le_succ _) (OB (k _) {w with drawn:=w.drawn+1})
theorem afj(w:World)(c:Sys):w.drawn≤(w.sys c).2.drawn:=by
 have h:=OB (Kernel.perform c w.os) w
 unfold World.sys
 split
 ·exact cE _
 ·rename_i r os w' e
  rw [e]at h
  exact h
theorem afk(w:World)(a:Addr)(v:Value):(w.setCell a v).drawn=w.drawn:=rfl
theorem afl(w:World)(a:Addr)(n:Nat):(w.freeze a n).drawn=w.drawn:=by
 unfold World.freeze
 split<;>rfl
theorem afm{p:Program}{w w':World}{cA:Addr}{u:TypeId}{k:Addr}{v:Value}{atomic:Bool}{l:List Addr}(h:w.viewStore p cA u k v atomic= .ok (w',l)):w'.drawn=w.drawn:=by
 unfold World.viewStore at h
 simp only [bind,Except.bind,pure,Except.pure,throw,throwThe,MonadExceptOf.throw]at h
 repeat' split at h
 all_goals first
  |(cases h;rfl)
  |(cases h;done)
  |skip
theorem afn{p:Program}{w w':World}{a:Addr}{v:Value}{atomic:Bool}{l:List Addr}(h:w.farStore p a v atomic= .ok (w',l)):w'.drawn=w.drawn:=by
 unfold World.farStore at h
 split at h
 ·split at h
  ·rename_i r e
   cases h
   exact afm e
  ·cases h
 ·cases h
theorem qk{α:Type}{p:Program}:∀(s:Sem α) (w w':World) (a:α),s.run p w= .ok a w'→w.drawn≤w'.drawn
 | .pure a,w,w',b,h=>by simp only [Sem.run]at h;cases h;exact cE _
 | .load m a k,w,w',b,h=>by
  simp only [Sem.run]at h
  split at h
  ·exact qk _ _ _ _ h
  ·split at h
   ·exact qk _ _ _ _ h
   ·cases h
 | .store m a v k,w,w',b,h=>by
  cases v<;>(simp only [Sem.run]at h;first|(cases h;done)|skip)<;>
  (split at h
   ·split at h
    ·cases h
    ·exact j3 (Nat.le_of_eq (afk w a _).symm) (qk k _ _ _ h)
   ·split at h
    ·rename_i e;exact j3 (Nat.le_of_eq (afn e).symm) (qk k _ _ _ h)
    ·cases h)
 | .new o k,w,w',b,h=>by simp only [Sem.run]at h;exact qk (k _) {w with heap:=w.heap.push o} _ _ h
 | .shape r k,w,w',b,h=>by simp only [Sem.run]at h;exact qk _ _ _ _ h
 | .freeze a n k,w,w',b,h=>by simp only [Sem.run]at h;exact j3 (Nat.le_of_eq (afl w a n).symm) (qk k _ _ _ h)
 | .frozen a k,w,w',b,h=>by simp only [Sem.run]at h;exact qk _ _ _ _ h
 | .getObj r k,w,w',b,h=>by
  simp only [Sem.run]at h
  split at h
  ·cases h
  ·exact qk _ _ _ _ h
  ·cases h
 | .setObj r o k,w,w',b,h=>by
  simp only [Sem.run]at h
  split at h
  ·cases h
  ·exact qk k {w with heap:=w.heap.setIfInBounds r o} _ _ h
  ·cases h
 | .choose q k,w,w',b,h=>by
  simp only [Sem.run]at h
  split at h
  ·exact qk _ _ _ _ h
  ·exact j3 (Nat.le_succ _) (qk (k _) {w with drawn:=w.drawn+1} _ _ h)
 | .sys c k,w,w',b,h=>by simp only [Sem.run]at h;exact j3 (afj w c) (qk (k _) _ _ _ h)
 | .program k,w,w',b,h=>by simp only [Sem.run]at h;exact qk _ _ _ _ h
 | .mark _ k,w,w',b,h=>by simp only [Sem.run]at h;exact qk _ _ _ _ h
 | .halt x,w,w',b,h=>by simp only [Sem.run]at h;cases h
end Hr
section
namespace Hr
def dw:List (Nat×Value)→Nat→Option Value
 | [],_=>none
 |(k,v)::r,i=>match Nat.beq k i with
  |true=>some v
  |false=>dw r i
theorem G9(k:Nat)(v:Value)(r:List (Nat×Value)):dw ((k,v)::r) k=some v:=by
 simp [dw]
theorem G_{k i:Nat}(h:k≠i)(v:Value)(r:List (Nat×Value)):dw ((k,v)::r) i=dw r i:=by
 have:Nat.beq k i=false:=by
  cases hb:Nat.beq k i with
  |true=>exact absurd (yh hb) h
  |false=>rfl
 simp [dw,this]
structure bb(X:Nat→Prop)(w w':World):Prop where
 os:w'.os=w.os
 tape:w'.tape=w.tape
 output:w'.output=w.output
 size:w.heap.size≤w'.heap.size
 block:∀k,k<w.heap.size→¬X k→w'.heap[k]?=w.heap[k]?
 drawn:w.drawn≤w'.drawn
def nX:Nat→Prop:=fun _=>False
theorem bb.refl(X:Nat→Prop)(w:World):bb X w w:=⟨rfl,rfl,rfl,cE _,fun _ _ _=>rfl,cE _⟩
theorem bb.step{X Y:Nat→Prop}{a b c:World}(h:bb X a b)(g:bb Y b c)(hY:∀k,k<a.heap.size→¬X k→¬Y k):bb X a c:=
 ⟨g.os.trans h.os,g.tape.trans h.tape,g.output.trans h.output,j3 h.size g.size,
  fun k hk hx=>(g.block k (yi hk h.size) (hY k hk hx)).trans (h.block k hk hx),j3 h.drawn g.drawn⟩
theorem bb.afo{w w':World}(h:Below w.heap.size w w')(hd:w.drawn≤w'.drawn):bb nX w w':=⟨h.os,h.tape,h.output,h.size,fun k hk _=>h.block k hk,hd⟩
theorem bb.below{w w':World}(h:bb nX w w'):Below w.heap.size w w':=⟨h.os,h.tape,h.output,h.size,fun k hk=>h.block k hk (fun e=>e)⟩
theorem bb.fS{X:Nat→Prop}{a b c:World}(h:bb X a b)(g:bb nX b c):bb X a c:=h.step g (fun _ _ _ e=>e)
theorem bb.drew{X:Nat→Prop}{a b:World}(h:bb X a b):bb X a {b with drawn:=b.drawn+1}:=⟨h.os,h.tape,h.output,h.size,h.block,j3 h.drawn (Nat.le_succ _)⟩
theorem bb.alloc(w:World)(o:Obj):bb nX w (w.alloc o):=bb.afo ((Below.refl _ _).alloc (cE _) o) (cE _)
inductive an where
 |aj (b:Nat) (t:TypeId) (cs:List (Nat×Value))
 |ag (t:TypeId) (size:Nat) (A:Option Addr) (n c:Nat) (ls:List (List Value))
 |any (cA:Nat→Prop) (Q:World→Prop) (lt:∀w,Q w→∀b,cA b→b<w.heap.size) (o5:∀w w',Q w→(∀b,cA b→w'.heap[b]?=w.heap[b]?)→Q w')
def an.at:an→Nat→Prop
 | .aj b _ _=>fun k=>b=k
 | .ag _ _ A _ _ _=>fun k=>A.map (·.block)=some k
 | .any cA _ _ _=>cA
def an.holds(w:World):an→Prop
 | .aj b t cs=>∃c:Array Value,w.heap[b]?=some (.cells c t (0,0))∧∀i v,dw cs i=some v→c[i]?=some v
 | .ag t size A n c ls=>w.ownsRow 0 t size (.slice A n c) n ls.flatten∧ls.length=n∧∀x∈ls,x.length=size
 | .any _ Q _ _=>Q w
theorem KJ(A:Option Addr)(n c:Nat):(Value.slice A n c).ownBlock=A.map (·.block):=by cases A<;>rfl
theorem uh{w:World}{b:Nat}{o:Obj}(h:w.heap[b]?=some o):b<w.heap.size:=by
 rcases jH b w.heap.size with bW|B_
 ·exact bW
 ·rw [Ek B_]at h;cases h
theorem an.holds.lt{w:World}{r:an}(h:r.holds w):∀b,r.at b→b<w.heap.size:=by
 intro b hb
 cases r with
 |aj b' t cs=>
  obtain⟨c,hc,_⟩:=h
  simp only [an.at]at hb
  subst hb
  exact uh hc
 |ag t size A n c ls=>exact(World.ownsRow.lt h.1 b (by rw [KJ];exact hb)).2
 |any cA Q lt o5=>exact lt w h b hb
theorem an.holds.o5{w w':World}{r:an}(h:r.holds w)(hk:∀b,r.at b→w'.heap[b]?=w.heap[b]?):r.holds w':=by
 cases r with
 |aj b' t cs=>
  obtain⟨c,hc,h2⟩:=h
  exact⟨c,(hk b' rfl).trans hc,h2⟩
 |ag t size A n c ls=>
  obtain⟨⟨h1,h2⟩,h3⟩:=h
  refine⟨⟨h1,?_⟩,h3⟩
  rcases h2 with h2|⟨g,cap,eO,hv,hg,hh,r⟩
  ·exact .inl h2
  ·refine .inr ⟨g,cap,eO,hv,hg,(hk g ?_).trans hh,r⟩
   simp only [Value.slice.injEq]at hv
   show A.map (·.block)=some g
   rw [hv.1];rfl
 |any cA Q lt o5=>exact o5 w w' h hk
structure Mem(X:Nat→Prop)(W:World)(rs:List an)(w:World):Prop where
 holds:∀r∈rs,r.holds w
 ag:∀r∈rs,∀b,r.at b→W.heap.size≤b∨X b
 apart:rs.Pairwise fun(r s:an)=>∀b:Nat,r.at b→¬s.at b
theorem Mem.nil{X:Nat→Prop}{W w:World}:Mem X W [] w:=⟨by simp,by simp,.nil⟩
theorem Mem.aK{X:Nat→Prop}{W w:World}{rs cm:List an}(h:Mem X W rs w)(p:rs.Perm cm):Mem X W cm w:=
 ⟨fun r hr=>h.holds r (p.mem_iff.2 hr),fun r hr=>h.ag r (p.mem_iff.2 hr),
  (p.pairwise_iff (fun KK b hy hx=>KK b hx hy)).1 h.apart⟩
theorem Mem.sub{X:Nat→Prop}{W w:World}{rs cm:List an}(h:Mem X W rs w)(p:cm.Sublist rs):Mem X W cm w:=
 ⟨fun r hr=>h.holds r (p.subset hr),fun r hr=>h.ag r (p.subset hr),h.apart.sublist p⟩
theorem Mem.o5{X Y:Nat→Prop}{W w w':World}{rs:List an}(h:Mem X W rs w)(hk:bb Y w w')(hY:∀r∈rs,∀b,r.at b→¬Y b):Mem X W rs w':=
 ⟨fun r hr=>(h.holds r hr).o5 fun b hb=>hk.block b ((h.holds r hr).lt b hb) (hY r hr b hb),h.ag,h.apart⟩
theorem Mem.w_{X:Nat→Prop}{W w w':World}{rs:List an}(h:Mem X W rs w)(hk:bb nX w w'):Mem X W rs w':=h.o5 hk fun _ _ _ _ e=>e
theorem Mem.lt{X:Nat→Prop}{W w:World}{rs:List an}(h:Mem X W rs w):∀r∈rs,∀b,r.at b→b<w.heap.size:=fun r hr=>(h.holds r hr).lt
theorem Mem.cons{X:Nat→Prop}{W w:World}{r:an}{rs:List an}(h:Mem X W rs w)(h1:r.holds w)(h2:∀b,r.at b→W.heap.size≤b∨X b)
  (h3:∀s∈rs,∀b,r.at b→¬s.at b):Mem X W (r::rs) w:=
 ⟨by simpa using ⟨h1,h.holds⟩,by simpa using ⟨h2,h.ag⟩,.cons h3 h.apart⟩
theorem Mem.head{X:Nat→Prop}{W w:World}{r:an}{rs:List an}(h:Mem X W (r::rs) w):
  r.holds w∧(∀b,r.at b→W.heap.size≤b∨X b)∧(∀s∈rs,∀b,r.at b→¬s.at b)∧Mem X W rs w:=by
 have h3:=Kk.1 h.apart
 exact⟨h.holds r sM,h.ag r sM,h3.1,⟨fun s hs=>h.holds s (by simp [hs]),fun s hs=>h.ag s (by simp [hs]),h3.2⟩⟩
structure St where
 ai:List (Nat×Value)
 mem:List an
structure cB(X:Nat→Prop)(W:World)(n:Nat)(S:St)(a:Act)(w:World):Prop where
 size:a.tmps.size=n
 defers:a.defers= []
 ai:∀k v,dw S.ai k=some v→a.tmps[k]?=some v
 dx:bb X W w
 mem:Mem X W S.mem w
def ev(ai:List (Nat×Value)):Operand→Option Value
 | .tmp t=>dw ai t
 | .const v=>some v
 | .global g=>some (.pointer (some ⟨g,0,none⟩))
 | .func f=>some (.func (.func f) #[] #[])
section
variable{X:Nat→Prop}{W:World}{n:Nat}{S:St}{a:Act}{w:World}
theorem cB.eval(h:cB X W n S a w){x:Operand}{v:Value}(hx:ev S.ai x=some v):a.eval x=v:=by
 cases x with
 |tmp t=>
  have:=h.ai t v hx
  simp [Act.eval,this]
 |const u=>exact Option.some.inj hx
 |global g=>exact Option.some.inj hx
 |func f=>exact Option.some.inj hx
theorem cB.world(h:cB X W n S a w){w':World}(hk:bb nX w w'):cB X W n S a w':=
 ⟨h.size,h.defers,h.ai,h.dx.fS hk,h.mem.w_ hk⟩
theorem afp(h:a.tmps.size=n){d:Nat}(hd:Nat.blt d n=true)(v:Value):(a.put (some d) v).tmps[d]?=some v∧∀k,d≠k→(a.put (some d) v).tmps[k]?=a.tmps[k]?:=by
 have vk:d<a.tmps.size:=by rw [h];simpa using hd
 refine⟨by simp [Act.put,vk],fun k hk=>by simp [Act.put,hk]⟩
theorem cB.put(h:cB X W n S a w){d:Nat}(hd:Nat.blt d n=true)(v:Value):cB X W n ⟨(d,v)::S.ai,S.mem⟩ (a.put (some d) v) w:=by
 obtain⟨h1,h2⟩:=afp h.size hd v
 refine⟨by simp [Act.put,h.size],h.defers,fun k u hk=>?_,h.dx,h.mem⟩
 by_cases e:d=k
 ·subst e
  rw [G9]at hk
  rw [h1,hk]
 ·rw [G_ e]at hk
  rw [h2 k e]
  exact h.ai k u hk
theorem cB.Ha(h:cB X W n S a w){w':World}{m:List an}(hk:bb X W w')(hm:Mem X W m w'):cB X W n ⟨S.ai,m⟩ a w':=⟨h.size,h.defers,h.ai,hk,hm⟩
end
inductive K where
 |bC (c:Code)
 |aq (all:Array Oper) (l:List Oper)
 |aj (id:Nat)
 |stop (J:Act→World→Prop)
def post(P:Program)(fn:Func)(R:Ending→World→Prop):List K→Exit→Act→World→Prop
 | []=>bodyPost P fn R
 | .bC c::k=>Exit.then (c.wp P (post P fn R k)) (post P fn R k)
 | .aq all l::k=>Exit.then (wpList P all (post P fn R k) l) (post P fn R k)
 | .aj id::k=>Exit.inBlock id (post P fn R k)
 | .stop J::k=>Exit.then J (post P fn R k)
def ui(id:Nat):List K→Option (List K)
 | []=>none
 | .aj yw::k=>match Nat.beq id yw with
  |true=>some k
  |false=>ui id k
 | .bC _::k=>ui id k
 | .aq _ _::k=>ui id k
 | .stop _::k=>ui id k
theorem Hb{P:Program}{fn:Func}{R:Ending→World→Prop}{id:Nat}{a:Act}{w:World}:∀{k k':List K},ui id k=some k'→post P fn R k' .normal a w→post P fn R k (.exit id) a w
 | [],_,h,_=>by simp [ui]at h
 | .aj yw::k,k',h,hp=>by
  simp only [ui]at h
  simp only [post,Exit.inBlock]
  by_cases e:id=yw
  ·subst e
   rw [show Nat.beq id id=true from by simp]at h
   simp only [Option.some.injEq]at h
   subst h
   simpa using hp
  ·have hb:Nat.beq id yw=false:=by
    cases hb:Nat.beq id yw with
    |true=>exact absurd (yh hb) e
    |false=>rfl
   rw [hb]at h
   rw [aD e]
   exact Hb h hp
 | .bC _::k,k',h,hp=>Hb (k:=k) h hp
 | .aq _ _::k,k',h,hp=>Hb (k:=k) h hp
 | .stop _::k,k',h,hp=>Hb (k:=k) h hp
theorem He{P:Program}{fn:Func}{R:Ending→World→Prop}{a:Act}{w:World}(h:bodyPost P fn R .ret a w):∀(k:List K),post P fn R k .ret a w
 | []=>h
 | .aj _::k=>He h k
 | .bC _::k=>He h k
 | .aq _ _::k=>He h k
 | .stop _::k=>He h k
def bt(P:Program)(fn:Func)(R:Ending→World→Prop)(X:Nat→Prop)(W:World)(n:Nat)(k:List K)(S:St):Prop:=
 ∀a w,cB X W n S a w→post P fn R k .normal a w
section
variable{P:Program}{fn:Func}{R:Ending→World→Prop}{X:Nat→Prop}{W:World}{n:Nat}{k:List K}{S:St}
theorem afq{x y:Code}(h:bt P fn R X W n (.bC x:: .bC y::k) S):bt P fn R X W n (.bC (.seq x y)::k) S:=
 fun a w hs=>wp_seq (h a w hs)
theorem afr(h:bt P fn R X W n k S):bt P fn R X W n (.bC .skip::k) S:=fun a w hs=>wp_skip (h a w hs)
theorem afs{id:Nat}{c:Code}(h:bt P fn R X W n (.bC c:: .aj id::k) S):bt P fn R X W n (.bC (.block id c)::k) S:=
 fun a w hs=>wp_block (h a w hs)
theorem aft{id:Nat}(h:bt P fn R X W n k S):bt P fn R X W n (.aj id::k) S:=fun a w hs=>h a w hs
theorem afu{id:Nat}{k':List K}(hp:ui id k=some k')(h:bt P fn R X W n k' S):bt P fn R X W n (.bC (.exit id)::k) S:=
 fun a w hs=>wp_exit (Hb hp (h a w hs))
theorem afv(h:bt P fn R X W n [] S):bt P fn R X W n (.bC .ret::k) S:=
 fun a w hs=>wp_ret (He (h a w hs) k)
theorem afw{c:Operand}{x y:Code}(hc:ev S.ai c=some (.bool true))(h:bt P fn R X W n (.bC x::k) S):bt P fn R X W n (.bC (.cond c x y)::k) S:=
 fun a w hs=>wp_cond_true (hs.eval hc) (h a w hs)
theorem afx{c:Operand}{x y:Code}(hc:ev S.ai c=some (.bool false))(h:bt P fn R X W n (.bC y::k) S):bt P fn R X W n (.bC (.cond c x y)::k) S:=
 fun a w hs=>wp_cond_false (hs.eval hc) (h a w hs)
theorem afy{c:Operand}{x y:Code}{t:Bool}(hc:ev S.ai c=some (.bool t))(h1:t=true→bt P fn R X W n (.bC x::k) S)(h2:t=false→bt P fn R X W n (.bC y::k) S):
  bt P fn R X W n (.bC (.cond c x y)::k) S:=
 fun a w hs=>wp_cond_split (hs.eval hc) (fun e=>h1 e a w hs) (fun e=>h2 e a w hs)
theorem lU{c:Operand}{x y:Code}{t:Bool}(hc:ev S.ai c=some (.bool t))(ht:t=true)(h:bt P fn R X W n (.bC x::k) S):bt P fn R X W n (.bC (.cond c x y)::k) S:=by
 subst ht;exact afw hc h
theorem eB{c:Operand}{x y:Code}{t:Bool}(hc:ev S.ai c=some (.bool t))(ht:t=false)(h:bt P fn R X W n (.bC y::k) S):bt P fn R X W n (.bC (.cond c x y)::k) S:=by
 subst ht;exact afx hc h
theorem afz(t:Tmp){c:Bool}(OC:dw S.ai t=some (.bool c))(h1:c=true→bt P fn R X W n k S)(h2:c=false→bt P fn R X W n k S):bt P fn R X W n k S:=by
 cases c
 ·exact h2 rfl
 ·exact h1 rfl
theorem afA{id:Nat}{l:List Oper}(h:bt P fn R X W n (.aq l.toArray l::k) S):bt P fn R X W n (.bC (.region id l.toArray false)::k) S:=
 fun a w hs=>wp_region_lit (h a w hs)
theorem afB{all:Array Oper}(h:bt P fn R X W n k S):bt P fn R X W n (.aq all []::k) S:=fun a w hs=>h a w hs
def vm(X:Nat→Prop)(W:World)(n:Nat)(S S':St):Prop:=∀a w,cB X W n S a w→cB X W n S' a w
theorem dI{S':St}(hs:vm X W n S S')(h:bt P fn R X W n k S'):bt P fn R X W n k S:=fun a w h'=>h a w (hs a w h')
def yx(X:Nat→Prop)(W:World)(n:Nat){ι:Type}(φ:ι→Prop)(fv:ι→St)(a:Act)(w:World):Prop:=∃i,φ i∧cB X W n (fv i) a w
theorem Ca{ι:Type}{φ:ι→Prop}{fv:ι→St}(i:ι)(hi:φ i)(hs:vm X W n S (fv i)):bt P fn R X W n (.stop (yx X W n φ fv)::k) S:=
 fun a w h=>⟨i,hi,hs a w h⟩
theorem EC{ι:Type}{c:Code}(φ:ι→Prop)(fv:ι→St)(h:bt P fn R X W n (.bC c:: .stop (yx X W n φ fv)::k) S)(h':∀i,φ i→bt P fn R X W n k (fv i)):
  bt P fn R X W n (.bC c::k) S:=fun a w hs=>by
 refine BW ?_ (h a w hs)
 intro e a' w' q
 cases e with
 |normal=>obtain⟨i,hi,cz⟩:=q;exact h' i hi a' w' cz
 |_=>exact q
def pC(X:Nat→Prop)(W:World)(n:Nat){ι:Type}(φ:ι→Prop)(fv:ι→St)(μ:ι→Nat)(m:Nat)(a:Act)(w:World):Prop:=∃i,φ i∧μ i<m∧cB X W n (fv i) a w
theorem Cb{ι:Type}{φ:ι→Prop}{fv:ι→St}{μ:ι→Nat}{m:Nat}(i:ι)(hi:φ i)(hm:μ i<m)(hs:vm X W n S (fv i)):bt P fn R X W n (.stop (pC X W n φ fv μ m)::k) S:=
 fun a w h=>⟨i,hi,hm,hs a w h⟩
theorem OD{p:Nat→Prop}:∀(b m:Nat),m≤b→p m→∃m,p m∧∀k,p k→m≤k
 |0,m,hm,h=>⟨m,h,fun k _=>oM⟩
 |b+1,m,hm,h=>by
  by_cases hk:∃k,k≤b∧p k
  ·obtain⟨k,OE,hp⟩:=hk
   exact OD b k OE hp
  ·refine⟨m,h,fun k hp=>?_⟩
   rcases jH b k with h1|h1
   ·omega
   ·exact absurd ⟨k,h1,hp⟩ hk
open Classical in
theorem rY{ι:Type}{c:Code}(φ:ι→Prop)(fv:ι→St)(μ:ι→Nat)(i0:ι)(h0:φ i0)(fb:vm X W n S (fv i0))
  (hr:∀i,φ i→bt P fn R X W n (.bC c:: .stop (pC X W n φ fv μ (μ i))::k) (fv i)):bt P fn R X W n (.bC (.loop c)::k) S:=by
 intro a w hs
 have hl:∀a w,(∃m i,φ i∧μ i=m∧cB X W n (fv i) a w)→∃m,(∃i,φ i∧μ i=m∧cB X W n (fv i) a w)∧∀k,(∃i,φ i∧μ i=k∧cB X W n (fv i) a w)→m≤k:=
  fun a w ⟨m,h⟩=>OD m m (cE _) h
 refine wp_loop (fun a w=>∃m i,φ i∧μ i=m∧cB X W n (fv i) a w)
  (fun a w=>if h:∃m i,φ i∧μ i=m∧cB X W n (fv i) a w then Classical.choose (hl a w h)else 0) ⟨_,i0,h0,rfl,fb a w hs⟩ ?_
 intro a w hI
 rw [dif_pos hI]
 obtain⟨⟨i,hi,hm,cz⟩,_⟩:=GN (hl a w hI)
 refine BW ?_ (hr i hi a w cz)
 intro e a' w' q
 cases e with
 |normal=>
  obtain⟨i',da,bW,Hf⟩:=q
  have Cc:∃m i,φ i∧μ i=m∧cB X W n (fv i) a' w':=⟨_,i',da,rfl,Hf⟩
  refine⟨Cc,?_⟩
  rw [dif_pos Cc]
  have:=(GN (hl a' w' Cc)).2 (μ i') ⟨i',da,rfl,Hf⟩
  omega
 |_=>exact q
end
inductive dd(all:Array Oper)(ai:List (Nat×Value))(o:Oper):Bool→Prop where
 |none (h:o.guard=Option.none):dd all ai o true
 |guard {j:Nat} {b c:Bool} {t:Tmp} (h:o.guard=some (j,b)) (hd:(all[j]?).bind (·.dst)=some t) (ht:dw ai t=some (.bool c)):dd all ai o (c==b)
 |off {j:Nat} {b:Bool} {t:Tmp} (h:o.guard=some (j,b)) (hd:(all[j]?).bind (·.dst)=some t) (ht:dw ai t=some undef):dd all ai o false
theorem dd.on{all:Array Oper}{ai:List (Nat×Value)}{o:Oper}{j:Nat}{b c:Bool}{t:Tmp}(h:o.guard=some (j,b))(hd:(all[j]?).bind (·.dst)=some t)(ht:dw ai t=some (.bool c))(hc:c=b):dd all ai o true:=by
 subst hc
 have:=dd.guard h hd ht
 cases c<;>exact this
theorem dd.no{all:Array Oper}{ai:List (Nat×Value)}{o:Oper}{j:Nat}{b c:Bool}{t:Tmp}(h:o.guard=some (j,b))(hd:(all[j]?).bind (·.dst)=some t)(ht:dw ai t=some (.bool c))(hc:c= !b):dd all ai o false:=by
 subst hc
 have:=dd.guard h hd ht
 cases b<;>exact this
section
variable{X:Nat→Prop}{W:World}{n:Nat}{S:St}{a:Act}{w:World}
theorem dd.eq{all:Array Oper}{o:Oper}{c:Bool}(h:dd all S.ai o c)(hs:cB X W n S a w):Region.wanted o (yielded all a.tmps)=c:=by
 cases h with
 |none h=>simp [Region.wanted,h]
 | @guard j b c t h hd ht=>
  have:=hs.ai t _ ht
  have hy:yielded all a.tmps j=some c:=by simp only [yielded,hd,Option.bind_some,this]
  simp only [Region.wanted,h,hy]
  cases c<;>cases b<;>rfl
 | @off j b t h hd ht=>
  have:=hs.ai t _ ht
  have hy:yielded all a.tmps j=Option.none:=by simp only [yielded,hd,Option.bind_some,this,undef]
  simp only [Region.wanted,h,hy]
  cases b<;>rfl
end
def Q1(P:Program)(X:Nat→Prop)(W:World)(n:Nat)(S:St)(o:Oper)(v:Value):Prop:=
 ∀a w,cB X W n S a w→(execOp a.eval o).run P w= .ok (.value v) w∨((execOp a.eval o).run P w= .ok .skip w∧v=undef)∨
  ∃f args,(execOp a.eval o).run P w= .ok (.enter f args) w∧Calls P f args w fun e w'=>e= .returned v∧bb nX w w'
def H1(P:Program)(X:Nat→Prop)(W:World)(n:Nat)(S:St)(o:Oper){ι:Type}(φ:ι→Prop)(next:ι→St):Prop:=
 ∀a w,cB X W n S a w→∀(k:Act→World→Prop) (Q:Exit→Act→World→Prop),(∀i a' w',φ i→cB X W n (next i) a' w'→k a' w')→o.wp P a w k Q
theorem Q1.wp{P:Program}{X:Nat→Prop}{W:World}{n:Nat}{S:St}{o:Oper}{v:Value}(h:Q1 P X W n S o v){a:Act}{w:World}(hs:cB X W n S a w)
  {k:Act→World→Prop}{Q:Exit→Act→World→Prop}(hk:∀w',bb nX w w'→k (a.put o.dst v) w'):o.wp P a w k Q:=by
 unfold Oper.wp
 rcases h a w hs with h1|⟨h1,h2⟩|⟨f,args,h1,hc⟩
 ·rw [h1];exact hk _ (bb.refl _ _)
 ·rw [h1];subst h2;exact hk _ (bb.refl _ _)
 ·rw [h1];exact hc.mono fun e w' ⟨he,hw⟩=>by subst he;exact hk _ hw
section
variable{P:Program}{fn:Func}{R:Ending→World→Prop}{X:Nat→Prop}{W:World}{n:Nat}{k:List K}{S:St}{ai:List (Nat×Value)}{mem:List an}{all:Array Oper}{aS:List Oper}{o:Oper}
theorem iG{v:Value}{d:Nat}(hw:dd all ai o true)(hd:o.dst=some d)(hdn:Nat.blt d n=true)(h:Q1 P X W n ⟨ai,mem⟩ o v)
  (hk:bt P fn R X W n (.aq all aS::k) ⟨(d,v)::ai,mem⟩):bt P fn R X W n (.aq all (o::aS)::k) ⟨ai,mem⟩:=by
 intro a w hs
 refine wpList_step fun K hK=>?_
 rw [aG (hw.eq hs)]
 refine h.wp hs fun w' lA=>hK _ _ ?_
 rw [hd]
 exact hk _ _ ((hs.world lA).put hdn v)
theorem uj{d:Nat}(hw:dd all ai o false)(hd:o.dst=some d)(hdn:Nat.blt d n=true)
  (hk:bt P fn R X W n (.aq all aS::k) ⟨(d,undef)::ai,mem⟩):bt P fn R X W n (.aq all (o::aS)::k) ⟨ai,mem⟩:=by
 intro a w hs
 refine wpList_step fun K hK=>?_
 rw [aD (by rw [hw.eq hs];simp)]
 rw [hd]
 exact hK _ _ (hk _ _ (hs.put hdn undef))
theorem xa{ι:Type}{φ:ι→Prop}{next:ι→St}(hw:dd all ai o true)(h:H1 P X W n ⟨ai,mem⟩ o φ next)
  (hk:∀i,φ i→bt P fn R X W n (.aq all aS::k) (next i)):bt P fn R X W n (.aq all (o::aS)::k) ⟨ai,mem⟩:=by
 intro a w hs
 refine wpList_step fun K hK=>?_
 rw [aG (hw.eq hs)]
 exact h a w hs K _ fun i a' w' hi cO=>hK _ _ (hk i hi _ _ cO)
theorem H1.dJ{v:Value}{d:Nat}(hd:o.dst=some d)(hdn:Nat.blt d n=true)(h:Q1 P X W n ⟨ai,mem⟩ o v):H1 P X W n ⟨ai,mem⟩ o (fun _:Unit=>True) (fun _=>⟨(d,v)::ai,mem⟩):=by
 intro a w hs k Q hk
 refine h.wp hs fun w' lA=>?_
 rw [hd]
 exact hk () _ _ trivial ((hs.world lA).put hdn v)
end
def bJ(W:World)(X:Nat→Prop)(Φ:Value→List an→Prop):Ending→World→Prop:=
 fun e w'=>∃v m,Φ v m∧e= .returned v∧bb X W w'∧Mem X W m w'
def aN(W:World)(v:Value):Ending→World→Prop:=fun e w'=>e= .returned v∧bb nX W w'
section
variable{P:Program}{fn:Func}{X:Nat→Prop}{W:World}{n:Nat}{S:St}
theorem aN.KL{f:FuncId}{args:Array Value}{v:Value}(h:Calls P f args W (bJ W nX fun u _=>u=v)):Calls P f args W (aN W v):=
 h.mono fun _ _ ⟨_,_,e,he,hk,_⟩=>⟨e▸he,hk⟩
theorem enter{f:FuncId}{args:Array Value}{R:Ending→World→Prop}{c:Code}{S:St}(hf:P.funcs[f]?=some fn)(hn:fn.ntmps=n)(hb:fn.body=some c)
  (hz:Nat.ble args.size n=true)(he:∀k v,dw S.ai k=some v→args[k]?=some v)(hm:Mem X W S.mem W)(h:bt P fn R X W n [.bC c] S):Calls P f args W R:=by
 refine calls_of_wp hf hb (h _ W ?_)
 have mX:args.size≤n:=by simpa using hz
 refine⟨by simp [hn];omega,rfl,fun k v hk=>?_,bb.refl _ _,hm⟩
 have:=he k v hk
 have bW:=(On.1 this).1
 show(args++_)[k]?=_
 rw [Kl bW,this]
theorem aw{Φ:Value→List an→Prop}{t:Tmp}{v:Value}(hr:fn.results= #[.tmp t])(hv:dw S.ai t=some v)(hΦ:Φ v S.mem):bt P fn (bJ W X Φ) X W n [] S:=by
 intro a w hs
 refine⟨hs.defers,v,?_,v,S.mem,hΦ,rfl,hs.dx,hs.mem⟩
 rw [results_tmp hr]
 simp [hs.ai t v hv]
theorem fc{Φ:Value→List an→Prop}{t u:Tmp}{v v':Value}(hr:fn.results= #[.tmp t,.tmp u])(hv:dw S.ai t=some v)(h_:dw S.ai u=some v')(hΦ:Φ (.tuple #[v,v']) S.mem):bt P fn (bJ W X Φ) X W n [] S:=by
 intro a w hs
 refine⟨hs.defers,.tuple #[v,v'],?_,_,S.mem,hΦ,rfl,hs.dx,hs.mem⟩
 rw [results_tmp2 hr]
 simp [hs.ai t v hv,hs.ai u v' h_]
theorem Hg{Φ:Value→List an→Prop}{t u x:Tmp}{v v' KM:Value}(hr:fn.results= #[.tmp t,.tmp u,.tmp x])(hv:dw S.ai t=some v)(h_:dw S.ai u=some v')(afC:dw S.ai x=some KM)
  (hΦ:Φ (.tuple #[v,v',KM]) S.mem):bt P fn (bJ W X Φ) X W n [] S:=by
 intro a w hs
 refine⟨hs.defers,.tuple #[v,v',KM],?_,_,S.mem,hΦ,rfl,hs.dx,hs.mem⟩
 simp [results,hr,hs.ai t v hv,hs.ai u v' h_,hs.ai x KM afC]
theorem dm{Φ:Value→List an→Prop}(hr:fn.results= #[])(hΦ:Φ (.tuple #[]) S.mem):bt P fn (bJ W X Φ) X W n [] S:=by
 intro a w hs
 exact⟨hs.defers,.tuple #[],results_none hr _ _ _,_,S.mem,hΦ,rfl,hs.dx,hs.mem⟩
def eo(ai KN:List (Nat×Value)):Prop:=∀k v,dw KN k=some v→dw ai k=some v
theorem eo.nil{ai:List (Nat×Value)}:eo ai []:=fun k v h=>by simp [dw]at h
theorem eo.refl{ai:List (Nat×Value)}:eo ai ai:=fun _ _ h=>h
theorem eo.cons{ai r:List (Nat×Value)}{s:Nat}{v:Value}(h:dw ai s=some v)(t:eo ai r):eo ai ((s,v)::r):=by
 intro k u hk
 by_cases e:s=k
 ·subst e;rw [G9]at hk;rw [h,hk]
 ·rw [G_ e]at hk;exact t k u hk
theorem eo.aH{ai r:List (Nat×Value)}{s:Nat}{v v':Value}(h:dw ai s=some v)(e:v=v')(t:eo ai r):eo ai ((s,v')::r):=by
 subst e;exact eo.cons h t
inductive ae:List an→an→List an→Prop where
 |ak {r:an} {l:List an}:ae (r::l) r l
 |ah {r s:an} {l l':List an}:ae l r l'→ae (s::l) r (s::l')
theorem ae.aK{l l':List an}{r:an}(h:ae l r l'):l.Perm (r::l'):=by
 induction h with
 |ak=>exact List.Perm.refl _
 |ah _ ih=>exact(ih.cons _).trans (List.Perm.swap _ _ _)
def cS(r r':an):Prop:=(∀b,r'.at b→r.at b)∧∀w,r.holds w→r'.holds w
theorem cS.refl{r:an}:cS r r:=⟨fun _ h=>h,fun _ h=>h⟩
theorem cS.aj{b:Nat}{t:TypeId}{cs yy:List (Nat×Value)}(h:eo cs yy):cS (.aj b t cs) (.aj b t yy):=
 ⟨fun _ h=>h,fun _ ⟨c,h1,h3⟩=>⟨c,h1,fun i v hi=>h3 i v (h i v hi)⟩⟩
theorem cS.ag{t:TypeId}{size:Nat}{A A':Option Addr}{m m' c c':Nat}{xs dr:List (List Value)}(hA:A=A')(hm:m=m')(hc:c=c')(hx:xs=dr):cS (.ag t size A m c xs) (.ag t size A' m' c' dr):=by
 subst hA;subst hm;subst hc;subst hx;exact .refl
def ar(m m':List an):Prop:=∀X W w,Mem X W m w→Mem X W m' w∧∀r'∈m',∀b,r'.at b→∃r∈m,r.at b
theorem ar.nil{m:List an}:ar m []:=fun _ _ _ _=>⟨Mem.nil,by simp⟩
theorem ar.refl{m:List an}:ar m m:=fun _ _ _ h=>⟨h,fun r hr _ hb=>⟨r,hr,hb⟩⟩
theorem ar.aK{m m':List an}(h:m.Perm m'):ar m m':=fun _ _ _ h'=>⟨h'.aK h,fun r hr _ hb=>⟨r,h.mem_iff.2 hr,hb⟩⟩
theorem ar.sub{m m':List an}(h:m'.Sublist m):ar m m':=fun _ _ _ h'=>⟨h'.sub h,fun r hr _ hb=>⟨r,h.subset hr,hb⟩⟩
theorem ar.cons{m l l':List an}{r r':an}(hs:ae m r l)(hr:cS r r')(hl:ar l l'):ar m (r'::l'):=by
 intro X W w h
 obtain⟨h1,h2,h3,h4⟩:=(h.aK hs.aK).head
 obtain⟨g1,g2⟩:=hl X W w h4
 refine⟨g1.cons (hr.2 w h1) (fun b hb=>h2 b (hr.1 b hb)) (fun s cO b hb jm=>?_),fun s cO b hb=>?_⟩
 ·obtain⟨u,hu,vn⟩:=g2 s cO b jm
  exact h3 u hu b (hr.1 b hb) vn
 ·rcases gP.1 cO with rfl|cO
  ·exact⟨r,hs.aK.mem_iff.2 sM,hr.1 b hb⟩
  ·obtain⟨u,hu,vn⟩:=g2 s cO b hb
   exact⟨u,hs.aK.mem_iff.2 (by simp [hu]),vn⟩
theorem ar.trans{a b c:List an}(h:ar a b)(h':ar b c):ar a c:=fun X W w x=>by
 obtain⟨g1,g2⟩:=h X W w x
 obtain⟨k1,k2⟩:=h' X W w g1
 refine⟨k1,fun r hr b hb=>?_⟩
 obtain⟨u,hu,vn⟩:=k2 r hr b hb
 exact g2 u hu b vn
def an.aY(rs:List an):an:=
 .any (fun b=>∃r∈rs,r.at b) (fun w=>(∀r∈rs,r.holds w)∧rs.Pairwise fun(r s:an)=>∀b:Nat,r.at b→¬s.at b)
  (fun w h b hb=>by obtain⟨r,hr,hb⟩:=hb;exact(h.1 r hr).lt b hb)
  (fun w w' h hk=>⟨fun r hr=>(h.1 r hr).o5 fun b hb=>hk b ⟨r,hr,hb⟩,h.2⟩)
theorem ar.sX{rs l:List an}:ar (.aY rs::l) (rs++l):=by
 intro X W w h
 obtain⟨h1,h2,h3,h4⟩:=h.head
 refine⟨⟨fun r hr=>?_,fun r hr b hb=>?_,ua.2 ⟨h1.2,h4.apart,fun r hr s hs b hb jm=>h3 s hs b ⟨r,hr,hb⟩ jm⟩⟩,fun r hr b hb=>?_⟩
 ·rcases ep.1 hr with h|h
  ·exact h1.1 r h
  ·exact h4.holds r h
 ·rcases ep.1 hr with h|h
  ·exact h2 b ⟨r,h,hb⟩
  ·exact h4.ag r h b hb
 ·rcases ep.1 hr with h|h
  ·exact⟨.aY rs,by simp,⟨r,h,hb⟩⟩
  ·exact⟨r,by simp [h],hb⟩
theorem ar.close_{rs l:List an}:ar (rs++l) (.aY rs::l):=by
 intro X W w h
 have Am:=ua.1 h.apart
 refine⟨Mem.cons (r:= .aY rs) ⟨fun r hr=>h.holds r (by simp [hr]),fun r hr=>h.ag r (by simp [hr]),Am.2.1⟩ ⟨fun r hr=>h.holds r (by simp [hr]),Am.1⟩ ?_ ?_,fun r hr b hb=>?_⟩
 ·rintro b ⟨r,hr,hb⟩;exact h.ag r (by simp [hr]) b hb
 ·rintro s hs b ⟨r,hr,hb⟩ jm;exact Am.2.2 r hr s hs b hb jm
 ·rcases gP.1 hr with rfl|h'
  ·obtain⟨u,hu,vn⟩:=hb;exact⟨u,by simp [hu],vn⟩
  ·exact⟨r,by simp [h'],hb⟩
theorem ar.gD{r:an}{rs l:List an}:ar (r:: .aY rs::l) (.aY (r::rs)::l):=
 (ar.cons .ak .refl (ar.sX)).trans (ar.close_ (rs:=r::rs))
theorem az{ai KN:List (Nat×Value)}{mem yz:List an}(he:eo ai KN)(hm:ar mem yz):vm X W n ⟨ai,mem⟩ ⟨KN,yz⟩:=
 fun _ _ h=>⟨h.size,h.defers,fun k v hk=>h.ai k v (he k v hk),h.dx,(hm _ _ _ h.mem).1⟩
end
end Hr
end
namespace Hr
def bB:Nat→List Value→List (Nat×Value)
 |_, []=> []
 |i,v::r=>(i,v)::bB (i+1) r
def dK:Value→List Value
 | .agg c=>c.toList
 | .tuple _=> []
 |v=> [v]
theorem Hi:∀(l:List Value) (i k:Nat) (v:Value),dw (bB i l) k=some v→i≤k∧l[k-i]?=some v
 | [],i,k,v,h=>by simp [bB,dw]at h
 |x::l,i,k,v,h=>by
  by_cases e:i=k
  ·subst e
   simp only [bB]at h
   rw [G9]at h
   simpa using h
  ·simp only [bB]at h
   rw [G_ e]at h
   obtain⟨h1,h2⟩:=Hi l (i+1) k v h
   refine⟨oM,?_⟩
   rw [show k-i=(k-(i+1))+1 from oM,List.getElem?_cons_succ]
   exact h2
theorem afD(l r:List (Nat×Value))(k:Nat):dw (l++r) k=(dw l k).or (dw r k):=by
 induction l with
 |nil=>simp [dw]
 |cons p l ih=>
  simp only [BX,dw]
  split
  ·rfl
  ·exact ih
inductive my(cs:List (Nat×Value)):Nat→List Value→Prop where
 |nil {i:Nat}:my cs i []
 |cons {i:Nat} {v:Value} {vs:List Value} (h:dw cs i=some v) (t:my cs (i+1) vs):my cs i (v::vs)
theorem my.get{cs:List (Nat×Value)}{i:Nat}{vs:List Value}(h:my cs i vs):∀j v,vs[j]?=some v→dw cs (i+j)=some v:=by
 induction h with
 |nil=>intro j v hj;simp at hj
 | @cons i v vs h t ih=>
  intro j u hj
  cases j with
  |zero=>simp at hj;subst hj;simpa using h
  |succ j=>
   have:=ih j u (by simpa using hj)
   rwa [show i+(j+1)=i+1+j from oM]
def Sz(P:Program)(e:TypeId)(s:Nat):Prop:=∃i,P.info? e=some i∧i.size=s
theorem Sz.of{P:Program}{e:TypeId}{s:Nat}(h:(P.info? e).map (·.size)=some s):Sz P e s:=by
 cases hi:P.info? e with
 |none=>rw [hi]at h;cases h
 |some i=>rw [hi]at h;exact⟨i,hi,by simpa using h⟩
theorem Sz.run{P:Program}{e:TypeId}{s:Nat}(h:Sz P e s)(w:World):(sizeOf e).run P w= .ok s w:=by
 obtain⟨i,hi,rfl⟩:=h
 simp [sizeOf,typeInfo,hi]
def vp(P:Program)(e:TypeId)(zs:List Value)(s b:Nat):Prop:=∃i z,P.info? e=some i∧i.zero=some z∧z.cells.toList=zs∧i.size=s∧i.bytes=b
theorem vp.of{P:Program}{e:TypeId}{zs:List Value}{s b:Nat}(h:(P.info? e).map (fun i=>(i.zero.map (·.cells.toList),i.size,i.bytes))=some (some zs,s,b)):vp P e zs s b:=by
 cases hi:P.info? e with
 |none=>rw [hi]at h;cases h
 |some i=>
  rw [hi]at h
  simp only [rW,Option.some.injEq,Prod.mk.injEq,Option.map_eq_some_iff]at h
  obtain⟨⟨z,hz,rZ⟩,h2,h3⟩:=h
  exact⟨i,z,hi,hz,rZ,h2,h3⟩
def i_(P:Program)(t:TypeId)(s:Nat):Prop:=(∀w,(isAgg t).run P w= .ok true w)∧Sz P t s
def mz(P:Program)(t:TypeId):Prop:=(∀w,(isAgg t).run P w= .ok false w)∧Sz P t 1
def Rd(w:World)(A:Option Addr)(size:Nat)(ls:List (List Value)):Prop:=
 ls= []∨∃ad,A=some ad∧∀i c,ls[i]?=some c→∀j v,c[j]?=some v→w.cell? (ad.add (i*size+j))=some v
def sY(X:Nat→Prop)(A:Option Addr):Prop:=∀ad,A=some ad→¬X ad.block
theorem sY.no{A:Option Addr}:sY nX A:=fun _ _ h=>h
theorem OF{w:World}{a:Addr}{v:Value}(h:w.cell? a=some v):a.block<w.heap.size:=by
 unfold World.cell? at h
 split at h
 ·rename_i hh;exact uh hh
 ·cases h
theorem ED(a:Addr)(n:Nat):(a.add n).block=a.block:=by unfold Addr.add;split<;>rfl
theorem An(a:Addr)(i j:Nat):(a.add i).add j=a.add (i+j):=by
 unfold Addr.add
 by_cases hi:i=0<;>by_cases hj:j=0<;>simp [hi,hj,BY]
theorem Rd.dx{X:Nat→Prop}{w w':World}{A:Option Addr}{size:Nat}{ls:List (List Value)}(h:Rd w A size ls)(hk:bb X w w')(hX:sY X A):Rd w' A size ls:=by
 rcases h with h|⟨ad,rfl,h⟩
 ·exact .inl h
 ·refine .inr ⟨ad,rfl,fun i c hi j v hj=>?_⟩
  have h1:=h i c hi j v hj
  have h2:=OF h1
  rw [ED]at h2
  rw [←h1]
  exact World.cell?_of_block (by rw [ED];exact hk.block _ h2 (hX ad rfl))
theorem Rd.aC{w w':World}{A:Option Addr}{size:Nat}{ls:List (List Value)}(h:Rd w A size ls)(hk:bb nX w w'):Rd w' A size ls:=h.dx hk sY.no
theorem EE:∀(ls:List (List Value)) (size:Nat),(∀x∈ls,x.length=size)→∀i c,ls[i]?=some c→∀j v,c[j]?=some v→ls.flatten[i*size+j]?=some v
 | [],_,_,i,c,hi,_,_,_=>by simp at hi
 |x::ls,size,hl,i,c,hi,j,v,hj=>by
  have hx:=hl x sM
  cases i with
  |zero=>
   simp at hi;subst hi
   have um:j<x.length:=(wN.1 hj).1
   rw [Nat.zero_mul,ub,uc,El um,hj]
  |succ i=>
   have:=EE ls size (fun y hy=>hl y (by simp [hy])) i c (by simpa using hi) j v hj
   rw [uc,yj (by rw [hx,ud];omega)]
   rw [show(i+1)*size+j-x.length=i*size+j from by rw [hx,ud];omega]
   exact this
theorem bQ{w:World}{t:TypeId}{size:Nat}{A:Option Addr}{n c:Nat}{ls:List (List Value)}(h:(an.ag t size A n c ls).holds w):Rd w A size ls:=by
 obtain⟨h1,h2,h3⟩:=h
 rcases h1.2 with⟨hv,hn⟩|⟨g,cap,eO,hv,_⟩
 ·subst hn;exact .inl (List.eq_nil_of_length_eq_zero h2)
 ·simp only [Value.slice.injEq]at hv
  refine .inr ⟨⟨g,0,none⟩,hv.1,fun i c hi j v hj=>?_⟩
  exact World.ownsRow.cells h1 (by rw [KJ,hv.1];rfl) _ _ (EE ls size h3 i c hi j v hj)
theorem ae.holds{X:Nat→Prop}{W w:World}{rs l:List an}{r:an}(h:ae rs r l)(hm:Mem X W rs w):r.holds w:=hm.holds _ (h.aK.mem_iff.2 sM)
def iH(X:Nat→Prop)(W:World)(S:St)(A:Option Addr)(size:Nat)(ls:List (List Value)):Prop:=∀w,bb X W w→Mem X W S.mem w→Rd w A size ls
def bN(A:Option Addr):Addr:=A.getD ⟨0,0,none⟩
section
variable{P:Program}{X:Nat→Prop}{W:World}{n:Nat}{S:St}{o:Oper}
theorem iH.au{A:Option Addr}{size:Nat}{ls:List (List Value)}(h:Rd W A size ls)(hX:sY X A):iH X W S A size ls:=fun _ hk _=>h.dx hk hX
theorem iH.ag{A:Option Addr}{size:Nat}{ls:List (List Value)}{t:TypeId}{m c:Nat}{l:List an}(h:ae S.mem (.ag t size A m c ls) l):iH X W S A size ls:=
 fun _ _ hm=>bQ (h.holds hm)
theorem aP{k:IntKind}{a b:Int}(h:a=b):Value.int k a= .int k b:=by rw [h]
theorem r5{x:Operand}{v:Value}(ho:o.op= .move x)(hx:ev S.ai x=some v):Q1 P X W n S o v:=fun a w hs=> .inl (by simp [execOp,ho,hs.eval hx])
theorem lV{x:Operand}{v:Value}(ho:o.op= .assign x)(hx:ev S.ai x=some v):Q1 P X W n S o v:=fun a w hs=> .inl (by simp [execOp,ho,hs.eval hx])
theorem nJ{c x y:Operand}{v:Value}{b:Bool}(ho:o.op= .pick c x y)(hc:ev S.ai c=some (.bool b))(hb:b=true)(hx:ev S.ai x=some v):Q1 P X W n S o v:=
 fun a w hs=> .inl (by subst hb;simp [execOp,ho,hs.eval hx,hs.eval hc,asBool])
theorem dD{c x y:Operand}{v:Value}{b:Bool}(ho:o.op= .pick c x y)(hc:ev S.ai c=some (.bool b))(hb:b=false)(hy:ev S.ai y=some v):Q1 P X W n S o v:=
 fun a w hs=> .inl (by subst hb;simp [execOp,ho,hs.eval hy,hs.eval hc,asBool])
theorem Ao{x:Operand}{i:Nat}{vs:Array Value}{v:Value}(ho:o.op= .extract x i)(hx:ev S.ai x=some (.tuple vs))(hv:vs[i]?=some v):Q1 P X W n S o v:=
 fun a w hs=> .inl (by simp [execOp,ho,hs.eval hx,Instr.extract,hv])
theorem U8{x:Operand}{b:Bool}{t:TypeId}(ho:o.op= .unOp .not t x)(hx:ev S.ai x=some (.bool b)):Q1 P X W n S o (.bool !b):=
 fun a w hs=> .inl (by simp [execOp,ho,hs.eval hx,Op.unary])
theorem afE{x:Operand}{i:Int}{t:TypeId}(ho:o.op= .unOp .neg t x)(hx:ev S.ai x=some (.int .i64 i))(h: -9223372036854775807≤i∧i≤9223372036854775807):Q1 P X W n S o (.int .i64 (-i)):=
 fun a w hs=> .inl (by
  have e:IntKind.i64.wrap (-i)= -i:=by rw [gQ];omega
  simp [execOp,ho,hs.eval hx,Op.unary,Op.intArith,e])
section
variable{x y:Operand}{t t':TypeId}{k:IntKind}{i j:Int}
theorem EF(ho:o.op= .binOp .add t x y t')(hx:ev S.ai x=some (.int .i64 i))(hy:ev S.ai y=some (.int .i64 j))(h: -9223372036854775808≤i+j∧i+j≤9223372036854775807):Q1 P X W n S o (.int .i64 (i+j)):=
 fun a w hs=> .inl (by
  have e:IntKind.i64.wrap (i+j)=i+j:=by rw [gQ];omega
  simp [execOp,ho,hs.eval hx,hs.eval hy,binOp,Op.intArith,e,eqGuard])
theorem KO(ho:o.op= .binOp .sub t x y t')(hx:ev S.ai x=some (.int .i64 i))(hy:ev S.ai y=some (.int .i64 j))(h: -9223372036854775808≤i-j∧i-j≤9223372036854775807):Q1 P X W n S o (.int .i64 (i-j)):=
 fun a w hs=> .inl (by
  have e:IntKind.i64.wrap (i-j)=i-j:=by rw [gQ];omega
  simp [execOp,ho,hs.eval hx,hs.eval hy,binOp,Op.intArith,e,eqGuard])
theorem KP(ho:o.op= .binOp .mul t x y t')(hx:ev S.ai x=some (.int .i64 i))(hy:ev S.ai y=some (.int .i64 j))(h: -9223372036854775808≤i*j∧i*j≤9223372036854775807):Q1 P X W n S o (.int .i64 (i*j)):=
 fun a w hs=> .inl (by
  have e:IntKind.i64.wrap (i*j)=i*j:=by rw [gQ];omega
  simp [execOp,ho,hs.eval hx,hs.eval hy,binOp,Op.intArith,e,eqGuard])
theorem afF(ho:o.op= .binOp .add t x y t')(hx:ev S.ai x=some (.int k i))(hy:ev S.ai y=some (.int k j)):Q1 P X W n S o (.int k (k.wrap (i+j))):=
 fun a w hs=> .inl (by simp [execOp,ho,hs.eval hx,hs.eval hy,binOp,Op.intArith,eqGuard])
theorem Aq(ho:o.op= .binOp .quo t x y t')(hx:ev S.ai x=some (.int .i64 i))(hy:ev S.ai y=some (.int .i64 j))(h:0≤i∧1≤j∧i≤9223372036854775807):Q1 P X W n S o (.int .i64 (i/j)):=
 fun a w hs=> .inl (by
  have h1:0≤i/j:=Kn h.1  oM
  have h2:i/j≤i:=Ko _ h.1
  have e:IntKind.i64.wrap (i/j)=i/j:=by rw [gQ];omega
  have h0:j≠0:=oM
  simp [execOp,ho,hs.eval hx,hs.eval hy,binOp,Op.intDiv,eqGuard,h0,Int.tdiv_eq_ediv_of_nonneg h.1,e])
theorem dL(ho:o.op= .binOp .rem t x y t')(hx:ev S.ai x=some (.int k i))(hy:ev S.ai y=some (.int k j))(h:0≤i∧1≤j):Q1 P X W n S o (.int k (i%j)):=
 fun a w hs=> .inl (by
  have h0:j≠0:=oM
  simp [execOp,ho,hs.eval hx,hs.eval hy,binOp,Op.intDiv,eqGuard,h0,Int.tmod_eq_emod_of_nonneg h.1])
theorem afG(ho:o.op= .binOp .quo t x y t')(hx:ev S.ai x=some (.int k i))(hy:ev S.ai y=some (.int k j))(h0:j≠0):Q1 P X W n S o (.int k (k.wrap (i.tdiv j))):=
 fun a w hs=> .inl (by simp [execOp,ho,hs.eval hx,hs.eval hy,binOp,Op.intDiv,eqGuard,h0])
theorem U9(ho:o.op= .binOp .eql t x y t')(hx:ev S.ai x=some (.int k i))(hy:ev S.ai y=some (.int k j)):Q1 P X W n S o (.bool (i==j)):=
 fun a w hs=> .inl (by simp [execOp,ho,hs.eval hx,hs.eval hy,binOp,Op.intCmp,eqGuard])
theorem OG(ho:o.op= .binOp .neq t x y t')(hx:ev S.ai x=some (.int k i))(hy:ev S.ai y=some (.int k j)):Q1 P X W n S o (.bool (i !=j)):=
 fun a w hs=> .inl (by simp [execOp,ho,hs.eval hx,hs.eval hy,binOp,Op.intCmp,eqGuard])
theorem afH(ho:o.op= .binOp .lss t x y t')(hx:ev S.ai x=some (.int k i))(hy:ev S.ai y=some (.int k j)):Q1 P X W n S o (.bool (decide (i<j))):=
 fun a w hs=> .inl (by simp [execOp,ho,hs.eval hx,hs.eval hy,binOp,Op.intCmp,eqGuard])
theorem afI(ho:o.op= .binOp .leq t x y t')(hx:ev S.ai x=some (.int k i))(hy:ev S.ai y=some (.int k j)):Q1 P X W n S o (.bool (decide (i≤j))):=
 fun a w hs=> .inl (by simp [execOp,ho,hs.eval hx,hs.eval hy,binOp,Op.intCmp,eqGuard])
theorem afJ(ho:o.op= .binOp .gtr t x y t')(hx:ev S.ai x=some (.int k i))(hy:ev S.ai y=some (.int k j)):Q1 P X W n S o (.bool (decide (j<i))):=
 fun a w hs=> .inl (by simp [execOp,ho,hs.eval hx,hs.eval hy,binOp,Op.intCmp,eqGuard])
theorem afK(ho:o.op= .binOp .geq t x y t')(hx:ev S.ai x=some (.int k i))(hy:ev S.ai y=some (.int k j)):Q1 P X W n S o (.bool (decide (j≤i))):=
 fun a w hs=> .inl (by simp [execOp,ho,hs.eval hx,hs.eval hy,binOp,Op.intCmp,eqGuard])
theorem gv(ho:o.op= .convert t t' x)(hx:ev S.ai x=some (.int k i)){d:TypeDesc}{k':IntKind}(ht:P.underlying t=some d)(mY:P.underlying t'=some (.int k'))(h:k'.wrap i=i):Q1 P X W n S o (.int k' i):=
 fun a w hs=> .inl (by simp [execOp,ho,hs.eval hx,convert,dM ht,dM mY,Conv.intToInt,h])
theorem KQ{ts:Array TypeId}(ho:o.op= .call {callee:= .builtin .min,args:= #[x,y],argTypes:=ts})(hx:ev S.ai x=some (.int k i))(hy:ev S.ai y=some (.int k j)):Q1 P X W n S o (.int k (min i j)):=
 fun a w hs=> .inl (by
  have e:(if j<i then j else i)=min i j:=oM
  simp [execOp,ho,resolve,invoke,builtin,hs.eval hx,hs.eval hy,Builtin.min_,Builtin.min2,e])
theorem OH{ts:Array TypeId}(ho:o.op= .call {callee:= .builtin .max,args:= #[x,y],argTypes:=ts})(hx:ev S.ai x=some (.int k i))(hy:ev S.ai y=some (.int k j)):Q1 P X W n S o (.int k (max i j)):=
 fun a w hs=> .inl (by
  have e:(if i<j then j else i)=max i j:=oM
  simp [execOp,ho,resolve,invoke,builtin,hs.eval hx,hs.eval hy,Builtin.max_,Builtin.max2,e])
end
section
variable{x y:Operand}{t t' e:TypeId}{k:IntKind}{i j:Int}{A:Option Addr}{m c size:Nat}
theorem U_(ho:o.op= .call {callee:= .builtin .len,args:= #[x],argTypes:= #[t]})(ht:P.underlying t=some (.slice e))(hx:ev S.ai x=some (.slice A m c)):Q1 P X W n S o (.int .i64 (m:Int)):=
 fun a w hs=> .inl (by simp [execOp,ho,resolve,invoke,builtin,hs.eval hx,Builtin.len_,dM ht,goInt])
theorem OI{s:ByteArray}(ho:o.op= .call {callee:= .builtin .len,args:= #[x],argTypes:= #[t]})(ht:P.underlying t=some .string)(hx:ev S.ai x=some (.string s)):Q1 P X W n S o (.int .i64 (s.size:Int)):=
 fun a w hs=> .inl (by simp [execOp,ho,resolve,invoke,builtin,hs.eval hx,Builtin.len_,dM ht,goInt])
theorem Va{a:Addr}(ho:o.op= .nilCheck x)(hx:ev S.ai x=some (.pointer (some a))):Q1 P X W n S o (.pointer (some a)):=
 fun _ w hs=> .inl (by simp [execOp,ho,hs.eval hx])
theorem afL{a:Addr}{f:Nat}{fs:Array Field}{fd:Field}{s:Nat}(ho:o.op= .fieldAddr t x f)(ht:P.underlying t=some (.struct fs))(hx:ev S.ai x=some (.pointer (some a)))(hf:fs[f]?=some fd)(fF:Sz P fd.type (s+1)){d:Nat}(hd:fd.offset=d):
  Q1 P X W n S o (.pointer (some (a.add d))):=
 fun _ w hs=> .inl (by simp [execOp,ho,hs.eval hx,Instr.fieldAt,dM ht,hf,Instr.sureAddr,fieldPlace,fF.run,hd])
theorem r6{b i:Nat}{f:Nat}{fs:Array Field}{fd:Field}{s:Nat}(ho:o.op= .fieldAddr t x f)(ht:P.underlying t=some (.struct fs))(hx:ev S.ai x=some (.pointer (some ⟨b,i,none⟩)))(hf:fs[f]?=some fd)(fF:Sz P fd.type (s+1)){d:Nat}(hd:i+fd.offset=d):
  Q1 P X W n S o (.pointer (some ⟨b,d,none⟩)):=
 fun _ w hs=> .inl (by simp [execOp,ho,hs.eval hx,Instr.fieldAt,dM ht,hf,Instr.sureAddr,fieldPlace,fF.run,vf,hd])
theorem afM(ho:o.op= .indexAddr t x y)(ht:P.underlying t=some (.slice e))(fF:Sz P e size)(hx:ev S.ai x=some (.slice A m c))(hy:ev S.ai y=some (.int k i))
  (hA:A.isSome=true)(hi:0≤i∧i<m):Q1 P X W n S o (.pointer (some ((bN A).add (i.toNat*size)))):=
 fun _ w hs=> .inl (by
  obtain⟨ad,rfl⟩:=Em.1 hA
  simp [execOp,ho,hs.eval hx,hs.eval hy,Instr.indexAt,dM ht,asIntOf,fF.run,hi.1,hi.2,bN])
theorem iH.some{ls:List (List Value)}(h:iH X W S A size ls)(hl:i.toNat<ls.length){a:Act}{w:World}(hs:cB X W n S a w):A.isSome=true:=by
 rcases h w hs.dx hs.mem with h|⟨ad,rfl,_⟩
 ·subst h;simp at hl
 ·rfl
theorem m_{ls:List (List Value)}{q:Nat}(ho:o.op= .indexAddr t x y)(ht:P.underlying t= .some (.slice e))(fF:Sz P e size)(hx:ev S.ai x= .some (.slice A m c))(hy:ev S.ai y= .some (.int k i))
  (hr:iH X W S A size ls)(hl:ls.length=m)(hi:i=(q:Int))(hq:q<m):Q1 P X W n S o (.pointer (.some ((bN A).add (q*size)))):=
 fun a w hs=>by
  subst hi
  exact afM (i:=(q:Int)) ho ht fF hx hy (hr.some (i:=(q:Int)) (by simp;omega) hs)  oM a w hs
theorem OJ{a:Addr}{v:Value}(ho:o.op= .load t x)(ht:mz P t)(hx:ev S.ai x=some (.pointer (some a)))(hc:∀w,bb X W w→Mem X W S.mem w→w.cell? a=some v):Q1 P X W n S o v:=
 fun _ w hs=> .inl (by simp [execOp,ho,hs.eval hx,Instr.loadAt,Instr.sureAddr,loadVar,ht.1,hc w hs.dx hs.mem])
theorem OK{a:Addr}{vs:List Value}(ho:o.op= .load t x)(ht:i_ P t vs.length)(hx:ev S.ai x=some (.pointer (some a)))(hc:∀w,bb X W w→Mem X W S.mem w→∀j v,vs[j]?=some v→w.cell? (a.add j)=some v):Q1 P X W n S o (.agg vs.toArray):=
 fun _ w hs=> .inl (by simp [execOp,ho,hs.eval hx,Instr.loadAt,Instr.sureAddr,loadVar,ht.1,ht.2.run,run_loadCells_list w a vs (hc w hs.dx hs.mem)])
theorem EG{w:World}{b:Nat}{tb:TypeId}{cs:List (Nat×Value)}(h:(an.aj b tb cs).holds w){i:Nat}{v:Value}(hv:dw cs i=some v):w.cell? ⟨b,i,none⟩=some v:=by
 obtain⟨c,hc,h2⟩:=h
 rw [cell_of_row w b i c tb (0,0) hc]
 exact h2 i v hv
theorem pD{b i:Nat}{tb:TypeId}{cs:List (Nat×Value)}{l:List an}{v:Value}(ho:o.op= .load t x)(ht:mz P t)(hx:ev S.ai x=some (.pointer (some ⟨b,i,none⟩)))(hs:ae S.mem (.aj b tb cs) l)(hv:dw cs i=some v):Q1 P X W n S o v:=
 OJ ho ht hx fun _ _ hm=>EG (hs.holds hm) hv
theorem OL{b i s:Nat}{tb:TypeId}{cs:List (Nat×Value)}{l:List an}{vs:List Value}(ho:o.op= .load t x)(ht:i_ P t s)(hx:ev S.ai x=some (.pointer (some ⟨b,i,none⟩)))(hs:ae S.mem (.aj b tb cs) l)(hv:my cs i vs)(hl:vs.length=s):Q1 P X W n S o (.agg vs.toArray):=
 OK ho (by rw [hl];exact ht) hx fun _ _ hm j v hj=>by rw [vf];exact EG (hs.holds hm) (hv.get j v hj)
theorem Hj{ls:List (List Value)}{q s:Nat}{vs:List Value}(ho:o.op= .load t x)(ht:i_ P t s)(hx:ev S.ai x=some (.pointer (some ((bN A).add (q*size)))))(hr:iH X W S A size ls)(hq:ls[q]?=some vs)(hl:vs.length=s):Q1 P X W n S o (.agg vs.toArray):=
 OK ho (by rw [hl];exact ht) hx fun w hk hm j v hj=>by
  rcases hr w hk hm with h|⟨ad,rfl,h⟩
  ·subst h;simp at hq
  ·rw [An];exact h q vs hq j v hj
theorem j9{ls:List (List Value)}{q d:Nat}{vs:List Value}{v:Value}(ho:o.op= .load t x)(ht:mz P t)(hx:ev S.ai x=some (.pointer (some (((bN A).add (q*size)).add d))))(hr:iH X W S A size ls)(hq:ls[q]?=some vs)(hd:vs[d]?=some v):Q1 P X W n S o v:=
 OJ ho ht hx fun w hk hm=>by
  rcases hr w hk hm with h|⟨ad,rfl,h⟩
  ·subst h;simp at hq
  ·rw [An];exact h q vs hq d v hd
theorem iw{ls:List (List Value)}{q:Nat}{v:Value}(ho:o.op= .load t x)(ht:mz P t)(hx:ev S.ai x=some (.pointer (some ((bN A).add (q*size)))))(hr:iH X W S A size ls)(hq:ls[q]?=some [v]):Q1 P X W n S o v:=
 OJ ho ht hx fun w hk hm=>by
  rcases hr w hk hm with h|⟨ad,rfl,h⟩
  ·subst h;simp at hq
  ·have:=h q [v] hq 0 v rfl
   simpa [bN]using this
def o6(A:Option Addr)(l cap size:Nat):Option Addr:=if cap=l then A else A.map (·.add (l*size))
theorem yA{y:Operand}{h:Int}(ho:o.op= .slice t x none (some y) none)(ht:P.underlying t=some (.slice e))(fF:Sz P e size)(hx:ev S.ai x=some (.slice A m c))(hy:ev S.ai y=some (.int k h))(hh:0≤h∧h≤c):
  Q1 P X W n S o (.slice A h.toNat c):=fun _ w hs=> .inl (by
 have he:P.elem t=e:=by simp [Program.elem,ht]
 have mY:P.underlying t=some (.slice (P.elem t)):=by rw [he];exact ht
 have e1:(fun a:Addr=>a.add 0)=id:=by funext a;exact Addr.add_zero' a
 simp [execOp,ho,hs.eval hx,hs.eval hy,run_sliceAt_slice w t _ _ _ _ mY,run_slice_h w t A m c mY k h hh.1 hh.2,he,fF.run,sliced,e1])
theorem Ce{y:Operand}{l:Int}(ho:o.op= .slice t x (some y) none none)(ht:P.underlying t=some (.slice e))(fF:Sz P e size)(hx:ev S.ai x=some (.slice A m c))(hy:ev S.ai y=some (.int k l))(hh:0≤l∧l≤m):
  Q1 P X W n S o (.slice (o6 A l.toNat c size) (m-l.toNat) (c-l.toNat)):=fun _ w hs=> .inl (by
 have he:P.elem t=e:=by simp [Program.elem,ht]
 have mY:P.underlying t=some (.slice (P.elem t)):=by rw [he];exact ht
 simp [execOp,ho,hs.eval hx,hs.eval hy,run_sliceAt_slice w t _ _ _ _ mY,run_slice_l w t A m c mY k l hh.1 hh.2,he,fF.run,sliced,o6])
theorem afN{y z:Operand}{l h:Int}{k':IntKind}(ho:o.op= .slice t x (some y) (some z) none)(ht:P.underlying t=some (.slice e))(fF:Sz P e size)(hx:ev S.ai x=some (.slice A m c))(hy:ev S.ai y=some (.int k l))(hz:ev S.ai z=some (.int k' h))(hh:0≤l∧l≤h∧h≤c):
  Q1 P X W n S o (.slice (o6 A l.toNat c size) (h.toNat-l.toNat) (c-l.toNat)):=fun _ w hs=> .inl (by
 have he:P.elem t=e:=by simp [Program.elem,ht]
 have mY:P.underlying t=some (.slice (P.elem t)):=by rw [he];exact ht
 simp [execOp,ho,hs.eval hx,hs.eval hy,hs.eval hz,run_sliceAt_slice w t _ _ _ _ mY,run_slice_lh w t A m c mY k k' l h hh.1 hh.2.1 hh.2.2,he,fF.run,sliced,o6])
theorem Rd.cut{w:World}{ls:List (List Value)}(h:Rd w A size ls){l c:Nat}(hl:ls.length≤c):Rd w (o6 A l c size) size (ls.drop l):=by
 rcases h with h|⟨ad,rfl,h⟩
 ·subst h;exact .inl sM
 ·by_cases hc:c=l
  ·exact .inl (vg  oM)
  ·refine .inr ⟨ad.add (l*size),by simp [o6,hc],fun i c hi j v hj=>?_⟩
   rw [GO]at hi
   rw [An,←BY,←ud]
   exact h _ c hi j v hj
theorem Rd.take{w:World}{ls:List (List Value)}(h:Rd w A size ls)(m:Nat):Rd w A size (ls.take m):=by
 rcases h with h|⟨ad,rfl,h⟩
 ·subst h;exact .inl sM
 ·refine .inr ⟨ad,rfl,fun i c hi j v hj=>?_⟩
  rw [Eo]at hi
  split at hi
  ·exact h i c hi j v hj
  ·cases hi
theorem iH.cut{ls:List (List Value)}(h:iH X W S A size ls){l c:Nat}(hl:ls.length≤c):iH X W S (o6 A l c size) size (ls.drop l):=fun w hk hm=>(h w hk hm).cut hl
end
def fw(P:Program)(f:FuncId):Prop:=∀args w,(callFunc f args).run P w= .ok (.enter f args) w
inductive lB(ai:List (Nat×Value)):List Operand→List Value→Prop where
 |nil:lB ai [] []
 |cons {x:Operand} {v:Value} {xs:List Operand} {vs:List Value} (h:ev ai x=some v) (t:lB ai xs vs):lB ai (x::xs) (v::vs)
theorem lB.map{a:Act}{w:World}{xs:List Operand}{vs:List Value}(h:lB S.ai xs vs)(hs:cB X W n S a w):xs.map a.eval=vs:=by
 induction h with
 |nil=>rfl
 |cons h _ ih=>simp [hs.eval h,ih]
theorem Vb{f:FuncId}{xs:List Operand}{ts:Array TypeId}{vs:List Value}(ho:o.op= .call {callee:= .value (.func f),args:=xs.toArray,argTypes:=ts})(hf:fw P f)(hx:lB S.ai xs vs){a:Act}{w:World}(hs:cB X W n S a w):
  (execOp a.eval o).run P w= .ok (.enter f vs.toArray) w:=by
 have hm:(xs.toArray).map a.eval=vs.toArray:=by simp [hx.map hs]
 have he:a.eval (.func f)= .func (.func f) #[] #[]:=rfl
 simp [execOp,ho,resolve,he,Deferred.ofValue,invoke,hx.map hs]
 exact hf _ _
theorem KR{f:FuncId}{xs:List Operand}{ts:Array TypeId}{vs:List Value}{v:Value}(ho:o.op= .call {callee:= .value (.func f),args:=xs.toArray,argTypes:=ts})(hf:fw P f)(hx:lB S.ai xs vs)
  (hc:∀w,bb X W w→Mem X W S.mem w→Calls P f vs.toArray w (aN w v)):Q1 P X W n S o v:=
 fun _ w hs=> .inr (.inr ⟨f,_,Vb ho hf hx hs,hc w hs.dx hs.mem⟩)
inductive PV(ai:List (Nat×Value)):List (Nat×Operand)→List (Nat×Value)→Prop where
 |nil:PV ai [] []
 |cons {i:Nat} {x:Operand} {v:Value} {xs:List (Nat×Operand)} {vs:List (Nat×Value)} (h:ev ai x=some v) (t:PV ai xs vs):PV ai ((i,x)::xs) ((i,v)::vs)
theorem PV.map{xs:List (Nat×Operand)}{vs:List (Nat×Value)}(h:PV S.ai xs vs){a:Act}{w:World}(hs:cB X W n S a w):xs.map (fun p=>(p.1,a.eval p.2))=vs:=by
 induction h with
 |nil=>rfl
 |cons h _ ih=>simp [hs.eval h,ih]
theorem bO{t:TypeId}{xs:List (Nat×Operand)}{vs:List (Nat×Value)}{cells:Array Value}(ho:o.op= .build t xs.toArray)(hp:PV S.ai xs vs)(hb:P.built t vs=some cells):Q1 P X W n S o (.agg cells):=
 fun a w hs=> .inl (by
  have hm:(xs.toArray.map fun x=>(x.1,a.eval x.2)).toList=vs:=by simpa using hp.map hs
  have hr:=run_build (P:=P) w t (xs.toArray.map fun x=>(x.1,a.eval x.2)) cells (by rw [hm];exact hb)
  simp only [execOp,ho,wO,hr,yk,BZ])
theorem Vc{f:FuncId}{y:Operand}{xs:List Operand}{ts:Array TypeId}{vs:List Value}{cap:List Value}(ho:o.op= .call {callee:= .value y,args:=xs.toArray,argTypes:=ts})(hy:ev S.ai y=some (.func (.func f) #[] cap.toArray))(hf:fw P f)(hx:lB S.ai xs vs){a:Act}{w:World}(hs:cB X W n S a w):
  (execOp a.eval o).run P w= .ok (.enter f (vs++cap).toArray) w:=by
 simp [execOp,ho,resolve,hs.eval hy,Deferred.ofValue,invoke,hx.map hs]
 exact hf _ _
theorem dV{f:FuncId}{y:Operand}{xs:List Operand}{ts:Array TypeId}{vs cap:List Value}{v:Value}(ho:o.op= .call {callee:= .value y,args:=xs.toArray,argTypes:=ts})(hy:ev S.ai y=some (.func (.func f) #[] cap.toArray))(hf:fw P f)(hx:lB S.ai xs vs)
  (hc:∀w,bb X W w→Mem X W S.mem w→Calls P f (vs++cap).toArray w (aN w v)):Q1 P X W n S o v:=
 fun _ w hs=> .inr (.inr ⟨f,_,Vc ho hy hf hx hs,hc w hs.dx hs.mem⟩)
theorem KS{x y:Operand}{t e:TypeId}{k:IntKind}{i:Int}{len q:Nat}{cs:Array Value}{v:Value}(ho:o.op= .index t x y)(ht:P.underlying t=some (.array len e))(he:mz P e)(hx:ev S.ai x=some (.agg cs))(hy:ev S.ai y=some (.int k i))
  (hi:i=(q:Int))(hq:q<len)(hv:cs[q]?=some v):Q1 P X W n S o v:=
 fun a w hs=> .inl (by
  subst hi
  have h1:(0:Int)≤(q:Int)∧(q:Int)<(len:Int):=oM
  simp [execOp,ho,hs.eval hx,hs.eval hy,Instr.index,asIntOf,dM ht,h1.2,he.2.run,part,he.1,hv,Nat.not_le.2 hq])
section
variable{x y:Operand}{t t':TypeId}{a b:Bool}
theorem afO(ho:o.op= .binOp .eql t x y t')(hx:ev S.ai x=some (.bool a))(hy:ev S.ai y=some (.bool b))(ht:P.underlying t=some .bool):Q1 P X W n S o (.bool (a==b)):=
 fun _ w hs=> .inl (by
  have h1:(binOp .eql t (.bool a) (.bool b)).run P w= .ok (.bool (a==b)) w:=by
   simp only [binOp]
   simp [Op.equal,Op.maxDepth,run_equalIn_bool' w _ t a b ht]
  simp only [execOp,ho,hs.eval hx,hs.eval hy,eqGuard_at_bool,wO,BZ,yk,h1])
theorem xb{xs ys:Array Value}{r:Bool}(ho:o.op= .binOp .eql t x y t')(hx:ev S.ai x=some (.agg xs))(hy:ev S.ai y=some (.agg ys))(hm:P.eqGuardType P.depth t=false)(he:∀w,(Op.equalIn 10000 t (.agg xs) (.agg ys)).run P w= .ok r w):Q1 P X W n S o (.bool r):=
 fun _ w hs=> .inl (by
  have h2:=run_eqGuard_agg (P:=P) w .eql t x y xs ys hm
  simp only [execOp,ho,hs.eval hx,hs.eval hy,wO,h2,BZ,yk,run_eql_struct,he])
theorem KT{xs ys:Array Value}{r:Bool}(ho:o.op= .binOp .neq t x y t')(hx:ev S.ai x=some (.agg xs))(hy:ev S.ai y=some (.agg ys))(hm:P.eqGuardType P.depth t=false)(he:∀w,(Op.equalIn 10000 t (.agg xs) (.agg ys)).run P w= .ok r w):Q1 P X W n S o (.bool (!r)):=
 fun _ w hs=> .inl (by
  have h2:=run_eqGuard_agg (P:=P) w .neq t x y xs ys hm
  simp only [execOp,ho,hs.eval hx,hs.eval hy,wO,h2,BZ,yk,run_neq_struct,he])
end
end
end Hr
end Go.Proofs.YtjpbickffffgkaaGreat
