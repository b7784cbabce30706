/- A slice's elements one after another, and what collects them. -/
import Derived.Test.YtgphmbipakdggaaRProg
import Derived.Test.YtgphmbipakdggaaRPlain
import Derived.Test.YtgphmbipakdggaaRRng
set_option linter.unusedSimpArgs false
set_option linter.unusedVariables false
namespace Go.Proofs.YtgphmbipakdggaaR
open Go Go.RowKit Hr

theorem sq_one37 : Hr.One Try.prog 37 := ⟨fun w => by simp [isAgg, run_underlying Try.underlying37], Hr.Sz.of (by kernel_rfl)⟩
theorem sq_sz25 : Hr.Sz Try.prog 25 13 := Hr.Sz.of (by kernel_rfl)
theorem sq_sz37 : Hr.Sz Try.prog 37 1 := Hr.Sz.of (by kernel_rfl)
theorem sq_agg25 : Hr.Agg Try.prog 25 13 := ⟨fun w => by simp [isAgg, run_underlying Try.underlying25], Hr.Sz.of (by kernel_rfl)⟩
theorem sq_info25 : Hr.Info Try.prog 25 [.int .i64 0, .int .i64 0, .int .i64 0, .int .i64 0, .int .i64 0, .int .i64 0, .int .i64 0, .int .i64 0, .int .i64 0, .int .i64 0, .int .i64 0, .int .i64 0, .int .i64 0] 13 104 := Hr.Info.of (by kernel_rfl)
theorem wideF : ∀ f, Fence.wide.fn f := fun _ => trivial

/-- slices.Values's closure, over a slice that lies below n₀. -/
theorem val_in {n l Bs n₀ : Nat} {A : Option Addr} {ca : Nat} {zs : List Req} {J Jx : List Req → World → Prop} {W : World} (hn : n₀ ≤ W.heap.size) (hBs : Bs < n₀) (hbox : W.cell? ⟨Bs, 0, none⟩ = some (.slice A zs.length ca)) (hrd : ∀ w, Below n₀ W w → Rd w A 13 (zs.map Req.enc)) (hzl : zs.length ≤ 1000000)
    (hJ : AbidesFrom W.heap.size J) (hJx : AbidesFrom W.heap.size Jx)
    (hY : ∀ pre x W1, J pre W1 → pre.length < zs.length → YieldAt Fence.wide (n - 1) Try.prog l #[x.val] W1 fun e W' => (e = .returned (.bool true) ∧ J (pre ++ [x]) W' ∧ Below n₀ W1 W') ∨ (e = .returned (.bool false) ∧ Jx (pre ++ [x]) W')) (h0 : J [] W) :
    CallsIn Fence.wide n Try.prog 74 #[.func (.yield l) #[] #[], .pointer (some ⟨Bs, 0, none⟩)] W fun e W' => (∃ v, e = .returned v) ∧ ((∃ xs, xs = zs ∧ J xs W') ∨ (∃ pre, True ∧ Jx pre W')) := by
  have grow : ∀ {w w' : World}, Kept nX w w' → w.grownBy w' none := fun h => ⟨h.os, h.tape, h.output, h.size, fun k hk _ => h.block k hk (fun e => e)⟩
  have goJ : ∀ {s : List Req} {w w' : World}, Kept nX w w' → J s w → J s w' := fun h hj => hJ _ _ _ none hj (grow h) (fun r e => by cases e)
  have goX : ∀ {s : List Req} {w w' : World}, Kept nX w w' → Jx s w → Jx s w' := fun h hj => hJx _ _ _ none hj (grow h) (fun r e => by cases e)
  refine callsIn_sat (vs := [_, _]) Try.func74 Try.ntmps74 rfl trivial rfl rfl fun a hs => ?_
  refine wpIn_seq (wpIn_region_lit ?_)
  refine LI.q rfl wideF (calm_load rfl) rfl rfl (q_load1 rfl sq_one37 rfl fun w hk hm => (hk.below.cell (p := ⟨Bs, 0, none⟩) (Nat.lt_of_lt_of_le hBs hn)).trans hbox) (LI.q rfl wideF (calm_len rfl) rfl rfl (q_len rfl Try.underlying37 rfl) (LI.q rfl wideF (calm_move rfl) rfl rfl (q_move rfl rfl) (LI.nil fun a w hs => ?_))) a W hs
  refine wpIn_block (wpIn_loop (fun a w => ∃ k, k ≤ zs.length ∧ J (zs.take k) w ∧ Below n₀ W w ∧ Sat nX w 16 ⟨[(0, .func (.yield l) #[] #[]), (5, .slice A zs.length ca), (6, .int .i64 (zs.length : Int)), (7, .int .i64 (k : Int))], []⟩ a w) (fun (a : Act) (_ : World) => match a.tmps[7]? with | Option.some (Value.int _ i) => zs.length - i.toNat | _ => 0) ?_ ?_)
  · exact ⟨0, Nat.zero_le _, goJ hs.kept h0, hs.kept.below.mono hn, subMk (.cons (s := 0) rfl (.cons (s := 5) rfl (.cons (s := 6) rfl (.cons (s := 7) rfl .nil)))) .refl _ _ (hs.rebase w)⟩
  rintro a w ⟨k, hk, hj, hb, hs⟩
  have hkn : n₀ ≤ w.heap.size := Nat.le_trans hn hb.size
  refine wpIn_seq (wpIn_region_lit ?_)
  refine LI.q rfl wideF (calm_bin rfl) rfl rfl (q_lss rfl rfl rfl) (LI.nil fun a1 w1 hs1 => ?_) a w hs
  refine wpIn_seq ?_
  have h8 : a1.eval (.tmp 8) = .bool (decide ((k : Int) < (zs.length : Int))) := hs1.eval rfl
  by_cases hlt : (k : Int) < (zs.length : Int)
  · rw [decide_eq_true hlt] at h8
    refine wpIn_cond_true h8 (wpIn_skip ?_)
    refine wpIn_seq (wpIn_block (wpIn_seq (wpIn_region_lit ?_)))
    have RD : RdS nX w ⟨[(8, .bool (decide ((k : Int) < (zs.length : Int)))), (0, .func (.yield l) #[] #[]), (5, .slice A zs.length ca), (6, .int .i64 (zs.length : Int)), (7, .int .i64 (k : Int))], []⟩ A 13 (zs.map Req.enc) := fun w' hk' _ => hrd w' (hb.trans (hk'.below.mono hkn))
    refine LI.q rfl wideF (calm_index rfl) rfl rfl (q_indexS (q := k) rfl Try.underlying37 sq_sz25 rfl rfl RD (by simp) rfl (by omega)) (LI.q rfl wideF (calm_load rfl) rfl rfl (q_loadE rfl sq_agg25 rfl (fun w' hk' _ => hrd w' (hb.trans (hk'.below.mono hkn))) (getmap (by omega)) rfl) (LI.h rfl wideF (calm_alloc rfl) (h_alloc rfl rfl rfl sq_info25) fun b4 _ => LI.h rfl wideF (calm_store rfl) (h_storeB rfl rfl sq_sz25 rfl rfl rfl rfl rfl Sel.here rfl) fun _ _ => LI.nil fun a2 w2 hs2 => ?_)) a1 w1 hs1
    refine wpIn_seq (wpIn_region_lit ?_)
    refine LI.q rfl wideF (calm_move rfl) rfl rfl (q_move rfl rfl) (LI.q rfl wideF (calm_load rfl) rfl rfl (q_loadBN rfl sq_agg25 rfl Sel.here (.cons rfl (.cons rfl (.cons rfl (.cons rfl (.cons rfl (.cons rfl (.cons rfl (.cons rfl (.cons rfl (.cons rfl (.cons rfl (.cons rfl (.cons rfl CellsAt.nil))))))))))))) rfl) (LI.yield rfl wideF rfl rfl rfl rfl fun a3 w3 hs3 => ⟨_, hY (zs.take k) (nth zs k) w3 (goJ hs3.kept hj) (by rw [List.length_take]; omega), fun e w' he => ?_⟩)) a2 w2 hs2
    have hb3 : Below n₀ W w3 := hb.trans (hs3.kept.below.mono hkn)
    rcases he with ⟨rfl, hj', hb'⟩ | ⟨rfl, hx'⟩
    · refine ⟨_, rfl, ?_⟩
      have hs4 := (hs3.put (d := 13) rfl (.bool true)).rebase w'
      refine LI.q rfl wideF (calm_un rfl) rfl rfl (q_not rfl rfl) (LI.nil fun a5 w5 hs5 => ?_) _ w' hs4
      refine wpIn_cond_false (hs5.eval rfl) (wpIn_skip ?_)
      refine wpIn_region_lit ?_
      refine LI.q rfl wideF (calm_bin rfl) rfl rfl (q_add rfl rfl rfl (by omega)) (LI.q rfl wideF (calm_move rfl) rfl rfl (q_move rfl rfl) (LI.nil fun a6 w6 hs6 => ?_)) a5 w5 hs5
      have hb6 : Below n₀ W w6 := (hb3.trans hb').trans (hs6.kept.below.mono (Nat.le_trans (Nat.le_trans hn hb3.size) hb'.size))
      refine ⟨⟨k + 1, by omega, by rw [take_nth (by omega)]; exact goJ hs6.kept hj', hb6, subMk (.cons (s := 0) rfl (.cons (s := 5) rfl (.cons (s := 6) rfl (.cons' (s := 7) rfl (vint (by omega)) .nil)))) .refl _ _ (hs6.rebase w6)⟩, ?_⟩
      have e6 : a6.tmps[7]? = some (.int .i64 ((k : Int) + 1)) := hs6.env 7 _ rfl
      have e0 : a.tmps[7]? = some (.int .i64 (k : Int)) := hs.env 7 _ rfl
      simp only [e6, e0]
      omega
    · refine ⟨_, rfl, ?_⟩
      have hs4 := (hs3.put (d := 13) rfl (.bool false)).rebase w'
      refine LI.q rfl wideF (calm_un rfl) rfl rfl (q_not rfl rfl) (LI.nil fun a5 w5 hs5 => ?_) _ w' hs4
      refine wpIn_cond_true (hs5.eval rfl) (wpIn_ret ?_)
      exact ⟨hs5.defers, .tuple #[], results_none rfl _ _ _, ⟨_, rfl⟩, .inr ⟨_, trivial, goX hs5.kept hx'⟩⟩
  · rw [decide_eq_false hlt] at h8
    refine wpIn_cond_false h8 (wpIn_exit ?_)
    exact ⟨hs1.defers, .tuple #[], results_none rfl _ _ _, ⟨_, rfl⟩, .inl ⟨zs, rfl, by have e : zs.take k = zs := List.take_of_length_le (by omega); rw [e] at hj; exact goJ hs1.kept hj⟩⟩
theorem val_stops {n Bs n₀ ca : Nat} {A : Option Addr} {zs : List Req} {w : World} (hn : n₀ ≤ w.heap.size) (hBs : Bs < n₀) (hbox : w.cell? ⟨Bs, 0, none⟩ = some (.slice A zs.length ca)) (hrd : ∀ w', Below n₀ w w' → Rd w' A 13 (zs.map Req.enc)) (hzl : zs.length ≤ 1000000) :
    SeqStopsK Fence.wide n Try.prog 74 #[.pointer (some ⟨Bs, 0, none⟩)] (fun x : Req => #[x.val]) (Below n₀) (fun xs => xs = zs) (fun _ => True) zs.length w :=
  fun l J Jx W hW hJ hJx hY h0 => val_in (Nat.le_trans hn hW.size) hBs ((hW.cell (p := ⟨Bs, 0, none⟩) (Nat.lt_of_lt_of_le hBs hn)).trans hbox) (fun w' h => hrd w' ((hW.mono hn).trans h)) hzl hJ hJx hY h0

/-- What the collecting loop has: its slice in a box, and the row. -/
def AccI (W : World) (b : Nat) (pre : List Req) (w : World) : Prop := ∃ (O : Option Addr) (co : Nat), Kept nX W w ∧ Mem nX W [.blk b 37 [(0, .slice O pre.length co)], .own 25 13 O pre.length co (pre.map Req.enc)] w
theorem blk_heap {b : Nat} {t : TypeId} {cs : List (Nat × Value)} {w : World} (h : (Res.blk b t cs).holds w) : ∃ c, w.heap[b]? = some (.cells c t (0, 0)) := ⟨h.choose, h.choose_spec.1⟩
theorem own_heap {t : TypeId} {s n c b : Nat} {A : Option Addr} {ls : List (List Value)} {w : World} (h : (Res.own t s A n c ls).holds w) (hb : (Res.own t s A n c ls).at b) : ∃ cur, w.heap[b]? = some (.cells cur t (0, 0)) := by
  obtain ⟨⟨_, h2⟩, _⟩ := h
  have hb' : A.map (·.block) = some b := hb
  rcases h2 with ⟨h2, _⟩ | ⟨g, cap, cur, hv, _, hh, _⟩
  · simp only [Value.slice.injEq] at h2
    rw [h2.1] at hb'; cases hb'
  · simp only [Value.slice.injEq] at hv
    rw [hv.1] at hb'
    simp only [Option.map_some, Option.some.injEq] at hb'
    subst hb'
    exact ⟨cur, hh⟩
theorem acc_turn {W X Y : World} {b B : Nat} {pre : List Req} {O : Option Addr} {co : Nat} {row : Option Nat} (hB : W.heap.size ≤ B) (hk : Kept nX W X) (hm : Mem nX W [.blk b 37 [(0, .slice O pre.length co)], .own 25 13 O pre.length co (pre.map Req.enc)] X) (hg : X.grownBy Y row) (hr : ∀ r, row = some r → B ≤ r ∧ ∃ o : Obj, X.heap[r]? = some o ∧ o.isCells = false) :
    Kept nX W Y ∧ Mem nX W [.blk b 37 [(0, .slice O pre.length co)], .own 25 13 O pre.length co (pre.map Req.enc)] Y := by
  have hne : ∀ r ∈ ([.blk b 37 [(0, .slice O pre.length co)], .own 25 13 O pre.length co (pre.map Req.enc)] : List Res), ∀ k, r.at k → some k ≠ row := by
    intro r hr' k hk' e
    obtain ⟨_, o, ho, hc⟩ := hr k e.symm
    have hh := hm.holds r hr'
    simp only [List.mem_cons, List.not_mem_nil, or_false] at hr'
    rcases hr' with rfl | rfl
    · obtain rfl : b = k := hk'
      obtain ⟨c, h2⟩ := blk_heap hh
      rw [h2] at ho; cases ho; cases hc
    · obtain ⟨c, h2⟩ := own_heap hh hk'
      rw [h2] at ho; cases ho; cases hc
  refine ⟨⟨hg.os.trans hk.os, hg.tape.trans hk.tape, hg.output.trans hk.output, Nat.le_trans hk.size hg.size, fun k hk' hx => ?_⟩, ⟨fun r hr' => (hm.holds r hr').keep fun k hk' => hg.block k ((hm.holds r hr').lt k hk') (hne r hr' k hk'), hm.own, hm.apart⟩⟩
  refine (hg.block k (Nat.lt_of_lt_of_le hk' hk.size) (fun e => ?_)).trans (hk.block k hk' hx)
  have := (hr k e.symm).1
  omega
theorem accI_own {W : World} {b B : Nat} (hB : W.heap.size ≤ B) : OwnFrom B (AccI W b) := by
  rintro pre X Y row ⟨O, co, hk, hm⟩ hg hr
  exact ⟨O, co, acc_turn hB hk hm hg hr⟩
/-- What a round begins with: the loop's variable in a new box. -/
def AccA (n₀ b : Nat) (x : Req) (a' : Act) (w : World) : Prop := ∃ b5 : Nat, a'.tmps.size = 13 ∧ a'.defers = [] ∧ a'.tmps[2]? = some (.pointer (some ⟨b, 0, none⟩)) ∧ a'.tmps[5]? = some (.pointer (some ⟨b5, 0, none⟩)) ∧ b5 ≠ b ∧ n₀ ≤ b5 ∧ (Res.blk b5 25 (enum 0 x.enc)).holds w ∧ (∃ c, w.heap[b]? = some (.cells c 37 (0, 0))) ∧
  ∀ O l c, w.cell? ⟨b, 0, none⟩ = some (.slice O l c) → O.map (·.block) ≠ some b5
theorem fnd_app : ∀ {a b : List (Nat × Value)} {i : Nat} {v : Value}, fnd a i = some v → fnd (a ++ b) i = some v
  | [], _, _, _, h => by simp [fnd] at h
  | (k, u) :: r, b, i, v, h => by
    by_cases e : k = i
    · subst e; rw [fnd_cons_self] at h; rw [List.cons_append, fnd_cons_self]; exact h
    · rw [fnd_cons_ne e] at h; rw [List.cons_append, fnd_cons_ne e]; exact fnd_app h
theorem cell_same {w w' : World} {b i : Nat} (h : w'.heap[b]? = w.heap[b]?) : w'.cell? ⟨b, i, none⟩ = w.cell? ⟨b, i, none⟩ := by simp only [World.cell?, h]
theorem accA_own {n₀ b B : Nat} {x : Req} {a' : Act} : OwnFrom B (fun (_ : Unit) w => AccA n₀ b x a' w) := by
  rintro _ X Y row ⟨b5, h1, h2, h3, h4, h5, h6, h7, ⟨c, h8⟩, h9⟩ hg hr
  obtain ⟨c5, h7'⟩ := blk_heap h7
  have n5 : some b5 ≠ row := fun e => by
    obtain ⟨_, o, ho, hc⟩ := hr b5 e.symm
    rw [h7'] at ho; cases ho; cases hc
  have nb : some b ≠ row := fun e => by
    obtain ⟨_, o, ho, hc⟩ := hr b e.symm
    rw [h8] at ho; cases ho; cases hc
  have eb := hg.block b (lt_of_heap h8) nb
  refine ⟨b5, h1, h2, h3, h4, h5, h6, h7.keep fun k hk => ?_, ⟨c, eb.trans h8⟩, fun O l cc hO => h9 O l cc ((cell_same eb).symm.trans hO)⟩
  obtain rfl : b5 = k := hk
  exact hg.block b5 (lt_of_heap h7') n5
/-- slices.AppendSeq of slices.Values: a row of its own with the same elements. -/
theorem app_ret (zs : List Req) (A : Option Addr) (ca Bs : Nat) (W : World) (hbox : W.cell? ⟨Bs, 0, none⟩ = some (.slice A zs.length ca)) (hBs : Bs < W.heap.size) (hrd : ∀ w, Kept nX W w → Rd w A 13 (zs.map Req.enc)) (hzl : zs.length ≤ 1000000) :
    Calls Try.prog 88 #[.slice none 0 0, .func (.func 74) #[] #[.pointer (some ⟨Bs, 0, none⟩)]] W (Ret W nX fun v m => ∃ O co, v = .slice O zs.length co ∧ m = [.own 25 13 O zs.length co (zs.map Req.enc)]) := by
  refine (callsIn_wide (n := 5)).1 ?_
  refine callsIn_satM (vs := [_, _]) Try.func88 Try.ntmps88 rfl trivial rfl rfl fun a hs => ?_
  refine wpIn_seq (wpIn_region_lit ?_)
  refine LI.h rfl wideF (calm_box rfl) (h_box rfl rfl rfl rfl rfl) (fun b2 _ => LI.q rfl wideF (calm_assign rfl) rfl rfl (q_assign rfl rfl) (LI.nil fun a1 w1 hs1 => ?_)) a W hs
  refine wpIn_seq (wpIn_seq (wpIn_region_lit ?_))
  refine LI.q rfl wideF (calm_move rfl) rfl rfl (q_move rfl rfl) (LI.nil fun a2 w2 hs2 => ?_) a1 w1 hs1
  refine wpIn_block ?_
  have hsz : W.heap.size ≤ w2.heap.size := hs2.kept.size
  have hb2 : W.heap.size ≤ b2 := (hs2.mem.own (.blk b2 37 _) (List.mem_cons_self ..) b2 rfl).elim id (fun e => e.elim)
  have hI0 : AccI W b2 [] w2 := ⟨none, 0, hs2.kept, (MemSub.nilOwn 25 13 _ _ _ hs2.mem).1.perm (.swap _ _ _)⟩
  refine wpIn_rangeFunc_ownH rfl (by omega) (gf := 74) (lb := #[.pointer (some ⟨Bs, 0, none⟩)]) (hs2.eval rfl) trivial (fun args w => by kernel_rfl)
    (val_stops hsz hBs ((hs2.kept.below.cell (p := ⟨Bs, 0, none⟩) hBs).trans hbox) (fun w' h => hrd w' (.of_below (hs2.kept.below.trans h))) hzl) (fun h k => h.trans k) (belowK_b hsz) (Below.refl _ _) (fun _ => rfl)
    (AccI W b2) (fun _ _ _ => False) (accI_own hsz) (fun _ _ _ _ _ hs _ _ => hs) hI0 (AccA W.heap.size b2) (fun _ _ => accA_own) ?assign ?body ?done ?stop
  case assign =>
    intro l pre x W1 K hI hK
    obtain ⟨O, co, hk1, hm1⟩ := hI
    have e : ({ tmps := (#[7].zip #[x.val]).foldl (fun t (p, v) => t.setIfInBounds p v) a2.tmps, defers := [] } : Act) = a2.put (some 7) x.val := by
      simp [Act.put, hs2.defers]
    rw [e]
    refine wpIn_region_lit ?_
    refine LI.h rfl (fun _ => trivial) (calm_alloc rfl) (h_alloc rfl rfl rfl sq_info25) (fun b5 _ => LI.h rfl (fun _ => trivial) (calm_store rfl) (h_storeB rfl rfl sq_sz25 rfl rfl rfl rfl rfl Sel.here rfl) fun _ _ => LI.nil fun a' w' hs' => ?_) _ W1 ((hs2.put (d := 7) rfl x.val).rebase W1)
    have h5 : W1.heap.size ≤ b5 := (hs'.mem.own (.blk b5 25 _) (List.mem_cons_self ..) b5 rfl).elim id (fun e => e.elim)
    have hbk := hm1.holds _ (by simp : Res.blk b2 37 [(0, .slice O pre.length co)] ∈ _)
    obtain ⟨c2, hb2'⟩ := blk_heap hbk
    have hown := hm1.holds _ (by simp : Res.own 25 13 O pre.length co (pre.map Req.enc) ∈ _)
    have eb := hs'.kept.block b2 (lt_of_heap hb2') (fun e => e)
    refine hK a' w' ⟨hs'.kept.size, fun k o _ hk ho => (hs'.kept.block k (lt_of_heap hk) (fun e => e)).trans hk⟩ (hs'.kept.below.mono hk1.size) ⟨O, co, hk1.step0 hs'.kept, hm1.keep0 hs'.kept⟩ ⟨b5, hs'.size, hs'.defers, hs'.env 2 _ rfl, hs'.env 5 _ rfl, ?_, Nat.le_trans hk1.size h5, ?_, ⟨c2, eb.trans hb2'⟩, fun O' l' c' hO' => ?_⟩
    · have := lt_of_heap hb2'; omega
    · obtain ⟨c, hc, hf⟩ := hs'.mem.holds _ (List.mem_cons_self ..)
      exact ⟨c, hc, fun i v hv => hf i v (fnd_app hv)⟩
    · rw [cell_same eb, blk_cell hbk rfl] at hO'
      obtain ⟨rfl, -, -⟩ : O = O' ∧ pre.length = l' ∧ co = c' := by simpa using hO'
      intro e
      have := hown.lt b5 e
      omega
  case body =>
    rintro l pre x a' W1 _ _ ⟨O, co, hk1, hm1⟩ ⟨b5, h1, h2, h3, h4, h5, h6, h7, _, h9⟩ hlen
    have hbk := hm1.holds _ (by simp : Res.blk b2 37 [(0, .slice O pre.length co)] ∈ _)
    have hown := hm1.holds _ (by simp : Res.own 25 13 O pre.length co (pre.map Req.enc) ∈ _)
    obtain ⟨c2, hb2'⟩ := blk_heap hbk
    obtain ⟨c5, hb5'⟩ := blk_heap h7
    have hnO := h9 O pre.length co (blk_cell hbk rfl)
    have hap := List.pairwise_cons.1 hm1.apart
    have hsat : Sat (fun k => k = b2 ∨ O.map (·.block) = some k ∨ k = b5) W1 13 ⟨[(2, .pointer (some ⟨b2, 0, none⟩)), (5, .pointer (some ⟨b5, 0, none⟩))], [.blk b2 37 [(0, .slice O pre.length co)], .own 25 13 O pre.length co (pre.map Req.enc), .blk b5 25 (enum 0 x.enc)]⟩ a' W1 := by
      refine ⟨h1, h2, fun k v hk => ?_, Kept.refl _ _, ⟨?_, ?_, ?_⟩⟩
      · by_cases e2 : k = 2
        · subst e2; cases hk; exact h3
        · by_cases e5 : k = 5
          · subst e5; cases hk; exact h4
          · rw [fnd_cons_ne (Ne.symm e2), fnd_cons_ne (Ne.symm e5)] at hk; cases hk
      · intro r hr
        simp only [List.mem_cons, List.not_mem_nil, or_false] at hr
        rcases hr with rfl | rfl | rfl
        · exact hbk
        · exact hown
        · exact h7
      · intro r hr k hk
        simp only [List.mem_cons, List.not_mem_nil, or_false] at hr
        rcases hr with rfl | rfl | rfl
        · exact .inr (.inl (Eq.symm hk))
        · exact .inr (.inr (.inl hk))
        · exact .inr (.inr (.inr (Eq.symm hk)))
      · refine List.pairwise_cons.2 ⟨fun r hr k hk hrk => ?_, List.pairwise_cons.2 ⟨fun r hr k hk hrk => ?_, List.pairwise_singleton _ _⟩⟩
        · simp only [List.mem_cons, List.not_mem_nil, or_false] at hr
          rcases hr with rfl | rfl
          · exact hap.1 _ (by simp) k hk hrk
          · have e1 : b2 = k := hk
            have e2 : b5 = k := hrk
            omega
        · simp only [List.mem_cons, List.not_mem_nil, or_false] at hr
          subst hr
          have e2 : b5 = k := hrk
          subst e2
          exact hnO hk
    refine wpIn_block (wpIn_region_lit ?_)
    refine LI.q rfl (fun _ => trivial) (calm_load rfl) rfl rfl (q_loadB rfl sq_one37 rfl Sel.here rfl) (LI.q rfl (fun _ => trivial) (calm_load rfl) rfl rfl (q_loadBN rfl sq_agg25 rfl (.there (.there Sel.here)) (.cons rfl (.cons rfl (.cons rfl (.cons rfl (.cons rfl (.cons rfl (.cons rfl (.cons rfl (.cons rfl (.cons rfl (.cons rfl (.cons rfl (.cons rfl CellsAt.nil))))))))))))) rfl)
      (LI.h rfl (fun _ => trivial) (calm_build rfl) (h_buildSlice (m := 1) rfl rfl rfl Try.underlying37 sq_info25 (.cons rfl rfl rfl rfl Parts.nil) rfl (by simp)) fun b10 _ =>
        LI.h rfl (fun _ => trivial) (calm_append rfl) (h_append (m := pre.length) (m' := 1) rfl rfl rfl Try.underlying37 sq_info25 rfl rfl (.there (.there Sel.here)) rfl (.own Sel.here) rfl (all1 rfl) (all1 rfl) (by omega) (by omega)) fun i _ =>
          LI.h rfl (fun _ => trivial) (calm_store rfl) (h_storeB rfl rfl sq_sz37 rfl rfl rfl rfl rfl (.there (.there Sel.here)) rfl) fun _ _ => LI.nil fun a9 w9 hs9 => ?_)) a' W1 hsat
    have hXc : ∀ k, (k = b2 ∨ O.map (·.block) = some k ∨ k = b5) → W.heap.size ≤ k ∧ ∃ c t, W1.heap[k]? = some (.cells c t (0, 0)) := by
      rintro k (rfl | e | rfl)
      · exact ⟨hb2, _, _, hb2'⟩
      · obtain ⟨cur, hcur⟩ := own_heap hown e
        exact ⟨(hm1.own (.own 25 13 O pre.length co (pre.map Req.enc)) (by simp) k e).elim id (fun e => e.elim), _, _, hcur⟩
      · exact ⟨h6, _, _, hb5'⟩
    refine ⟨⟨hs9.kept.size, fun k o _ hk ho => (hs9.kept.block k (lt_of_heap hk) (fun hX => ?_)).trans hk⟩, ⟨hs9.kept.os, hs9.kept.tape, hs9.kept.output, hs9.kept.size, fun k hk => hs9.kept.block k (Nat.lt_of_lt_of_le hk hk1.size) (fun hX => ?_)⟩, i.1, i.2, hk1.step hs9.kept (fun k hk _ hX => ?_), ?_⟩
    · obtain ⟨_, c, t, hc⟩ := hXc k hX
      rw [hc] at hk; cases hk; cases ho
    · have := (hXc k hX).1; omega
    · have := (hXc k hX).1; omega
    · have hm9 : Mem nX W _ w9 := ⟨hs9.mem.holds, fun r hr k hk => .inl ((hs9.mem.own r hr k hk).elim (fun h => Nat.le_trans hk1.size h) (fun hX => (hXc k hX).1)), hs9.mem.apart⟩
      refine (MemSub.cons (Sel.here) (.blk (.cons' (s := 0) (v' := .slice i.1 (pre ++ [x]).length i.2) rfl (by simp) .nil)) (MemSub.cons Sel.here (.own (m' := (pre ++ [x]).length) (xs' := (pre ++ [x]).map Req.enc) rfl (by simp) rfl (by simp; rfl)) .nil) _ _ _ hm9).1
  case done =>
    rintro D ys w3 hD rfl ⟨O, co, hk3, hm3⟩ hK
    have hbk := hm3.holds (.blk b2 37 [(0, .slice O ys.length co)]) (by simp)
    obtain ⟨c2, hb2'⟩ := blk_heap hbk
    have hb : Sat nX w3 13 ⟨[(2, .pointer (some ⟨b2, 0, none⟩))], []⟩ { tmps := a2.tmps, defers := [] } w3 := ⟨hs2.size, rfl, fun k v hk => hs2.env k v (by
      by_cases e2 : k = 2
      · subst e2; exact hk
      · rw [fnd_cons_ne (Ne.symm e2)] at hk; cases hk), Kept.refl _ _, Mem.nil⟩
    refine wpIn_seq (wpIn_region_lit ?_)
    refine LD.q rfl wideF (calm_load rfl) rfl rfl (q_load1 rfl sq_one37 rfl fun w hk _ => (cell_same (hk.block b2 (lt_of_heap hb2') (fun e => e))).trans (blk_cell hbk rfl)) (LD.q rfl wideF (calm_assign rfl) rfl rfl (q_assign rfl rfl) (LD.nil fun a9 w9 hs9 hd9 => ?_)) _ w3 hb rfl
    have hK9 := (hs9.kept.block D (lt_of_heap hK) (fun e => e)).trans hK
    refine wpIn_ret ?_
    show LeavesInM _ _ _ _ _ _ _ _ _
    rw [hd9, hs2.defers]
    refine ⟨by simp, .inl ⟨_, _, rfl, run_takeDeferred hK9, ?_⟩⟩
    obtain ⟨hk5, hm5⟩ := acc_turn hsz (hk3.step0 hs9.kept) (hm3.keep0 hs9.kept) (grownBy_putObj' w9 D (.deferred none)) (fun r e => by cases e; exact ⟨hD, _, hK9, rfl⟩)
    exact ⟨.slice O ys.length co, by rw [results_tmp rfl]; simp [hs9.env 4 _ rfl], _, _, ⟨O, co, rfl, rfl⟩, rfl, hk5, hm5.sub (by simp)⟩
  case stop =>
    rintro D c pre W3 _ _ h _
    exact h.elim
end Go.Proofs.YtgphmbipakdggaaR
