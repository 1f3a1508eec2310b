/- Lemmas for the walks, part 3 of 6: Ord, Lays, WalkB, WalkC, WalkD, WalkE, WalkF, WalkG, WalkH, WalkI, WalkJ, WalkK, WalkL, WalkM, WalkN, WalkO, WalkP, WalkQ, WalkR, Lays2, WalkS, WalkT, WalkU, Get, GetW, Draw3, Rdr, Bytes, Dec. -/
import Derived.Test.YtdgeffphifgflaaGreatSi2
import Derived.Shelf.SlSortCmp.QuietGrown
import Derived.Deep.Quiet
import Derived.Deep.QuietTactic
import Derived.BigQuiet
import Derived.WalkKit
import Derived.Shelf.SlSortCmp.NoneTotal
import Derived.Test.YtdgeffphifgflaaGreatChecked
import Derived.KernelRfl
import Derived.Test.YtdgeffphifgflaaGreatSi1
import Derived.Shelf.Bytes.SlJoin
import Derived.Laws.BytesArg
namespace Go.Proofs.YtdgeffphifgflaaGreat
namespace Ab
open Go Go.RowKit Go.Sort Go.Shelf Go.Proofs
set_option linter.unusedVariables false
set_option linter.unusedSimpArgs false
theorem sl_cells {w : World} {b m : Nat} {L : List UInt8} {t : TypeId} (h : w.heap[b]? = some (.cells (L.map byteV).toArray t (0, 0))) (hm : L.length = m) (hmax : m ≤ 4096) : (sl (some ⟨b, 0, none⟩) m L).holds (fun _ => True) w := by
  refine ⟨by omega, by simp [maxLen]; omega, by simp only [lim]; omega, fun hne => ⟨b, 0, rfl, trivial, (Array.getElem?_eq_some_iff.1 h).1, fun i hi => ⟨(), ?_, by simp [Cell.facts]⟩⟩⟩
  intro j v hj
  simp only [Cell.cells, List.getElem?_singleton] at hj
  split at hj
  · rename_i h0; subst h0
    injection hj with hj
    subst hj
    rw [cell_of_row w b _ _ _ _ h]
    simp [Cell.sz, hi]
  · cases hj
theorem ord_cmp (W : World) {a b : Option Addr} {c k : Nat} {L M : List UInt8} {F G : Nat → Prop} (h : (sl a c L).holds F W) (h' : (sl b k M).holds G W) :
    Calls Tryz.prog 73 #[.slice a L.length c, .slice b M.length k] W fun e w' => e = .returned (.int .i64 (Lib.compareBytes L M)) ∧ w' = W := by
  have hx := run_bytealgCompare W h h'
  clear h h'
  generalize Lib.compareBytes L M = r at hx ⊢
  go_enter Tryz.func73, Tryz.ntmps73
  go_wp2
  go_ret
  exact ⟨rfl, rfl⟩
theorem ord_ids (W : World) (x y : ID) : Calls Tryz.prog 162 #[.agg (idc x).toArray, .agg (idc y).toArray] W fun e w' => e = .returned (.int .i64 (idCmp x y)) ∧ ∃ q os', w' = grow (W.drewN q) os' := by
  have hc : ∀ n, Calls Tryz.prog 73 #[.slice (some ⟨W.heap.size, 0, none⟩) 32 32, .slice (some ⟨W.heap.size + 1, 0, none⟩) 32 32] (((W.alloc (.cells (idc x).toArray 81)).alloc (.cells (idc y).toArray 81)).drewN n) fun e w' => e = .returned (.int .i64 (idCmp x y)) ∧ w' = ((W.alloc (.cells (idc x).toArray 81)).alloc (.cells (idc y).toArray 81)).drewN n := by
    intro n
    have h1 : (((W.alloc (.cells (idc x).toArray 81)).alloc (.cells (idc y).toArray 81)).drewN n).heap[W.heap.size]? = some (.cells (x.1.map byteV).toArray 81 (0, 0)) := by
      show ((W.heap.push _).push _)[W.heap.size]? = _
      rw [Array.getElem?_push, if_neg (by simp), Array.getElem?_push, if_pos rfl]; rfl
    have h2 : (((W.alloc (.cells (idc x).toArray 81)).alloc (.cells (idc y).toArray 81)).drewN n).heap[W.heap.size + 1]? = some (.cells (y.1.map byteV).toArray 81 (0, 0)) := by
      show ((W.heap.push _).push _)[W.heap.size + 1]? = _
      rw [Array.getElem?_push, if_pos (by simp)]; rfl
    have h := ord_cmp (((W.alloc (.cells (idc x).toArray 81)).alloc (.cells (idc y).toArray 81)).drewN n) (sl_cells h1 x.2 (by decide)) (sl_cells h2 y.2 (by decide))
    rw [x.2, y.2] at h
    exact h
  generalize idCmp x y = r at hc ⊢
  go_enter Tryz.func162, Tryz.ntmps162
  go_wp2
  go_quiet (first | (go_at_call 73; refine Calls.quiet_of_same (hc _)))
  rename_i nq
  go_wp2
  go_ret
  exact ⟨rfl, nq, _, by rw [alloc_eq_grow, alloc_eq_grow, grow_grow]; rfl⟩
end Ab
end Go.Proofs.YtdgeffphifgflaaGreat
namespace Go.Proofs.YtdgeffphifgflaaGreat
namespace Ab
open Go
def sortId_ren : Go.Shelf.Ren := ⟨fun | 6 => 166 | 14 => 208 | 15 => 138 | 20 => 246 | 21 => 247 | 22 => 248 | 23 => 249 | 24 => 250 | 25 => 251 | 26 => 252 | 27 => 253 | 28 => 197 | 29 => 198 | 46 => 260 | 47 => 239 | 48 => 240 | 49 => 261 | 50 => 262 | 57 => 264 | n => n, fun | 22 => 25 | 24 => 81 | 25 => 178 | 39 => 166 | 45 => 211 | 46 => 212 | 50 => 119 | 53 => 62 | 55 => 144 | 66 => 237 | 70 => 240 | 76 => 253 | 77 => 254 | n => n, fun | n => n⟩
open Go.Shelf Go.Proofs in
theorem sortId : SlLaysF0.n6 Tryz.prog sortId_ren where
  mixed := by kernel_rfl
  f6 := ⟨ "slices.SortFunc[[]anabranch/api.ID,anabranch/api.ID]", by decide, Tryz.func166.trans (congrArg some (by kernel_rfl))⟩
  f14 := ⟨ "slices.pdqsortCmpFunc[anabranch/api.ID]", by decide, Tryz.func208.trans (congrArg some (by kernel_rfl))⟩
  f15 := Tryz.func138.trans (congrArg some (by kernel_rfl))
  f20 := ⟨ "slices.insertionSortCmpFunc[anabranch/api.ID]", by decide, Tryz.func246.trans (congrArg some (by kernel_rfl))⟩
  f21 := ⟨ "slices.heapSortCmpFunc[anabranch/api.ID]", by decide, Tryz.func247.trans (congrArg some (by kernel_rfl))⟩
  f22 := ⟨ "slices.breakPatternsCmpFunc[anabranch/api.ID]", by decide, Tryz.func248.trans (congrArg some (by kernel_rfl))⟩
  f23 := ⟨ "slices.choosePivotCmpFunc[anabranch/api.ID]", by decide, Tryz.func249.trans (congrArg some (by kernel_rfl))⟩
  f24 := ⟨ "slices.reverseRangeCmpFunc[anabranch/api.ID]", by decide, Tryz.func250.trans (congrArg some (by kernel_rfl))⟩
  f25 := ⟨ "slices.partialInsertionSortCmpFunc[anabranch/api.ID]", by decide, Tryz.func251.trans (congrArg some (by kernel_rfl))⟩
  f26 := ⟨ "slices.partitionEqualCmpFunc[anabranch/api.ID]", by decide, Tryz.func252.trans (congrArg some (by kernel_rfl))⟩
  f27 := ⟨ "slices.partitionCmpFunc[anabranch/api.ID]", by decide, Tryz.func253.trans (congrArg some (by kernel_rfl))⟩
  f28 := Tryz.func197.trans (congrArg some (by kernel_rfl))
  f29 := Tryz.func198.trans (congrArg some (by kernel_rfl))
  f46 := ⟨ "slices.siftDownCmpFunc[anabranch/api.ID]", by decide, Tryz.func260.trans (congrArg some (by kernel_rfl))⟩
  f47 := Tryz.func239.trans (congrArg some (by kernel_rfl))
  f48 := Tryz.func240.trans (congrArg some (by kernel_rfl))
  f49 := ⟨ "slices.medianAdjacentCmpFunc[anabranch/api.ID]", by decide, Tryz.func261.trans (congrArg some (by kernel_rfl))⟩
  f50 := ⟨ "slices.medianCmpFunc[anabranch/api.ID]", by decide, Tryz.func262.trans (congrArg some (by kernel_rfl))⟩
  f57 := ⟨ "slices.order2CmpFunc[anabranch/api.ID]", by decide, Tryz.func264.trans (congrArg some (by kernel_rfl))⟩
  t0 := Tryz.underlying0
  a0 := Tryz.isAgg0
  z0 := Tryz.sizeOf0
  v0 := Tryz.zeroValue0
  t3 := Tryz.underlying3
  a3 := Tryz.isAgg3
  z3 := Tryz.sizeOf3
  v3 := Tryz.zeroValue3
  t4 := Tryz.underlying4
  a4 := Tryz.isAgg4
  z4 := Tryz.sizeOf4
  v4 := Tryz.zeroValue4
  t5 := Tryz.underlying5
  a5 := Tryz.isAgg5
  z5 := Tryz.sizeOf5
  v5 := Tryz.zeroValue5
  t9 := Tryz.underlying9
  a9 := Tryz.isAgg9
  z9 := Tryz.sizeOf9
  v9 := Tryz.zeroValue9
  t22 := Tryz.underlying25
  a22 := Tryz.isAgg25
  z22 := Tryz.sizeOf25
  v22 := Tryz.zeroValue25
  t25 := Tryz.underlying178
  a25 := Tryz.isAgg178
  z25 := Tryz.sizeOf178
  v25 := Tryz.zeroValue178
  t39 := Tryz.underlying166
  a39 := Tryz.isAgg166
  z39 := Tryz.sizeOf166
  v39 := Tryz.zeroValue166
  t45 := Tryz.underlying211
  a45 := Tryz.isAgg211
  z45 := Tryz.sizeOf211
  v45 := Tryz.zeroValue211
  t46 := Tryz.underlying212
  a46 := Tryz.isAgg212
  z46 := Tryz.sizeOf212
  v46 := Tryz.zeroValue212
  t50 := Tryz.underlying119
  a50 := Tryz.isAgg119
  z50 := Tryz.sizeOf119
  v50 := Tryz.zeroValue119
  t53 := Tryz.underlying62
  a53 := Tryz.isAgg62
  z53 := Tryz.sizeOf62
  v53 := Tryz.zeroValue62
  t55 := Tryz.underlying144
  a55 := Tryz.isAgg144
  z55 := Tryz.sizeOf144
  v55 := Tryz.zeroValue144
  t66 := Tryz.underlying237
  a66 := Tryz.isAgg237
  z66 := Tryz.sizeOf237
  v66 := Tryz.zeroValue237
  t70 := Tryz.underlying240
  a70 := Tryz.isAgg240
  z70 := Tryz.sizeOf240
  v70 := Tryz.zeroValue240
  t76 := Tryz.underlying253
  a76 := Tryz.isAgg253
  z76 := Tryz.sizeOf253
  v76 := Tryz.zeroValue253
  t77 := Tryz.underlying254
  a77 := Tryz.isAgg254
  z77 := Tryz.sizeOf254
  v77 := Tryz.zeroValue254
end Ab
end Go.Proofs.YtdgeffphifgflaaGreat
namespace Go.Proofs.YtdgeffphifgflaaGreat
namespace Ab
open Go Go.RowKit
set_option linter.unusedVariables false
set_option linter.unusedSimpArgs false
set_option synthInstance.maxSize 4000
set_option synthInstance.maxHeartbeats 400000
attribute [local irreducible] JC JO JR JQ andThen inBlock OpV Gives retTo JM JS
attribute [local irreducible] ents
def setOf (L : List ID) : List ID := L.foldl addK []
theorem foldl_addK_nodup (L S : List ID) (h : S.Nodup) : (L.foldl addK S).Nodup := by
  induction L generalizing S with
  | nil => exact h
  | cons a L ih => exact ih _ (addK_nodup h a)
theorem mem_foldl_addK (L S : List ID) (x : ID) : x ∈ L.foldl addK S ↔ x ∈ S ∨ x ∈ L := by
  induction L generalizing S with
  | nil => simp
  | cons a L ih => rw [List.foldl_cons, ih, mem_addK]; simp [or_assoc]
theorem setOf_nodup (L : List ID) : (setOf L).Nodup := foldl_addK_nodup L [] List.nodup_nil
theorem mem_setOf (L : List ID) (x : ID) : x ∈ setOf L ↔ x ∈ L := by simp [setOf, mem_foldl_addK]
theorem setOf_nil : setOf [] = [] := rfl
theorem setOf_snoc (L : List ID) (x : ID) : setOf (L ++ [x]) = addK (setOf L) x := by simp [setOf]
theorem setOf_length (L : List ID) : (setOf L).length ≤ L.length := by
  have : ∀ (L S : List ID), (L.foldl addK S).length ≤ S.length + L.length := by
    intro L
    induction L with
    | nil => simp
    | cons a L ih =>
      intro S
      have h1 := ih (addK S a)
      have h2 : (addK S a).length ≤ S.length + 1 := by unfold addK; split <;> simp
      simp only [List.foldl_cons, List.length_cons]; omega
  simpa [setOf] using this L []
theorem of_ids (w : World) (F : Nat → Prop) (a : Option Addr) (c : Nat) (L : List ID) (h : (sl a c L).holds F w) :
    Gives Tryz.prog 108 [.slice a L.length c] w F (fun b : Nat => .map (some b)) (fun b => [.omap b (ents idV (sety (setOf L))) (setOf L).length]) := by
  have hL : L.length < 9223372036854775807 := by have := h.2.2.1; simp only [lim] at this; omega
  refine gives_of Tryz.func108 rfl Tryz.ntmps108 rfl rfl [.st (sl a c L)] (.start1 h) ?_
  repeat (first|refine Wa ?_|refine Wb ?_|refine Wc ?_|refine Wd ?_|refine We rfl ?_|refine Wf (by exact Vb) rfl ?_)
  refine JR.makeSet idV rfl ?_
  intro m
  repeat (first|refine Wa ?_|refine Wb ?_|refine Wc ?_|refine Wd ?_|refine We rfl ?_|refine Wf (by first|exact Va|exact Vb|exact Vf) rfl ?_|refine Wn ?_)
  refine JC.loop1 (fun k : Nat => [(3, .map (some m)), (7, .slice a L.length c), (8, .int .i64 (L.length : Int)), (9, .int .i64 (k : Int))])
    (fun k => [.omap m (ents idV (sety (setOf (L.take k)))) (setOf (L.take k)).length, .st (sl a c L)])
    (fun k => k ≤ L.length) (fun k => L.length - k) 0 (Nat.zero_le _) (by simp only [List.take_zero, setOf_nil]; exact inferInstance) ?_
  intro k hk
  repeat (first|refine Wa ?_|refine Wb ?_|refine Wc ?_|refine Wd ?_|refine We rfl ?_|refine Wf (by exact Vg) rfl ?_)
  refine JC.test (fun hlt => ?_) (fun hge => ?_)
  · have hlt' : k < L.length := by omega
    repeat (first|refine Wa ?_|refine Wb ?_|refine Wc ?_|refine We rfl ?_|refine Wl ?_|refine Wn ?_)
    refine JR.indexID rfl hlt' ?_
    intro b o
    repeat (first|refine Wa ?_|refine Wc ?_|refine Wd ?_|refine We rfl ?_|refine Wf (by first|exact Va|exact Vc) rfl ?_|(refine Wg rfl ?_; intro _)|refine Wi ?_)
    refine JR.setAdd L[k] (setOf_nodup _) ?_
    repeat (first|refine Wa ?_|refine Wc ?_|refine Wd ?_|refine We rfl ?_|refine Wf (by first|exact Va|exact Vk (by omega)) rfl ?_|refine Wr ?_)
    refine ⟨k + 1, by omega, by omega, ?_⟩
    rw [List.take_succ_eq_append_getElem hlt', setOf_snoc]
    exact inferInstance
  · repeat (first|refine Wa ?_|refine Wb ?_|refine Wc ?_|refine Wd ?_|refine We rfl ?_|refine Wf (by first|exact Va|exact Vb) rfl ?_|refine Wm ?_|refine Wo ?_|refine Wp ?_|refine Ws ?_)
    refine CT.done m rfl (fun w ho => ?_)
    rw [List.take_of_length_le (by omega)] at ho
    exact ho.ent
theorem swo_ids : Go.Sort.SWO (Go.Proofs.ltOf idCmp) where
  irrefl x := idLt_irrefl x
  trans x y z h1 h2 := idLt_trans h1 h2
  ntrans x y z h1 h2 := idLe_trans h2 h1
theorem sortFunc_ids {w0 w : World} {F : Nat → Prop} {Γ : List Fact} {a : Option Addr} {c el : Nat} {L : List ID} (ho : Hold w0 F (.res (buf a c el L) :: Γ) w) :
    Calls Tryz.prog 166 ⟨[.slice a L.length c, .func (.func 162) ⟨[]⟩ ⟨[]⟩]⟩ w fun x w' => ∃ y : Unit, x = .returned (.tuple ⟨[]⟩) ∧ Hold w0 F (.res (buf a c el (sortL L)) :: Γ) w' := by
  refine sort_hold ho (fun p cap w => Go.Proofs.AnyF.slices_SortFunc_none sortId p cap _ w) (fun b cap d hH hb hs => ?_)
  exact Go.Proofs.AnyQ.slices_SortFunc_total sortId 32 Tryz.isAgg81 Tryz.sizeOf81 idc idc_length (fun x => One.ok (cs := idc x)) idCmp swo_ids 162 #[] b 0 cap d w
    (Body.ok (P := Tryz.prog) (f := 162)) (fun m os dk _ x y => ord_ids (Go.Proofs.sortWorldK idc 32 w b 0 m dk os) x y) hH hb hs (fun x y h1 h2 => idLt_total h1 h2)
theorem nodup_le {S : List Nat} {n : Nat} (h : S.Nodup) (hlt : ∀ i ∈ S, i < n) : S.length ≤ n := by
  have hp : ((List.range n).filter (fun i => decide (i ∈ S))).Perm S := by
    refine (List.perm_ext_iff_of_nodup (List.nodup_range.filter _) h).2 fun i => ?_
    simp only [List.mem_filter, List.mem_range, decide_eq_true_eq]
    exact ⟨fun h => h.2, fun hi => ⟨hlt i hi, hi⟩⟩
  have := List.length_filter_le (fun i => decide (i ∈ S)) (List.range n)
  rw [hp.length_eq] at this
  simpa using this
theorem perm_range {S : List Nat} {n : Nat} (h : S.Nodup) (hlt : ∀ i ∈ S, i < n) (hall : ∀ i, i < n → i ∈ S) : S.Perm (List.range n) := by
  refine (List.perm_ext_iff_of_nodup h List.nodup_range).2 fun i => ?_
  rw [List.mem_range]
  exact ⟨hlt i, hall i⟩
theorem filterMap_range (L : List ID) : (List.range L.length).filterMap (L[·]?) = L := by
  induction L with
  | nil => rfl
  | cons a L ih =>
    rw [List.length_cons, List.range_succ_eq_map, List.filterMap_cons]
    simp only [List.getElem?_cons_zero, List.filterMap_map]
    congr 1
theorem list_ids (w : World) (F : Nat → Prop) (b : Nat) (L : List ID) (hnd : L.Nodup) (hl : L.length ≤ 34359738368) (h : (rmap b (ents idV (sety L)) L.length).holds F w) :
    GivesBuf Tryz.prog 109 [.map (some b)] w F 81 (sortL L) := by
  refine gives_of Tryz.func109 rfl Tryz.ntmps109 rfl rfl [.st (rmap b (ents idV (sety L)) L.length)] (.start1 h) ?_
  refine JC.buf_nil (α := ID) 81 ?_
  repeat (first|refine Wa ?_|refine Wb ?_|refine Wc ?_|refine Wd ?_|refine We rfl ?_|refine Wf (by first|exact Va|exact Vb) rfl ?_)
  refine JR.rangeS rfl ?_
  intro r
  repeat (first|refine Wa ?_|refine Wd ?_|refine Wn ?_)
  refine JC.loop4 (fun (S : List Nat) (out : List ID) p q => [(3, .slice p out.length q), (6, .pointer (some ⟨r, 0, none⟩))])
    (fun S out p q => [.res (buf p q 81 out), .obj r (.mapIter (some b) L.length S.toArray L.length), .st (rmap b (ents idV (sety L)) L.length)])
    (fun S out p q => S.Nodup ∧ (∀ i ∈ S, i < L.length) ∧ out = S.filterMap (L[·]?) ∧ out.length = S.length) (fun S _ _ _ => L.length - S.length) [] [] none 0 ⟨List.nodup_nil, by simp, rfl, rfl⟩ inferInstance ?_
  intro S out p q ⟨hS1, hS2, hout, hlen⟩
  have hSl : S.length ≤ L.length := nodup_le hS1 hS2
  repeat (first|refine Wb ?_|refine Wc ?_|refine We rfl ?_)
  refine JR.nextS rfl hS2 (fun hall => ?_) (fun j hj hjS => ?_)
  · repeat (first|refine Wa ?_|refine Wb ?_|refine Wc ?_|refine Wd ?_|refine We rfl ?_|refine Wf (by first|exact Va|exact Vq) rfl ?_|refine Wk ?_|refine Wm ?_|refine Wo ?_|refine Wp ?_)
    refine JR.callW (v := fun _ : Unit => .tuple ⟨[]⟩) rfl (fun w1 hw => sortFunc_ids hw) ?_
    intro _
    repeat (first|refine Wa ?_|refine Wb ?_|refine Wc ?_|refine Wd ?_|refine We rfl ?_|refine Wf (by first|exact Va|exact Vb) rfl ?_|refine Ws ?_)
    have hp : out.Perm L := by
      rw [hout]
      have h2 := (perm_range hS1 hS2 hall).filterMap (L[·]?)
      rwa [filterMap_range] at h2
    refine CT.done (p, q) ?_ (fun w ho => ?_)
    · simp only [packed, hp.length_eq, sortL_length]
    · rw [← sortL_perm hp]; exact ho.ent
  · repeat (first|refine Wa ?_|refine Wb ?_|refine Wc ?_|refine Wd ?_|refine We rfl ?_|refine Wf (by exact Vq) rfl ?_|refine Wj ?_|refine Wl ?_|refine Wn ?_)
    refine Wf (OpV.entryS hj) rfl ?_
    repeat (first|refine Wa ?_|refine Wc ?_|refine Wd ?_|refine We rfl ?_|refine Wf (by first|exact Va|exact Vc|exact Vq) rfl ?_|(refine Wg rfl ?_; intro _)|refine Wi ?_|(refine Ww rfl ⟨rfl, by decide, by decide, by decide⟩ ?_; intro _))
    have hlt : S.length < L.length := by
      have := nodup_le (S := S ++ [j]) (n := L.length) (List.nodup_append.2 ⟨hS1, by simp, fun x hx y hy => by simp at hy; subst hy; exact fun e => hjS (e ▸ hx)⟩) (fun i hi => by
        rcases List.mem_append.1 hi with hi | hi
        · exact hS2 i hi
        · simp at hi; subst hi; exact hj)
      simp at this; omega
    refine JR.append1 rfl (by exact ⟨rfl, rfl, by decide⟩) (by omega) ?_
    intro a2 c2
    repeat (first|refine Wa ?_|refine Wd ?_|refine We rfl ?_|refine Wf (by exact Vb) rfl ?_|refine Wr ?_)
    refine ⟨S ++ [j], out ++ [L[j]], a2, c2, ⟨List.nodup_append.2 ⟨hS1, by simp, fun x hx y hy => by simp at hy; subst hy; exact fun e => hjS (e ▸ hx)⟩, fun i hi => ?_, ?_, by simp [hlen]⟩, by simp; omega, inferInstance⟩
    · rcases List.mem_append.1 hi with hi | hi
      · exact hS2 i hi
      · simp at hi; subst hi; exact hj
    · simp [hout, hj]
def pickIds (b : List ID) (want : Bool) (a : List ID) : List ID := a.filter (fun x => decide (x ∈ b) == want)
theorem pickIds_nil (b : List ID) (want : Bool) : pickIds b want [] = [] := rfl
theorem pickIds_take (b : List ID) (want : Bool) (L : List ID) (j : Nat) (h : j < L.length) : pickIds b want (L.take (j + 1)) = if decide (L[j] ∈ b) = want then pickIds b want (L.take j) ++ [L[j]] else pickIds b want (L.take j) := by
  rw [List.take_succ_eq_append_getElem h]
  simp only [pickIds, List.filter_append, List.filter_cons, List.filter_nil, beq_iff_eq]
  split <;> simp
theorem pickIds_length (b : List ID) (want : Bool) (L : List ID) : (pickIds b want L).length ≤ L.length := List.length_filter_le _ _
def someIds (a b : List ID) (want : Bool) : List ID := sortL (setOf (pickIds b want a))
theorem some_ids (w : World) (F : Nat → Prop) (a b : Option Addr) (c k : Nat) (L M : List ID) (want : Bool) (h : (sl a c L).holds F w) (h' : (sl b k M).holds F w) (hl : L.length ≤ 34359738368) :
    GivesBuf Tryz.prog 103 [.slice a L.length c, .slice b M.length k, .bool want] w F 81 (someIds L M want) := by
  refine gives_of Tryz.func103 rfl Tryz.ntmps103 rfl rfl [.st (sl a c L), .st (sl b k M)] (.start2 h h') ?_
  repeat (first|refine Wa ?_|refine Wb ?_|refine Wc ?_|refine Wd ?_|refine We rfl ?_|refine Wf (by first|exact Va|exact Vb) rfl ?_)
  refine JR.call1 rfl (fun w1 hw => of_ids w1 _ b k M hw.get) ?_
  intro m
  repeat (refine We rfl ?_)
  refine JR.makeSet idV rfl ?_
  intro u
  repeat (first|refine Wa ?_|refine Wb ?_|refine Wc ?_|refine Wd ?_|refine We rfl ?_|refine Wf (by first|exact Va|exact Vb|exact Vf) rfl ?_|refine Wn ?_)
  refine JC.loop1 (fun j : Nat => [(2, .bool want), (7, .map (some m)), (8, .map (some u)), (14, .slice a L.length c), (15, .int .i64 (L.length : Int)), (16, .int .i64 (j : Int))])
    (fun j => [.omap u (ents idV (sety (setOf (pickIds M want (L.take j))))) (setOf (pickIds M want (L.take j))).length, .omap m (ents idV (sety (setOf M))) (setOf M).length, .st (sl a c L)])
    (fun j => j ≤ L.length) (fun j => L.length - j) 0 (Nat.zero_le _) (by simp only [List.take_zero, pickIds_nil, setOf_nil]; exact inferInstance) ?_
  intro j hj
  repeat (first|refine Wa ?_|refine Wb ?_|refine Wc ?_|refine Wd ?_|refine We rfl ?_|refine Wf (by exact Vg) rfl ?_)
  refine JC.test (fun hlt => ?_) (fun hge => ?_)
  · have hlt' : j < L.length := by omega
    repeat (first|refine Wa ?_|refine Wb ?_|refine Wc ?_|refine We rfl ?_|refine Wl ?_|refine Wn ?_)
    refine JR.indexID rfl hlt' ?_
    intro b1 o1
    repeat (first|refine Wa ?_|refine Wb ?_|refine Wc ?_|refine Wd ?_|refine We rfl ?_|refine Wf (by first|exact Va|exact Vc) rfl ?_|(refine Wg rfl ?_; intro _)|refine Wi ?_)
    refine Wf (OpV.setHas L[j] (setOf_nodup _)) rfl ?_
    repeat (first|refine Wa ?_|refine Wd ?_|refine We rfl ?_|refine Wf (by first|exact Va|exact VE) rfl ?_)
    refine JC.test (fun hy => ?_) (fun hn => ?_)
    · repeat (first|refine Wc ?_|refine We rfl ?_|refine Wf (by first|exact Va|exact Vc) rfl ?_)
      refine JR.setAdd L[j] (setOf_nodup _) ?_
      repeat (first|refine Wa ?_|refine Wc ?_|refine Wd ?_|refine We rfl ?_|refine Wf (by first|exact Va|exact Vk (by omega)) rfl ?_|refine Wr ?_)
      refine ⟨j + 1, by omega, by omega, ?_⟩
      have : decide (L[j] ∈ M) = want := by simpa [mem_setOf] using hy
      rw [pickIds_take M want L j hlt', if_pos this, setOf_snoc]
      exact inferInstance
    · repeat (first|refine Wa ?_|refine Wc ?_|refine Wd ?_|refine We rfl ?_|refine Wf (by first|exact Va|exact Vk (by omega)) rfl ?_|refine Wl ?_|refine Wr ?_)
      refine ⟨j + 1, by omega, by omega, ?_⟩
      have : ¬ decide (L[j] ∈ M) = want := by simpa [mem_setOf] using hn
      rw [pickIds_take M want L j hlt', if_neg this]
      exact inferInstance
  · refine JC.more (fun w ho => ho.pubMap) ?_
    repeat (first|refine Wa ?_|refine Wb ?_|refine Wc ?_|refine We rfl ?_|refine Wf (by exact Va) rfl ?_|refine Wm ?_|refine Wo ?_|refine Wp ?_)
    refine JR.callBuf rfl (fun w1 hw => list_ids w1 _ u (setOf (pickIds M want (L.take j))) (setOf_nodup _) (Nat.le_trans (setOf_length _) (Nat.le_trans (pickIds_length _ _ _) (Nat.le_trans (List.length_take_le' _ _) hl))) hw.get) ?_
    intro a2 c2
    repeat (first|refine Wa ?_|refine Wd ?_|refine We rfl ?_|refine Wf (by exact Vb) rfl ?_|refine Ws ?_)
    have : L.take j = L := List.take_of_length_le (by omega)
    rw [this]
    exact CT.done (a2, c2) rfl (fun w ho => by unfold someIds; exact ho.ent)
theorem without_ids (w : World) (F : Nat → Prop) (a b : Option Addr) (c k : Nat) (L M : List ID) (h : (sl a c L).holds F w) (h' : (sl b k M).holds F w) (hl : L.length ≤ 34359738368) :
    GivesBuf Tryz.prog 42 [.slice a L.length c, .slice b M.length k] w F 81 (someIds L M false) := by
  refine gives_of Tryz.func42 rfl Tryz.ntmps42 rfl rfl [.st (sl a c L), .st (sl b k M)] (.start2 h h') ?_
  repeat (first|refine Wa ?_|refine Wb ?_|refine Wc ?_|refine Wd ?_|refine We rfl ?_|refine Wf (by first|exact Va|exact Vb) rfl ?_)
  refine JR.callBuf rfl (fun w1 hw => some_ids w1 _ a b c k L M false hw.get hw.get hl) ?_
  intro a2 c2
  repeat (first|refine Wa ?_|refine Wd ?_|refine We rfl ?_|refine Wf (by exact Vb) rfl ?_|refine Ws ?_)
  exact CT.done (a2, c2) rfl (fun w ho => ho.ent)
abbrev opV (o : Op_) : Value := .agg ⟨[.int .i64 o.kind, .string o.key, .string o.elem, .int .i64 o.n]⟩
def Tests (P : Program) (fid : FuncId) (p : Op_ → Bool) : Prop :=
  ∀ (w : World) (G : Nat → Prop) (o : Op_), o.key.size < 4611686018427387904 → o.elem.size < 4611686018427387904 → GivesV P fid [opV o] w G (.bool (p o))
def mayInc (o : Op_) : Bool := decide (o.n ≠ 0) && decide (-1048576 ≤ o.n) && decide (o.n ≤ 1048576) && decide (o.elem = ByteArray.mk #[])
def mayName (o : Op_) : Bool := decide (o.n = 0) && keyOk o.elem
theorem kinds1 : Tests Tryz.prog 217 mayInc := by
  intro w F o h1 h2
  refine gives_of Tryz.func217 rfl Tryz.ntmps217 rfl rfl [] (.start w F) ?_
  repeat (first|refine Wa ?_|refine Wb ?_|refine Wc ?_|refine Wd ?_|refine We rfl ?_|refine Wf (by first|exact Va|exact Vb|exact Vc|exact Vd|exact Vm) rfl ?_|(refine Wh rfl ?_; intro _))
  refine JO.test 6 (fun h => ?_) (fun h => ?_)
  · repeat (first|refine We rfl ?_|refine Wf (by first|exact Va|exact Vc|exact Vd|exact Vi|exact Vp) rfl ?_)
    refine JO.test 11 (fun h => ?_) (fun h => ?_)
    · repeat (first|refine We rfl ?_|refine Wf (by first|exact Va|exact Vc|exact Vd|exact Vi|exact Vn) rfl ?_)
      refine JO.test 16 (fun h => ?_) (fun h => ?_)
      · repeat (first|refine Wa ?_|refine Wd ?_|refine We rfl ?_|refine Wf (by first|exact Vb|exact Vc|exact Vd|exact Vi|exact VB) rfl ?_|refine Ws ?_)
        refine CT.done () ?_ (fun w ho => ho.ent)
        simp [packed, mayInc, *]
      · repeat (first|refine Wa ?_|refine Wd ?_|refine We rfl ?_|refine Wf (by first|exact Vb|exact Vj) rfl ?_|refine Ws ?_|refine Wv rfl rfl ?_)
        refine CT.done () ?_ (fun w ho => ho.ent)
        simp [packed, mayInc, *]
    · repeat (first|refine Wa ?_|refine Wd ?_|refine We rfl ?_|refine Wf (by first|exact Va|exact Vb|exact Vj) rfl ?_|refine Ws ?_|refine Wv rfl rfl ?_)
      refine CT.done () ?_ (fun w ho => ho.ent)
      simp [packed, mayInc, *]
  · repeat (first|refine Wa ?_|refine Wd ?_|refine We rfl ?_|refine Wf (by first|exact Va|exact Vb|exact Vj) rfl ?_|refine Ws ?_|refine Wv rfl rfl ?_)
    refine CT.done () ?_ (fun w ho => ho.ent)
    simp [packed, mayInc, *]
theorem kinds4 : Tests Tryz.prog 221 mayName := by
  intro w F o h1 h2
  refine gives_of Tryz.func221 rfl Tryz.ntmps221 rfl rfl [] (.start w F) ?_
  repeat (first|refine Wa ?_|refine Wb ?_|refine Wc ?_|refine Wd ?_|refine We rfl ?_|refine Wf (by first|exact Va|exact Vb|exact Vc|exact Vd|exact Vl) rfl ?_|(refine Wh rfl ?_; intro _))
  refine JO.test 6 (fun h => ?_) (fun h => ?_)
  · repeat (first|refine We rfl ?_|refine Wf (by first|exact Vc|exact Vd) rfl ?_)
    refine JR.callV rfl (fun w1 hw => key_ops w1 _ _ h2) ?_
    repeat (first|refine Wa ?_|refine Wd ?_|refine We rfl ?_|refine Wf (by first|exact Vb|exact Vi) rfl ?_|refine Ws ?_)
    refine CT.done () ?_ (fun w ho => ho.ent)
    simp [packed, mayName, *]
  · repeat (first|refine Wa ?_|refine Wd ?_|refine We rfl ?_|refine Wf (by first|exact Vb|exact Vj) rfl ?_|refine Ws ?_|refine Wv rfl rfl ?_)
    refine CT.done () ?_ (fun w ho => ho.ent)
    simp [packed, mayName, *]
abbrev fnV (f : FuncId) : Value := .func (.func f) ⟨[]⟩ ⟨[]⟩
abbrev countsV : Value := .agg ⟨[fnV 217, fnV 218, fnV 219]⟩
abbrev namesV : Value := .agg ⟨[fnV 221, fnV 222, fnV 223]⟩
def kindsM : List (Int × Value) := [] ++ [(0, countsV)] ++ [(1, namesV)] ++ [(2, namesV)] ++ [(3, namesV)]
theorem kinds_ops (w : World) (F : Nat → Prop) : Gives Tryz.prog 176 [] w F (fun b : Nat => .map (some b)) (fun b => [.omap b (ents intV kindsM) kindsM.length]) := by
  refine gives_of Tryz.func176 rfl Tryz.ntmps176 rfl rfl [] (.start w F) ?_
  repeat (first|refine Wa ?_|refine Wb ?_|refine Wc ?_|refine Wd ?_|refine We rfl ?_|refine Wf (by exact Vb) rfl ?_)
  refine Wf (OpV.build [fnV 217, fnV 218, fnV 219] (by kernel_rfl)) rfl ?_
  repeat (first|refine Wa ?_|refine Wb ?_|refine Wc ?_|refine Wd ?_|refine We rfl ?_|(refine Wg rfl ?_; intro _)|refine Wi ?_)
  refine Wf (OpV.build [fnV 221, fnV 222, fnV 223] (by kernel_rfl)) rfl ?_
  repeat (first|refine Wa ?_|refine Wb ?_|refine Wc ?_|refine Wd ?_|refine We rfl ?_|(refine Wg rfl ?_; intro _)|refine Wi ?_)
  refine JR.makeMap intV rfl ?_
  intro m
  repeat (first|refine We rfl ?_|refine Wf (by exact Vc) rfl ?_)
  refine JR.insert (0 : Int) (by decide) rfl ?_
  repeat (first|refine We rfl ?_|refine Wf (by exact Vc) rfl ?_)
  refine JR.insert (1 : Int) (by simp) (by simp [plc]) ?_
  repeat (first|refine We rfl ?_|refine Wf (by exact Vc) rfl ?_)
  refine JR.insert (2 : Int) (by simp) (by simp [plc]) ?_
  repeat (first|refine We rfl ?_|refine Wf (by exact Vc) rfl ?_)
  refine JR.insert (3 : Int) (by simp) (by simp [plc]) ?_
  repeat (first|refine Wa ?_|refine Wd ?_|refine We rfl ?_|refine Wf (by first|exact Va|exact Vb) rfl ?_|refine Ws ?_)
  exact CT.done m rfl (fun w ho => by unfold kindsM; exact ho.ent)
abbrev noneV : Value := .agg ⟨[.nilFunc, .nilFunc, .nilFunc]⟩
theorem kindsM_nodup : (kindsM.map (·.1)).Nodup := by decide
theorem kindsM_look (k : Int) : (k = 0 ∧ (gotten kindsM k).getD noneV = countsV ∧ (gotten kindsM k).isSome = true) ∨ ((k = 1 ∨ k = 2 ∨ k = 3) ∧ (gotten kindsM k).getD noneV = namesV ∧ (gotten kindsM k).isSome = true) ∨
    ((¬ k = 0 ∧ ¬ (k = 1 ∨ k = 2 ∨ k = 3)) ∧ (gotten kindsM k).getD noneV = noneV ∧ (gotten kindsM k).isSome = false) := by
  by_cases h0 : k = 0
  · subst h0; exact .inl ⟨rfl, rfl, rfl⟩
  by_cases h1 : k = 1
  · subst h1; exact .inr (.inl ⟨by simp, rfl, rfl⟩)
  by_cases h2 : k = 2
  · subst h2; exact .inr (.inl ⟨by simp, rfl, rfl⟩)
  by_cases h3 : k = 3
  · subst h3; exact .inr (.inl ⟨by simp, rfl, rfl⟩)
  refine .inr (.inr ⟨⟨h0, by simp [h1, h2, h3]⟩, ?_⟩)
  have : gotten kindsM k = none := by
    simp [gotten, kindsM, Ne.symm h0, Ne.symm h1, Ne.symm h2, Ne.symm h3]
  rw [this]; exact ⟨rfl, rfl⟩
structure KindOf (f1 : Value) (is : Bool) (o : Op_) : Prop where
  no : is = false → opMay o = false
  yes : is = true → ∃ (fid : FuncId) (_ : Body Tryz.prog fid) (p : Op_ → Bool), f1 = fnV fid ∧ Tests Tryz.prog fid p ∧ opMay o = (keyOk o.key && p o)
theorem may_ops : Tests Tryz.prog 160 opMay := by
  intro w F o hk he
  obtain ⟨f1, f2, f3, is, hone, h1, h2, hK⟩ : ∃ f1 f2 f3 is, One [f1, f2, f3] ∧ (gotten kindsM o.kind).getD noneV = .agg ⟨[f1, f2, f3]⟩ ∧ (gotten kindsM o.kind).isSome = is ∧ KindOf f1 is o := by
    rcases kindsM_look o.kind with ⟨h0, h1, h2⟩ | ⟨h0, h1, h2⟩ | ⟨h0, h1, h2⟩
    · refine ⟨_, _, _, _, inferInstance, h1, h2, nofun, fun _ => ⟨_, inferInstance, _, rfl, kinds1, ?_⟩⟩
      simp only [opMay, h0, if_true, mayInc]; rfl
    · have h3 : ¬ o.kind = 0 := by omega
      refine ⟨_, _, _, _, inferInstance, h1, h2, nofun, fun _ => ⟨_, inferInstance, _, rfl, kinds4, ?_⟩⟩
      simp only [opMay, h3, if_false, h0, if_true, mayName]
    · exact ⟨_, _, _, _, inferInstance, h1, h2, fun _ => by simp only [opMay, h0.1, if_false, h0.2], nofun⟩
  refine gives_of Tryz.func160 rfl Tryz.ntmps160 rfl rfl [] (.start w F) ?_
  repeat (first|refine Wa ?_|refine Wb ?_|refine Wc ?_|refine Wd ?_|refine We rfl ?_|refine Wf (by exact Vb) rfl ?_|(refine Wh rfl ?_; intro _))
  rename_i bo
  refine JC.draw 8 mixed ?_
  refine JM.take 1 rfl (by kernel_rfl) rfl Vd rfl rfl ?_
  refine JM.take 2 rfl (by kernel_rfl) rfl Vc rfl rfl ?_
  refine JM.two 0 7 (by kernel_rfl) rfl rfl rfl rfl rfl rfl rfl rfl (JS.call1 rfl (fun w1 hw => kinds_ops w1 _) fun m => ?_) (JS.alloc rfl fun kb => JM.one 0 (by kernel_rfl) rfl rfl rfl rfl (JS.call1 rfl (fun w1 hw => kinds_ops w1 _) fun m => ?_))
  all_goals
    refine JM.take 3 rfl (by kernel_rfl) rfl (OpV.lookupOk o.kind kindsM_nodup h1 h2) rfl rfl ?_
    refine JM.take 4 rfl (by kernel_rfl) rfl Va rfl rfl ?_
    refine JM.take 5 rfl (by kernel_rfl) rfl Vq rfl rfl ?_
  · refine JM.two 6 7 (by kernel_rfl) rfl rfl rfl rfl rfl rfl rfl rfl (JS.val Vq rfl ?_) (JS.alloc rfl fun kb => ?_)
    · refine JM.one 7 (by kernel_rfl) rfl rfl rfl rfl (JS.alloc rfl fun kb => ?_)
      refine JM.last 8 (by kernel_rfl) rfl rfl rfl (Wi (Wd ⟨rfl, ?_⟩))
      refine JM.last 9 (by kernel_rfl) rfl rfl rfl (Wf Vb rfl (Wd ⟨rfl, ?_⟩))
      refine JM.nil (by kernel_rfl) ?_
      refine Wa ?_
      refine JC.ent (e' := [(1, .pointer (some ⟨bo, 0, none⟩)), (3, .pointer (some ⟨kb, 0, none⟩)), (4, .bool is)]) (Γ' := [.own kb 197 [f1, f2, f3], .own bo 27 [.int .i64 o.kind, .string o.key, .string o.elem, .int .i64 o.n]]) inferInstance ?_
      cases is with
      | false =>
        repeat (first|refine Wa ?_|refine Wb ?_|refine Wc ?_|refine Wd ?_|refine We rfl ?_|refine Wf (by first|exact Va|exact Vb|exact Vj) rfl ?_|refine Ws ?_|refine Wv rfl rfl ?_)
        refine CT.done () ?_ (fun w ho => ho.ent)
        simp only [packed, hK.no rfl]
      | true =>
        obtain ⟨fid, hbody, p, rfl, hp, hmay⟩ := hK.yes rfl
        repeat (first|refine Wb ?_|refine Wc ?_|refine We rfl ?_|refine Wf (by first|exact Va|exact Vc|exact Vd) rfl ?_)
        refine JR.callV rfl (fun w1 hw => key_ops w1 _ _ hk) ?_
        repeat (first|refine We rfl ?_|refine Wf (by first|exact Va|exact Vi) rfl ?_)
        refine JO.test 18 (fun hy => ?_) (fun hn => ?_)
        · repeat (first|refine We rfl ?_|refine Wf (by first|exact Vc|exact Vd) rfl ?_)
          refine JR.callV rfl (fun w1 hw => hp w1 _ o hk he) ?_
          repeat (first|refine Wa ?_|refine Wd ?_|refine We rfl ?_|refine Wf (by first|exact Vb|exact Vi) rfl ?_|refine Ws ?_)
          refine CT.done () ?_ (fun w ho => ho.ent)
          simp [packed, hmay, hy]
        · repeat (first|refine Wa ?_|refine Wd ?_|refine We rfl ?_|refine Wf (by first|exact Vb|exact Vj) rfl ?_|refine Ws ?_|refine Wv rfl rfl ?_)
          refine CT.done () ?_ (fun w ho => ho.ent)
          simp [packed, hmay, hn]
    · refine JM.mix 6 8 (by kernel_rfl) rfl rfl rfl rfl rfl rfl rfl (JS.val Vq rfl ?_) (Wi (Wd ⟨rfl, ?_⟩))
      · refine JM.last 8 (by kernel_rfl) rfl rfl rfl (Wi (Wd ⟨rfl, ?_⟩))
        refine JM.last 9 (by kernel_rfl) rfl rfl rfl (Wf Vb rfl (Wd ⟨rfl, ?_⟩))
        refine JM.nil (by kernel_rfl) ?_
        refine Wa ?_
        refine JC.ent (e' := [(1, .pointer (some ⟨bo, 0, none⟩)), (3, .pointer (some ⟨kb, 0, none⟩)), (4, .bool is)]) (Γ' := [.own kb 197 [f1, f2, f3], .own bo 27 [.int .i64 o.kind, .string o.key, .string o.elem, .int .i64 o.n]]) inferInstance ?_
        cases is with
        | false =>
          repeat (first|refine Wa ?_|refine Wb ?_|refine Wc ?_|refine Wd ?_|refine We rfl ?_|refine Wf (by first|exact Va|exact Vb|exact Vj) rfl ?_|refine Ws ?_|refine Wv rfl rfl ?_)
          refine CT.done () ?_ (fun w ho => ho.ent)
          simp only [packed, hK.no rfl]
        | true =>
          obtain ⟨fid, hbody, p, rfl, hp, hmay⟩ := hK.yes rfl
          repeat (first|refine Wb ?_|refine Wc ?_|refine We rfl ?_|refine Wf (by first|exact Va|exact Vc|exact Vd) rfl ?_)
          refine JR.callV rfl (fun w1 hw => key_ops w1 _ _ hk) ?_
          repeat (first|refine We rfl ?_|refine Wf (by first|exact Va|exact Vi) rfl ?_)
          refine JO.test 18 (fun hy => ?_) (fun hn => ?_)
          · repeat (first|refine We rfl ?_|refine Wf (by first|exact Vc|exact Vd) rfl ?_)
            refine JR.callV rfl (fun w1 hw => hp w1 _ o hk he) ?_
            repeat (first|refine Wa ?_|refine Wd ?_|refine We rfl ?_|refine Wf (by first|exact Vb|exact Vi) rfl ?_|refine Ws ?_)
            refine CT.done () ?_ (fun w ho => ho.ent)
            simp [packed, hmay, hy]
          · repeat (first|refine Wa ?_|refine Wd ?_|refine We rfl ?_|refine Wf (by first|exact Vb|exact Vj) rfl ?_|refine Ws ?_|refine Wv rfl rfl ?_)
            refine CT.done () ?_ (fun w ho => ho.ent)
            simp [packed, hmay, hn]
      · refine JM.one 6 (by kernel_rfl) rfl rfl rfl rfl (JS.val Vq rfl ?_)
        refine JM.last 9 (by kernel_rfl) rfl rfl rfl (Wf Vb rfl (Wd ⟨rfl, ?_⟩))
        refine JM.nil (by kernel_rfl) ?_
        refine Wa ?_
        refine JC.ent (e' := [(1, .pointer (some ⟨bo, 0, none⟩)), (3, .pointer (some ⟨kb, 0, none⟩)), (4, .bool is)]) (Γ' := [.own kb 197 [f1, f2, f3], .own bo 27 [.int .i64 o.kind, .string o.key, .string o.elem, .int .i64 o.n]]) inferInstance ?_
        cases is with
        | false =>
          repeat (first|refine Wa ?_|refine Wb ?_|refine Wc ?_|refine Wd ?_|refine We rfl ?_|refine Wf (by first|exact Va|exact Vb|exact Vj) rfl ?_|refine Ws ?_|refine Wv rfl rfl ?_)
          refine CT.done () ?_ (fun w ho => ho.ent)
          simp only [packed, hK.no rfl]
        | true =>
          obtain ⟨fid, hbody, p, rfl, hp, hmay⟩ := hK.yes rfl
          repeat (first|refine Wb ?_|refine Wc ?_|refine We rfl ?_|refine Wf (by first|exact Va|exact Vc|exact Vd) rfl ?_)
          refine JR.callV rfl (fun w1 hw => key_ops w1 _ _ hk) ?_
          repeat (first|refine We rfl ?_|refine Wf (by first|exact Va|exact Vi) rfl ?_)
          refine JO.test 18 (fun hy => ?_) (fun hn => ?_)
          · repeat (first|refine We rfl ?_|refine Wf (by first|exact Vc|exact Vd) rfl ?_)
            refine JR.callV rfl (fun w1 hw => hp w1 _ o hk he) ?_
            repeat (first|refine Wa ?_|refine Wd ?_|refine We rfl ?_|refine Wf (by first|exact Vb|exact Vi) rfl ?_|refine Ws ?_)
            refine CT.done () ?_ (fun w ho => ho.ent)
            simp [packed, hmay, hy]
          · repeat (first|refine Wa ?_|refine Wd ?_|refine We rfl ?_|refine Wf (by first|exact Vb|exact Vj) rfl ?_|refine Ws ?_|refine Wv rfl rfl ?_)
            refine CT.done () ?_ (fun w ho => ho.ent)
            simp [packed, hmay, hn]
  · refine JM.mix 6 8 (by kernel_rfl) rfl rfl rfl rfl rfl rfl rfl (JS.val Vq rfl ?_) (Wi (Wd ⟨rfl, ?_⟩))
    · refine JM.last 8 (by kernel_rfl) rfl rfl rfl (Wi (Wd ⟨rfl, ?_⟩))
      refine JM.last 9 (by kernel_rfl) rfl rfl rfl (Wf Vb rfl (Wd ⟨rfl, ?_⟩))
      refine JM.nil (by kernel_rfl) ?_
      refine Wa ?_
      refine JC.ent (e' := [(1, .pointer (some ⟨bo, 0, none⟩)), (3, .pointer (some ⟨kb, 0, none⟩)), (4, .bool is)]) (Γ' := [.own kb 197 [f1, f2, f3], .own bo 27 [.int .i64 o.kind, .string o.key, .string o.elem, .int .i64 o.n]]) inferInstance ?_
      cases is with
      | false =>
        repeat (first|refine Wa ?_|refine Wb ?_|refine Wc ?_|refine Wd ?_|refine We rfl ?_|refine Wf (by first|exact Va|exact Vb|exact Vj) rfl ?_|refine Ws ?_|refine Wv rfl rfl ?_)
        refine CT.done () ?_ (fun w ho => ho.ent)
        simp only [packed, hK.no rfl]
      | true =>
        obtain ⟨fid, hbody, p, rfl, hp, hmay⟩ := hK.yes rfl
        repeat (first|refine Wb ?_|refine Wc ?_|refine We rfl ?_|refine Wf (by first|exact Va|exact Vc|exact Vd) rfl ?_)
        refine JR.callV rfl (fun w1 hw => key_ops w1 _ _ hk) ?_
        repeat (first|refine We rfl ?_|refine Wf (by first|exact Va|exact Vi) rfl ?_)
        refine JO.test 18 (fun hy => ?_) (fun hn => ?_)
        · repeat (first|refine We rfl ?_|refine Wf (by first|exact Vc|exact Vd) rfl ?_)
          refine JR.callV rfl (fun w1 hw => hp w1 _ o hk he) ?_
          repeat (first|refine Wa ?_|refine Wd ?_|refine We rfl ?_|refine Wf (by first|exact Vb|exact Vi) rfl ?_|refine Ws ?_)
          refine CT.done () ?_ (fun w ho => ho.ent)
          simp [packed, hmay, hy]
        · repeat (first|refine Wa ?_|refine Wd ?_|refine We rfl ?_|refine Wf (by first|exact Vb|exact Vj) rfl ?_|refine Ws ?_|refine Wv rfl rfl ?_)
          refine CT.done () ?_ (fun w ho => ho.ent)
          simp [packed, hmay, hn]
    · refine JM.one 6 (by kernel_rfl) rfl rfl rfl rfl (JS.val Vq rfl ?_)
      refine JM.last 9 (by kernel_rfl) rfl rfl rfl (Wf Vb rfl (Wd ⟨rfl, ?_⟩))
      refine JM.nil (by kernel_rfl) ?_
      refine Wa ?_
      refine JC.ent (e' := [(1, .pointer (some ⟨bo, 0, none⟩)), (3, .pointer (some ⟨kb, 0, none⟩)), (4, .bool is)]) (Γ' := [.own kb 197 [f1, f2, f3], .own bo 27 [.int .i64 o.kind, .string o.key, .string o.elem, .int .i64 o.n]]) inferInstance ?_
      cases is with
      | false =>
        repeat (first|refine Wa ?_|refine Wb ?_|refine Wc ?_|refine Wd ?_|refine We rfl ?_|refine Wf (by first|exact Va|exact Vb|exact Vj) rfl ?_|refine Ws ?_|refine Wv rfl rfl ?_)
        refine CT.done () ?_ (fun w ho => ho.ent)
        simp only [packed, hK.no rfl]
      | true =>
        obtain ⟨fid, hbody, p, rfl, hp, hmay⟩ := hK.yes rfl
        repeat (first|refine Wb ?_|refine Wc ?_|refine We rfl ?_|refine Wf (by first|exact Va|exact Vc|exact Vd) rfl ?_)
        refine JR.callV rfl (fun w1 hw => key_ops w1 _ _ hk) ?_
        repeat (first|refine We rfl ?_|refine Wf (by first|exact Va|exact Vi) rfl ?_)
        refine JO.test 18 (fun hy => ?_) (fun hn => ?_)
        · repeat (first|refine We rfl ?_|refine Wf (by first|exact Vc|exact Vd) rfl ?_)
          refine JR.callV rfl (fun w1 hw => hp w1 _ o hk he) ?_
          repeat (first|refine Wa ?_|refine Wd ?_|refine We rfl ?_|refine Wf (by first|exact Vb|exact Vi) rfl ?_|refine Ws ?_)
          refine CT.done () ?_ (fun w ho => ho.ent)
          simp [packed, hmay, hy]
        · repeat (first|refine Wa ?_|refine Wd ?_|refine We rfl ?_|refine Wf (by first|exact Vb|exact Vj) rfl ?_|refine Ws ?_|refine Wv rfl rfl ?_)
          refine CT.done () ?_ (fun w ho => ho.ent)
          simp [packed, hmay, hn]
end Ab
end Go.Proofs.YtdgeffphifgflaaGreat
namespace Go.Proofs.YtdgeffphifgflaaGreat
namespace Ab
open Go Go.RowKit
set_option linter.unusedVariables false
set_option linter.unusedSimpArgs false
set_option synthInstance.maxSize 4000
set_option synthInstance.maxHeartbeats 400000
attribute [local irreducible] JC JO JR JQ andThen inBlock OpV Gives retTo JM JS
abbrev commitV (c : Commit) (a : Option Addr) (k : Nat) : Value :=
  .agg ⟨[.int .i64 c.ev.node, .int .i64 c.ev.seq, .int .i64 c.gen, .slice a c.parents.length k, .int .i64 c.op.kind, .string c.op.key, .string c.op.elem, .int .i64 c.op.n]⟩
def texts (c : Commit) : Prop := c.op.key.size < 4611686018427387904 ∧ c.op.elem.size < 4611686018427387904
set_option maxHeartbeats 1000000 in
theorem may_commit (w : World) (F : Nat → Prop) (c : Commit) (a : Option Addr) (k : Nat) (h : (sl a k c.parents).holds F w) (ht : texts c) :
    GivesV Tryz.prog 100 [commitV c a k] w F (.bool (may c)) := by
  have hL : c.parents.length < 9223372036854775807 := by have := h.2.2.1; simp only [lim] at this; omega
  refine gives_of Tryz.func100 rfl Tryz.ntmps100 rfl rfl [.st (sl a k c.parents)] (.start1 h) ?_
  repeat (first|refine Wa ?_|refine Wb ?_|refine Wc ?_|refine Wd ?_|refine We rfl ?_|refine Wf (by first|exact Vb|exact Vc|exact Vd|exact Vf) rfl ?_|(refine Wh rfl ?_; intro _))
  refine JR.callV rfl (fun w1 hw => in_commit w1 _ _ _ _) ?_
  repeat (first|refine We rfl ?_|refine Wf (by first|exact Va|exact Vh) rfl ?_)
  refine JO.test 11 (fun h1 => ?_) (fun h1 => ?_)
  · repeat (first|refine Wa ?_|refine Wb ?_|refine Wc ?_|refine Wd ?_|refine We rfl ?_|refine Wf (by first|exact Va|exact Vb|exact Vi) rfl ?_|refine Wj ?_|refine Ws ?_|refine Wt ?_|refine Wv rfl rfl ?_)
    refine CT.done () ?_ (fun w ho => ho.ent)
    simp [packed, may, h1]
  have h1 : inB c.gen 1 1048576 = true := Classical.not_not.1 h1
  repeat (first|refine We rfl ?_|refine Wf (by first|exact Va|exact Vj|exact Vo) rfl ?_)
  refine JO.test 15 (fun h2 => ?_) (fun h2 => ?_)
  · repeat (first|refine Wa ?_|refine Wb ?_|refine Wc ?_|refine Wd ?_|refine We rfl ?_|refine Wf (by first|exact Va|exact Vb|exact Vi) rfl ?_|refine Wj ?_|refine Ws ?_|refine Wt ?_|refine Wv rfl rfl ?_)
    refine CT.done () ?_ (fun w ho => ho.ent)
    have : 8 < c.parents.length := by omega
    simp [packed, may, this]
  repeat (first|refine We rfl ?_|refine Wf (by first|exact Vc|exact Vd) rfl ?_)
  refine JR.callV rfl (fun w1 hw => rises_ids w1 _ a k _ hw.get) ?_
  repeat (first|refine We rfl ?_|refine Wf (by first|exact Va|exact Vh|exact Vj) rfl ?_)
  refine JO.test 21 (fun h3 => ?_) (fun h3 => ?_)
  · repeat (first|refine Wa ?_|refine Wb ?_|refine Wc ?_|refine Wd ?_|refine We rfl ?_|refine Wf (by first|exact Vb|exact Vi) rfl ?_|refine Wj ?_|refine Ws ?_|refine Wt ?_|refine Wv rfl rfl ?_)
    refine CT.done () ?_ (fun w ho => ho.ent)
    simp [packed, may, h3]
  have h3 : rises c.parents = true := Classical.not_not.1 h3
  have h2 : ¬ 8 < c.parents.length := by omega
  have e0 : (decide ((c.parents.length : Int) = 0)) = decide (c.parents.length = 0) := decide_eq_decide.2 (by omega)
  repeat (first|refine Wa ?_|refine Wd ?_|refine We rfl ?_|refine Wf (by first|exact Va|exact Vc|exact Vd|exact Vj|exact Vl|exact VF) rfl ?_)
  refine JC.test (fun h4 => ?_) (fun h4 => ?_)
  · repeat (first|refine Wa ?_|refine Wb ?_|refine Wc ?_|refine Wd ?_|refine We rfl ?_|refine Wf (by exact Vb) rfl ?_|refine Ws ?_|refine Wt ?_)
    refine CT.done () ?_ (fun w ho => ho.ent)
    rw [e0] at h4
    have : (decide (c.gen = 1) != decide (c.parents.length = 0)) = true := by rw [bne_iff_ne]; exact h4
    simp only [packed, may, this, Bool.or_true, if_true]
  have h4 : (decide (c.gen = 1) != decide (c.parents.length = 0)) = false := by
    rw [e0] at h4
    rw [Classical.not_not.1 h4, bne_self_eq_false]
  have hmay : may c = if c.ev.node = -1 then decide (2 ≤ c.parents.length) && decide (c.ev.seq = 0) && decide (c.op = op0) else inB c.ev.node 0 7 && inB c.ev.seq 1 1048576 && opMay c.op := by
    simp only [may, h1, h2, h3, h4, decide_false, Bool.not_true, Bool.or_false, Bool.false_eq_true, if_false]
  rw [hmay]
  repeat (first|refine Wa ?_|refine Wb ?_|refine Wc ?_|refine Wd ?_|refine We rfl ?_|refine Wf (by first|exact Vc|exact Vd|exact Vl) rfl ?_|refine Wl ?_)
  refine JC.test (fun h5 => ?_) (fun h5 => ?_)
  · rw [if_pos h5]
    repeat (first|refine Wb ?_|refine Wc ?_|refine We rfl ?_|refine Wf (by first|exact Va|exact Vp) rfl ?_)
    refine JO.test 35 (fun h6 => ?_) (fun h6 => ?_)
    · repeat (first|refine We rfl ?_|refine Wf (by first|exact Va|exact Vc|exact Vd|exact Vi|exact Vl) rfl ?_)
      refine JO.test 41 (fun h7 => ?_) (fun h7 => ?_)
      · repeat (first|refine We rfl ?_|refine Wf (by first|exact Vc|exact Vd) rfl ?_)
        refine Wf (OpV.build [.int .i64 0, .string .empty, .string .empty, .int .i64 0] (by kernel_rfl)) rfl ?_
        repeat (first|refine Wa ?_|refine Wd ?_|refine We rfl ?_|refine Wf (by first|exact Vb|exact Vi|exact VA) rfl ?_|refine Ws ?_|refine Wt ?_)
        refine CT.done () ?_ (fun w ho => ho.ent)
        have h8 : 2 ≤ c.parents.length := by omega
        have e1 : (decide (2 ≤ c.parents.length) && decide (c.ev.seq = 0) && decide (c.op = op0)) = decide (c.op = op0) := by
          rw [decide_eq_true h8, decide_eq_true h7, Bool.true_and, Bool.true_and]
        rw [e1]
        rfl
      · repeat (first|refine Wa ?_|refine Wd ?_|refine We rfl ?_|refine Wf (by first|exact Vb|exact Vj) rfl ?_|refine Ws ?_|refine Wt ?_|refine Wv rfl rfl ?_)
        refine CT.done () ?_ (fun w ho => ho.ent)
        simp [packed, h7]
    · repeat (first|refine Wa ?_|refine Wd ?_|refine We rfl ?_|refine Wf (by first|exact Va|exact Vb|exact Vj) rfl ?_|refine Ws ?_|refine Wt ?_|refine Wv rfl rfl ?_)
      refine CT.done () ?_ (fun w ho => ho.ent)
      have : ¬ 2 ≤ c.parents.length := by omega
      simp [packed, this]
  · rw [if_neg h5]
    repeat (first|refine Wa ?_|refine Wb ?_|refine Wc ?_|refine We rfl ?_|refine Wf (by first|exact Vc|exact Vd) rfl ?_|refine Wl ?_)
    refine JR.callV rfl (fun w1 hw => in_commit w1 _ _ _ _) ?_
    repeat (first|refine We rfl ?_|refine Wf (by exact Va) rfl ?_)
    refine JO.test 51 (fun h6 => ?_) (fun h6 => ?_)
    · repeat (first|refine We rfl ?_|refine Wf (by first|exact Vc|exact Vd) rfl ?_)
      refine JR.callV rfl (fun w1 hw => in_commit w1 _ _ _ _) ?_
      repeat (first|refine We rfl ?_|refine Wf (by first|exact Va|exact Vi) rfl ?_)
      refine JO.test 57 (fun h7 => ?_) (fun h7 => ?_)
      · repeat (first|refine We rfl ?_|refine Wf (by first|exact Vc|exact Vd) rfl ?_)
        refine JR.callV rfl (fun w1 hw => may_ops w1 _ c.op ht.1 ht.2) ?_
        repeat (first|refine Wa ?_|refine Wd ?_|refine We rfl ?_|refine Wf (by first|exact Vb|exact Vi) rfl ?_|refine Ws ?_)
        refine CT.done () ?_ (fun w ho => ho.ent)
        simp [packed, h6, h7]
      · repeat (first|refine Wa ?_|refine Wd ?_|refine We rfl ?_|refine Wf (by first|exact Vb|exact Vj) rfl ?_|refine Ws ?_|refine Wv rfl rfl ?_)
        refine CT.done () ?_ (fun w ho => ho.ent)
        simp [packed, h7]
    · repeat (first|refine Wa ?_|refine Wd ?_|refine We rfl ?_|refine Wf (by first|exact Va|exact Vb|exact Vj) rfl ?_|refine Ws ?_|refine Wv rfl rfl ?_)
      refine CT.done () ?_ (fun w ho => ho.ent)
      simp [packed, h6]
theorem merge_commit (w : World) (F : Nat → Prop) (c : Commit) (a : Option Addr) (k : Nat) (h : (sl a k c.parents).holds F w) (ht : texts c) :
    GivesV Tryz.prog 97 [commitV c a k] w F (.bool (merge c)) := by
  refine gives_of Tryz.func97 rfl Tryz.ntmps97 rfl rfl [.st (sl a k c.parents)] (.start1 h) ?_
  repeat (first|refine Wa ?_|refine Wb ?_|refine Wc ?_|refine Wd ?_|refine We rfl ?_|refine Wf (by first|exact Va|exact Vb|exact Vc|exact Vd|exact Vl) rfl ?_|(refine Wh rfl ?_; intro _))
  refine JO.test 7 (fun h1 => ?_) (fun h1 => ?_)
  · repeat (first|refine We rfl ?_|refine Wf (by exact Vc) rfl ?_)
    refine JR.callV rfl (fun w1 hw => may_commit w1 _ c a k hw.get ht) ?_
    repeat (first|refine Wa ?_|refine Wd ?_|refine We rfl ?_|refine Wf (by first|exact Vb|exact Vi) rfl ?_|refine Ws ?_)
    refine CT.done () ?_ (fun w ho => ho.ent)
    simp [packed, merge, h1]
  · repeat (first|refine Wa ?_|refine Wd ?_|refine We rfl ?_|refine Wf (by first|exact Vb|exact Vj) rfl ?_|refine Ws ?_|refine Wv rfl rfl ?_)
    refine CT.done () ?_ (fun w ho => ho.ent)
    simp [packed, merge, h1]
theorem same_commit (w : World) (F : Nat → Prop) (c d : Commit) (a b : Option Addr) (k m : Nat) (h : (sl a k c.parents).holds F w) (h' : (sl b m d.parents).holds F w) :
    GivesV Tryz.prog 158 [commitV c a k, commitV d b m] w F (.bool (decide (c = d))) := by
  have key : ∀ (c d : Commit), c = d ↔ c.ev = d.ev ∧ c.gen = d.gen ∧ c.op = d.op ∧ c.parents = d.parents := by
    intro c d
    cases c; cases d
    simp only [Commit.mk.injEq]
    constructor
    · rintro ⟨h1, h2, h3, h4⟩; exact ⟨h1, h2, h4, h3⟩
    · rintro ⟨h1, h2, h3, h4⟩; exact ⟨h1, h2, h4, h3⟩
  refine gives_of Tryz.func158 rfl Tryz.ntmps158 rfl rfl [.st (sl a k c.parents), .st (sl b m d.parents)] (.start2 h h') ?_
  repeat (first|refine Wa ?_|refine Wb ?_|refine Wc ?_|refine Wd ?_|refine We rfl ?_|refine Wf (by first|exact Va|exact Vb|exact Vc|exact Vd|exact Vz) rfl ?_|(refine Wh rfl ?_; intro _))
  refine JO.test 10 (fun h1 => ?_) (fun h1 => ?_)
  · repeat (first|refine We rfl ?_|refine Wf (by first|exact Va|exact Vc|exact Vd|exact Vi|exact Vl) rfl ?_)
    refine JO.test 17 (fun h2 => ?_) (fun h2 => ?_)
    · repeat (first|refine We rfl ?_|refine Wf (by first|exact Va|exact Vc|exact Vd|exact Vi|exact VA) rfl ?_)
      refine JO.test 24 (fun h3 => ?_) (fun h3 => ?_)
      · repeat (first|refine We rfl ?_|refine Wf (by first|exact Vc|exact Vd) rfl ?_)
        refine JR.callV rfl (fun w1 hw => equal_ids w1 _ a b k m _ _ hw.get hw.get) ?_
        repeat (first|refine Wa ?_|refine Wd ?_|refine We rfl ?_|refine Wf (by first|exact Vb|exact Vi) rfl ?_|refine Ws ?_)
        refine CT.done () ?_ (fun w ho => ho.ent)
        have h1 : c.ev = d.ev := h1
        have h3 : c.op = d.op := h3
        simp [packed, key, h1, h2, h3]
      · repeat (first|refine Wa ?_|refine Wd ?_|refine We rfl ?_|refine Wf (by first|exact Vb|exact Vj) rfl ?_|refine Ws ?_|refine Wv rfl rfl ?_)
        refine CT.done () ?_ (fun w ho => ho.ent)
        have h3 : ¬ c.op = d.op := h3
        simp [packed, key, h3]
    · repeat (first|refine Wa ?_|refine Wd ?_|refine We rfl ?_|refine Wf (by first|exact Va|exact Vb|exact Vj) rfl ?_|refine Ws ?_|refine Wv rfl rfl ?_)
      refine CT.done () ?_ (fun w ho => ho.ent)
      simp [packed, key, h2]
  · repeat (first|refine Wa ?_|refine Wd ?_|refine We rfl ?_|refine Wf (by first|exact Va|exact Vb|exact Vj) rfl ?_|refine Ws ?_|refine Wv rfl rfl ?_)
    refine CT.done () ?_ (fun w ho => ho.ent)
    have h1 : ¬ c.ev = d.ev := h1
    simp [packed, key, h1]
def fine (c : Commit) : Prop := texts c ∧ c.parents.length ≤ 34359738368
set_option maxHeartbeats 1000000 in
theorem own_commits (w : World) (F : Nat → Prop) (a : Option Addr) (c : Nat) (L : List Commit) (h : (sl a c L).holds F w) (hl : L.length ≤ 34359738368) (hf : ∀ x ∈ L, fine x) :
    GivesBuf Tryz.prog 204 [.slice a L.length c] w F 29 L := by
  refine gives_of Tryz.func204 rfl Tryz.ntmps204 rfl rfl [.st (sl a c L)] (.start1 h) ?_
  refine JC.buf_nil (α := Commit) 29 ?_
  repeat (first|refine Wa ?_|refine Wb ?_|refine Wc ?_|refine Wd ?_|refine We rfl ?_|refine Wf (by first|exact Va|exact Vb|exact Vf) rfl ?_|refine Wn ?_)
  refine JC.loop4 (fun (k : Nat) (out : List Commit) p q => [(3, .slice p out.length q), (6, .slice a L.length c), (7, .int .i64 (L.length : Int)), (8, .int .i64 (k : Int))]) (fun (k : Nat) (out : List Commit) p q => [.st (sl a c L), .res (buf p q 29 out)])
    (fun k out p q => k ≤ L.length ∧ out = L.take k) (fun k _ _ _ => L.length - k) 0 [] none 0 ⟨Nat.zero_le _, rfl⟩ inferInstance ?_
  intro k out p q ⟨hk, hout⟩
  repeat (first|refine Wa ?_|refine Wb ?_|refine Wc ?_|refine Wd ?_|refine We rfl ?_|refine Wf (by exact Vg) rfl ?_)
  refine JC.test (fun hlt => ?_) (fun hge => ?_)
  · have hlt' : k < L.length := by omega
    repeat (first|refine Wa ?_|refine Wb ?_|refine Wc ?_|refine We rfl ?_|refine Wl ?_|refine Wn ?_)
    refine JR.indexCommit rfl (by omega) ?_
    intro b o p' q'
    repeat (first|refine Wa ?_|refine Wb ?_|refine Wc ?_|refine Wd ?_|refine We rfl ?_|refine Wf (by first|exact Vc|exact Vd) rfl ?_|(refine Wg rfl ?_; intro _)|refine Wi ?_)
    refine JR.callSl rfl (fun w hw => clone_ids w _ p' q' _ (hw.sat (.st (sl p' q' _)) (by simp)) (hf _ (List.getElem_mem hlt')).2) ?_
    intro a' c'
    repeat (first|refine Wa ?_|refine Wc ?_|refine Wd ?_|refine We rfl ?_|refine Wf (by first|exact Va|exact Vc|exact Vd) rfl ?_|refine Wi ?_|(refine Ww rfl ⟨rfl, by decide, by decide, by decide⟩ ?_; intro _))
    refine JR.append1 rfl (by exact ⟨rfl, rfl, by decide⟩) (by subst hout; simp; omega) ?_
    intro a2 c2
    repeat (first|refine Wa ?_|refine Wc ?_|refine Wd ?_|refine We rfl ?_|refine Wf (by first|exact Va|exact Vb|exact Vk (by omega)) rfl ?_|refine Wr ?_)
    exact ⟨k + 1, out ++ [L[k]], a2, c2, ⟨by omega, by rw [hout, List.take_succ_eq_append_getElem (by omega)]⟩, by omega, inferInstance⟩
  · repeat (first|refine Wa ?_|refine Wb ?_|refine Wc ?_|refine Wd ?_|refine We rfl ?_|refine Wf (by first|exact Va|exact Vb) rfl ?_|refine Wm ?_|refine Wo ?_|refine Wp ?_|refine Ws ?_)
    obtain rfl : out = L := by rw [hout, List.take_of_length_le (by omega)]
    exact CT.done (p, q) rfl (fun w ho => ho.ent)
theorem put_1 (w0 w : World) (F : Nat → Prop) (L : List Commit) (c : Commit) (a : Option Addr) (k b : Nat) (h : (sl a k c.parents).holds F w0) (hb : (ro b 0 [.int .i64 c.ev.node, .int .i64 c.ev.seq, .int .i64 c.gen, .slice a c.parents.length k, .int .i64 c.op.kind, .string c.op.key, .string c.op.elem, .int .i64 c.op.n]).holds F w0)
    (hw : Bel w0.heap.size w0 w) :
    Asks Tryz.prog w L 203 [.pointer (some ⟨b, 0, none⟩)] (fun d => decide (c = d)) := by
  intro w' G x a' q _ hb' hs
  have hbel := hw.trans (hb'.mono hw.size)
  have h := (sl a k c.parents).within _ _ h
  have hb := (ro b 0 [.int .i64 c.ev.node, .int .i64 c.ev.seq, .int .i64 c.gen, .slice a c.parents.length k, .int .i64 c.op.kind, .string c.op.key, .string c.op.elem, .int .i64 c.op.n]).within _ _ hb
  have h1 : (sl a k c.parents).holds (fun k => (F k ∧ k < w0.heap.size) ∨ G k) w' := Asn.mono _ _ _ _ (fun k hk => .inl hk) (Asn.frame _ _ _ _ (fun k hk => hbel.block k hk.2) h)
  have h2 : (ro b 0 [.int .i64 c.ev.node, .int .i64 c.ev.seq, .int .i64 c.gen, .slice a c.parents.length k, .int .i64 c.op.kind, .string c.op.key, .string c.op.elem, .int .i64 c.op.n]).holds (fun k => (F k ∧ k < w0.heap.size) ∨ G k) w' := Asn.mono _ _ _ _ (fun k hk => .inl hk) (Asn.frame _ _ _ _ (fun k hk => hbel.block k hk.2) hb)
  have h3 : (sl a' q x.parents).holds (fun k => (F k ∧ k < w0.heap.size) ∨ G k) w' := Asn.mono _ _ _ _ (fun k hk => .inr hk) hs
  show GivesV Tryz.prog 203 [commitV x a' q, .pointer (some ⟨b, 0, none⟩)] w' G (.bool (decide (c = x)))
  refine GivesV.any (F := fun k => (F k ∧ k < w0.heap.size) ∨ G k) ?_
  refine gives_of Tryz.func203 rfl Tryz.ntmps203 rfl rfl [.st (sl a k c.parents), .st (ro b 0 [.int .i64 c.ev.node, .int .i64 c.ev.seq, .int .i64 c.gen, .slice a c.parents.length k, .int .i64 c.op.kind, .string c.op.key, .string c.op.elem, .int .i64 c.op.n]), .st (sl a' q x.parents)] (.start3 h1 h2 h3) ?_
  repeat (first|refine Wa ?_|refine Wb ?_|refine Wc ?_|refine Wd ?_|refine We rfl ?_|refine Wf (by first|exact Vb|exact Vc) rfl ?_|(refine Wh rfl ?_; intro _))
  refine JR.callV rfl (fun w1 hw => same_commit w1 _ c x a a' k q hw.get hw.get) ?_
  repeat (first|refine Wa ?_|refine Wd ?_|refine We rfl ?_|refine Wf (by exact Vb) rfl ?_|refine Ws ?_)
  refine CT.done () ?_ (fun w ho => ho.ent)
  rfl
def waitPut (L : List Commit) (c : Commit) : List Commit := if !may c || merge c || L.any (fun d => decide (c = d)) then L else (L ++ [c]).drop (L.length + 1 - 8)
set_option maxHeartbeats 1000000 in
theorem put_wait (w : World) (F : Nat → Prop) (a b : Option Addr) (k m : Nat) (L : List Commit) (c : Commit) (h : (sl a k L).holds F w) (h' : (sl b m c.parents).holds F w) (hl : L.length < 34359738368) (hf : ∀ x ∈ L, fine x) (hc : fine c) :
    GivesSl Tryz.prog 163 [.slice a L.length k, commitV c b m] w F (waitPut L c) := by
  have hL : L.length < 9223372036854775800 := by omega
  refine gives_of Tryz.func163 rfl Tryz.ntmps163 rfl rfl [.st (sl a k L), .st (sl b m c.parents)] (.start2 h h') ?_
  repeat (first|refine Wa ?_|refine Wb ?_|refine Wc ?_|refine Wd ?_|refine We rfl ?_|refine Wf (by first|exact Vb|exact Vc|exact Vr) rfl ?_|(refine Wh rfl ?_; intro _))
  rename_i bc
  refine JR.pubOwn bc ?_
  refine JR.callV rfl (fun w1 hw => may_commit w1 _ c b m hw.get hc.1) ?_
  repeat (first|refine We rfl ?_|refine Wf (by first|exact Va|exact Vh) rfl ?_)
  refine JO.test 11 (fun h1 => ?_) (fun h1 => ?_)
  · have e1 : waitPut L c = L := by simp [waitPut, h1]
    rw [e1]
    repeat (first|refine Wa ?_|refine Wb ?_|refine Wc ?_|refine Wd ?_|refine We rfl ?_|refine Wf (by first|exact Va|exact Vi) rfl ?_|refine Wj ?_|refine Wv rfl rfl ?_)
    refine JR.callBuf rfl (fun w1 hw => own_commits w1 _ a k L hw.get (by omega) hf) ?_
    intro a2 c2
    repeat (first|refine Wa ?_|refine Wd ?_|refine We rfl ?_|refine Wf (by exact Vb) rfl ?_|refine Ws ?_|refine Wt ?_)
    exact CT.done (a2, c2) rfl (fun w ho => Hold.left (Γ := [.st (sl a2 c2 L)]) (ho.pub))
  have h1 : may c = true := Classical.not_not.1 h1
  repeat (first|refine We rfl ?_|refine Wf (by exact Vc) rfl ?_)
  refine JR.callV rfl (fun w1 hw => merge_commit w1 _ c b m hw.get hc.1) ?_
  repeat (first|refine We rfl ?_|refine Wf (by first|exact Va|exact Vj) rfl ?_)
  refine JO.test 15 (fun h2 => ?_) (fun h2 => ?_)
  · have e1 : waitPut L c = L := by simp [waitPut, h2]
    rw [e1]
    repeat (first|refine Wa ?_|refine Wb ?_|refine Wc ?_|refine Wd ?_|refine We rfl ?_|refine Wf (by first|exact Va|exact Vi) rfl ?_|refine Wj ?_|refine Wv rfl rfl ?_)
    refine JR.callBuf rfl (fun w1 hw => own_commits w1 _ a k L hw.get (by omega) hf) ?_
    intro a2 c2
    repeat (first|refine Wa ?_|refine Wd ?_|refine We rfl ?_|refine Wf (by exact Vb) rfl ?_|refine Ws ?_|refine Wt ?_)
    exact CT.done (a2, c2) rfl (fun w ho => Hold.left (Γ := [.st (sl a2 c2 L)]) (ho.pub))
  have h2 : merge c = false := by simpa using h2
  repeat (first|refine We rfl ?_|refine Wf (by exact Va) rfl ?_)
  refine JR.callV rfl (fun w1 hw => containsFunc_commits w1 _ a k L hw.get _ _ _ (put_1 w1 w1 _ L c b m bc hw.get hw.get (Bel.refl _ _))) ?_
  repeat (first|refine Wa ?_|refine Wd ?_|refine We rfl ?_|refine Wf (by exact Vj) rfl ?_)
  refine JC.test (fun h3 => ?_) (fun h3 => ?_)
  · have e1 : waitPut L c = L := by simp only [waitPut, h3, Bool.or_true, if_true]
    rw [e1]
    repeat (first|refine Wb ?_|refine Wc ?_|refine We rfl ?_|refine Wf (by exact Va) rfl ?_)
    refine JR.callBuf rfl (fun w1 hw => own_commits w1 _ a k L hw.get (by omega) hf) ?_
    intro a2 c2
    repeat (first|refine Wa ?_|refine Wd ?_|refine We rfl ?_|refine Wf (by exact Vb) rfl ?_|refine Ws ?_|refine Wt ?_)
    exact CT.done (a2, c2) rfl (fun w ho => Hold.left (Γ := [.st (sl a2 c2 L)]) (ho.pub))
  have h3 : L.any (fun d => decide (c = d)) = false := Bool.eq_false_iff.2 h3
  have e1 : waitPut L c = (L ++ [c]).drop (L.length + 1 - 8) := by simp only [waitPut, h1, h2, h3, Bool.not_true, Bool.or_self, Bool.false_eq_true, if_false]
  rw [e1]
  repeat (first|refine Wa ?_|refine Wb ?_|refine Wl ?_)
  refine JC.more (Γ' := [.st (sl a L.length L), .st (ro bc 0 [.int .i64 c.ev.node, .int .i64 c.ev.seq, .int .i64 c.gen, .slice b c.parents.length m, .int .i64 c.op.kind, .string c.op.key, .string c.op.elem, .int .i64 c.op.n]), .st (sl a k L), .st (sl b m c.parents)]) (fun w1 ho => ?_) ?_
  · have hs : (sl a k L).holds _ w1 := ho.get
    refine ho.add ?_
    have := sl_take hs (k := L.length) (c' := L.length) (Nat.le_refl _) ⟨Nat.le_refl _, hs.1⟩
    rwa [List.take_length] at this
  have hLc : (L ++ [c]).length < 34359738370 := by simp only [List.length_append, List.length_singleton]; omega
  refine JC.draw 11 mixed ?_
  refine JM.take 0 rfl (by kernel_rfl) rfl Va rfl rfl ?_
  refine JM.take 1 rfl (by kernel_rfl) rfl Va rfl rfl ?_
  refine JM.take 2 rfl (by kernel_rfl) rfl Vf rfl rfl ?_
  refine JM.take 3 rfl (by kernel_rfl) rfl Va rfl rfl ?_
  refine JM.take 4 rfl (by kernel_rfl) rfl Vf rfl rfl ?_
  refine JM.take 5 rfl (by kernel_rfl) rfl (OpV.slice3full (fun w1 ho => (Hold.get (A := sl a k L) ho).1)) rfl rfl ?_
  refine JM.take 6 rfl (by kernel_rfl) rfl Vc rfl rfl ?_
  refine JM.one 7 (by kernel_rfl) rfl rfl rfl rfl (JS.lit rfl ⟨rfl, by decide, by decide, by decide⟩ fun lb => ?_)
  refine JM.one 8 (by kernel_rfl) rfl rfl rfl rfl (JS.appendFull (L := L) (u := c) rfl (by exact ⟨rfl, rfl, by decide⟩) hl fun a3 c3 => ?_)
  refine JM.more (fun w1 ho => ho.pub) ?_
  refine JM.one 9 (by kernel_rfl) rfl rfl rfl rfl (JS.callBuf rfl (fun w1 hw => own_commits w1 _ a3 c3 (L ++ [c]) hw.get (by simp; omega) (by simpa [or_imp, forall_and] using ⟨hf, hc⟩)) fun a4 c4 => ?_)
  refine JM.one 10 (by kernel_rfl) rfl rfl rfl rfl (JS.val Vb rfl ?_)
  refine JM.nil (by kernel_rfl) ?_
  refine Wa ?_
  refine JC.more (fun w1 ho => ho.pub) ?_
  repeat (first|refine Wb ?_|refine Wc ?_|refine We rfl ?_|refine Wf (by first|exact Va|exact Vf|exact Vv (by omega)) rfl ?_)
  refine Wf OpV.max rfl ?_
  refine JO.reslot 36 (.int .i64 (((L ++ [c]).length - 8 : Nat) : Int)) (by congr 1; simp only [List.length_append, List.length_singleton]; omega) ?_
  repeat (refine We rfl ?_)
  refine JR.sliceFrom (L := L ++ [c]) (k := (L ++ [c]).length - 8) rfl rfl (Nat.sub_le _ _) ?_
  intro a5 c5
  repeat (first|refine Wa ?_|refine Wd ?_|refine We rfl ?_|refine Wf (by exact Vb) rfl ?_|refine Ws ?_)
  have e2 : (L ++ [c]).length - 8 = L.length + 1 - 8 := by simp
  rw [← e2]
  exact CT.done (a5, c5) rfl (fun w ho => ho.ent)
theorem delete_commits {w0 w : World} {F : Nat → Prop} {Γ : List Fact} {a : Option Addr} {c : Nat} {L : List Commit} (i : Nat) (hi : i < L.length) (ho : Hold w0 F (.res (buf a c 29 L) :: Γ) w) :
    Calls Tryz.prog 245 ⟨[.slice a L.length c, .int .i64 (i : Int), .int .i64 ((i + 1 : Nat) : Int)]⟩ w fun x w' => ∃ y : Unit, x = .returned (.slice a (L.eraseIdx i).length c) ∧ Hold w0 F (.res (buf a c 29 (L.eraseIdx i)) :: Γ) w' := by
  obtain ⟨b, rfl⟩ : ∃ b, a = some ⟨b, 0, none⟩ := by
    obtain ⟨_, q, h1, h2, _⟩ : (buf a c 29 L).holds _ w := ho.sat (.res (buf a c 29 L)) (by simp)
    rcases h2.2 with ⟨hv, hn⟩ | ⟨g, cap, cur, hv, _⟩
    · omega
    · injection hv with e1 e2 e3
      exact ⟨g, e1⟩
  obtain ⟨_, _, hlim, _, _, _, hc, _⟩ := buf_some (ho.sat (.res (buf (some ⟨b, 0, none⟩) c 29 L)) (by simp))
  have hL : L.length < 9223372036854775000 := by simp only [lim] at hlim; omega
  have he : L.eraseIdx i = L.take i ++ L.drop (i + 1) := List.eraseIdx_eq_take_drop_succ ..
  have hel : (L.eraseIdx i).length = L.length - 1 := List.length_eraseIdx_of_lt hi
  refine calls_of Tryz.func245 rfl Tryz.ntmps245 rfl rfl _ ho ?_
  repeat (first|refine Wa ?_|refine Wb ?_|refine Wc ?_|refine Wd ?_|refine We rfl ?_|refine Wf (by first|exact Va|exact Vb|exact Vf) rfl ?_)
  refine Wf (OpV.slice3V (l := i) (k := i + 1) (q := L.length) (fun _ _ => ⟨by omega, by omega, hc⟩)) rfl ?_
  repeat (first|refine Wa ?_|refine Wb ?_|refine Wc ?_|refine Wd ?_|refine We rfl ?_|refine Wf (by first|exact Va|exact Vl) rfl ?_)
  refine JC.test (fun h => ?_) (fun h => ?_)
  · omega
  repeat (first|refine Wa ?_|refine Wb ?_|refine Wc ?_|refine Wd ?_|refine We rfl ?_|refine Wf (by first|exact Va|exact Vb|exact Vf) rfl ?_|refine Wl ?_)
  refine JC.draw 6 mixed ?_
  refine JM.take 0 rfl (by kernel_rfl) rfl Va rfl rfl ?_
  refine JM.take 1 rfl (by kernel_rfl) rfl Va rfl rfl ?_
  refine JM.take 2 rfl (by kernel_rfl) rfl (OpV.sliceToV (k := i) (fun _ _ => by omega)) rfl rfl ?_
  refine JM.take 3 rfl (by kernel_rfl) rfl Va rfl rfl ?_
  refine JM.take 4 rfl (by kernel_rfl) rfl Va rfl rfl ?_
  refine JM.take 5 rfl (by kernel_rfl) rfl (OpV.sliceFromV (l := i + 1) (fun _ _ => ⟨by omega, hc⟩)) rfl rfl ?_
  refine JM.last 6 (by kernel_rfl) rfl rfl rfl ?_
  refine JR.appendDel (L := L) (j := i + 1) rfl rfl (by omega) (by omega) (fun hm => by rw [if_neg (by omega)]; rfl) ?_
  refine Wd ⟨rfl, ?_⟩
  refine JM.last 7 (by kernel_rfl) rfl rfl rfl (Wf Vb rfl (Wd ⟨rfl, ?_⟩))
  refine JM.nil (by kernel_rfl) ?_
  refine Wa ?_
  refine JC.reslot 0 (.slice (some ⟨b, 0, none⟩) (L.eraseIdx i).length c) (by rw [hel]; congr 1 <;> omega) ?_
  rw [← he]
  repeat (first|refine Wb ?_|refine Wc ?_|refine We rfl ?_|refine Wf (by first|exact Va|exact Vf) rfl ?_)
  refine Wf (OpV.sliceMidV (l := (L.eraseIdx i).length) (k := L.length) (fun _ _ => ⟨by omega, by omega⟩)) rfl ?_
  repeat (refine We rfl ?_)
  refine JR.clear (b := b) (c := c) (L := L.eraseIdx i) (l := (L.eraseIdx i).length) (m := L.length - (L.eraseIdx i).length) (by exact ⟨rfl, rfl⟩) (Nat.le_refl _) (by omega) (fun hm => by rw [if_neg (by omega)]) ?_
  repeat (first|refine Wa ?_|refine Wb ?_|refine Wc ?_|refine Wd ?_|refine We rfl ?_|refine Wf (by first|exact Va|exact Vb) rfl ?_|refine Ws ?_)
  exact CT.done () rfl (fun w ho => ho)
def isReady (have_ : List ID) (c : Commit) : Bool := decide ((someIds c.parents have_ false).length = 0)
theorem ready_1 (w0 w : World) (F : Nat → Prop) (H : List ID) (a : Option Addr) (k b : Nat) (h : (sl a k H).holds F w0) (hb : (ro b 0 [.slice a H.length k]).holds F w0) (hw : Bel w0.heap.size w0 w) (L : List Commit) (hL : ∀ x ∈ L, fine x) :
    Asks Tryz.prog w L 244 [.pointer (some ⟨b, 0, none⟩)] (isReady H) := by
  intro w' G x a' q hx hb' hs
  have hxl := (hL x hx).2
  have hbel := hw.trans (hb'.mono hw.size)
  have h := (sl a k H).within _ _ h
  have hb := (ro b 0 [.slice a H.length k]).within _ _ hb
  have h1 : (sl a k H).holds (fun k => (F k ∧ k < w0.heap.size) ∨ G k) w' := Asn.mono _ _ _ _ (fun k hk => .inl hk) (Asn.frame _ _ _ _ (fun k hk => hbel.block k hk.2) h)
  have h2 : (ro b 0 [.slice a H.length k]).holds (fun k => (F k ∧ k < w0.heap.size) ∨ G k) w' := Asn.mono _ _ _ _ (fun k hk => .inl hk) (Asn.frame _ _ _ _ (fun k hk => hbel.block k hk.2) hb)
  have h3 : (sl a' q x.parents).holds (fun k => (F k ∧ k < w0.heap.size) ∨ G k) w' := Asn.mono _ _ _ _ (fun k hk => .inr hk) hs
  show GivesV Tryz.prog 244 [commitV x a' q, .pointer (some ⟨b, 0, none⟩)] w' G (.bool (isReady H x))
  refine GivesV.any (F := fun k => (F k ∧ k < w0.heap.size) ∨ G k) ?_
  refine gives_of Tryz.func244 rfl Tryz.ntmps244 rfl rfl [.st (sl a k H), .st (ro b 0 [.slice a H.length k]), .st (sl a' q x.parents)] (.start3 h1 h2 h3) ?_
  repeat (first|refine Wa ?_|refine Wb ?_|refine Wc ?_|refine Wd ?_|refine We rfl ?_|refine Wf (by first|exact Vb|exact Vc|exact Vd) rfl ?_|(refine Wh rfl ?_; intro _))
  refine JR.callBuf rfl (fun w1 hw => without_ids w1 _ a' a q k x.parents H hw.get hw.get hxl) ?_
  intro a2 c2
  repeat (first|refine Wa ?_|refine Wd ?_|refine We rfl ?_|refine Wf (by first|exact Vb|exact Vf|exact Vl) rfl ?_|refine Ws ?_)
  refine CT.done () ?_ (fun w ho => ho.ent)
  simp only [packed, isReady]
  congr 1
  exact decide_eq_decide.2 (by omega)
def commit0 : Commit := ⟨⟨0, 0⟩, 0, [], op0⟩
def waitReady (L : List Commit) (H : List ID) : Commit × List Commit × Bool :=
  match L.findIdx? (isReady H) with
  | some i => (L.getD i commit0, L.eraseIdx i, true)
  | none => (commit0, L, false)
set_option maxHeartbeats 1000000 in
theorem ready_wait (w : World) (F : Nat → Prop) (a b : Option Addr) (k m : Nat) (L : List Commit) (H : List ID) (h : (sl a k L).holds F w) (h' : (sl b m H).holds F w) (hl : L.length < 34359738368) (hf : ∀ x ∈ L, fine x) :
    Gives Tryz.prog 205 [.slice a L.length k, .slice b H.length m] w F
      (fun y : (Option Addr × Nat) × (Option Addr × Nat) => .tuple ⟨[commitV (waitReady L H).1 y.1.1 y.1.2, .slice y.2.1 (waitReady L H).2.1.length y.2.2, .bool (waitReady L H).2.2]⟩)
      (fun y => [.st (sl y.1.1 y.1.2 (waitReady L H).1.parents), .st (sl y.2.1 y.2.2 (waitReady L H).2.1)]) := by
  have hL : L.length < 9223372036854775800 := by omega
  refine gives_of Tryz.func205 rfl Tryz.ntmps205 rfl rfl [.st (sl a k L), .st (sl b m H)] (.start2 h h') ?_
  repeat (first|refine Wa ?_|refine Wb ?_|refine Wc ?_|refine Wd ?_|refine We rfl ?_|refine Wf (by first|exact Va|exact Vb) rfl ?_|(refine Wg rfl ?_; intro _)|(refine Wh rfl ?_; intro _))
  rename_i bh bc
  refine JR.pubOwn bh ?_
  refine JR.callBuf rfl (fun w1 hw => own_commits w1 _ a k L hw.get (by omega) hf) ?_
  intro a2 c2
  repeat (first|refine Wa ?_|refine Wb ?_|refine Wc ?_|refine Wd ?_|refine We rfl ?_|refine Wf (by first|exact Va|exact Vb|exact Vr) rfl ?_)
  refine JR.callV rfl (fun w1 hw => (indexFunc_commits w1 (fun _ => True) a2 c2 L hw.bufSlOf _ _ _ (ready_1 w1 w1 _ H b m bh hw.get hw.get (Bel.refl _ _) L hf)).any) ?_
  repeat (first|refine Wa ?_|refine Wb ?_|refine Wc ?_|refine Wd ?_|refine We rfl ?_|refine Wf (by first|exact Va|exact Vb|exact Vg) rfl ?_)
  cases hfi : L.findIdx? (isReady H) with
  | none =>
    have e1 : waitReady L H = (commit0, L, false) := by simp [waitReady, hfi]
    rw [e1]
    refine JC.test (fun hlt => ?_) (fun hge => ?_)
    · refine JC.pub 7 ?_
      intro a3 c3 hv
      injection hv with e1 _ e3
      subst e1 e3
      repeat (first|refine Wb ?_|refine Wc ?_|refine We rfl ?_)
      refine Wf (OpV.build [.int .i64 0, .int .i64 0, .int .i64 0, .slice none 0 0, .int .i64 0, .string .empty, .string .empty, .int .i64 0] (by kernel_rfl)) rfl ?_
      repeat (first|refine Wa ?_|refine Wd ?_|refine We rfl ?_|refine Wf (by first|exact Va|exact Vb) rfl ?_|refine Wi ?_|refine Ws ?_|refine Wt ?_)
      exact CT.done ((none, 0), (a2, c2)) rfl (fun w ho => (ho.ent : Hold _ _ [.st (sl a2 c2 L)] w).add sl_nil)
    · simp [idxV] at hge
  | some i =>
    obtain ⟨hi, _, _⟩ := List.findIdx?_eq_some_iff_getElem.1 hfi
    have e1 : waitReady L H = (L[i], L.eraseIdx i, true) := by simp [waitReady, hfi, hi]
    rw [e1]
    refine JC.test (fun hlt => ?_) (fun hge => ?_)
    · simp only [idxV] at hlt; omega
    have hne : L ≠ [] := by intro h; subst h; simp at hi
    refine JC.pure (fun w ho => buf_addr (ho.sat (.res (buf a2 c2 29 L)) (by simp)) hne) ?_
    rintro ⟨b2, rfl⟩
    refine JC.reslot 8 (.int .i64 (i : Int)) rfl ?_
    repeat (first|refine Wa ?_|refine Wb ?_|refine Wc ?_|refine We rfl ?_|refine Wf (by exact Va) rfl ?_|refine Wl ?_)
    refine Wf (OpV.indexBuf hi) rfl ?_
    refine We rfl ?_
    refine JR.loadBufCommit (k := i) rfl hi rfl ?_
    intro p q
    repeat (first|refine Wa ?_|refine Wb ?_|refine Wd ?_|refine We rfl ?_|(refine Wg rfl ?_; intro _)|refine Wi ?_)
    refine JC.draw 5 mixed ?_
    refine JM.take 1 rfl (by kernel_rfl) rfl Va rfl rfl ?_
    refine JM.take 2 rfl (by kernel_rfl) rfl Va rfl rfl ?_
    refine JM.take 3 rfl (by kernel_rfl) rfl Va rfl rfl ?_
    refine JM.take 4 rfl (by kernel_rfl) rfl (Vk (by omega)) rfl rfl ?_
    refine JM.mix 0 5 (by kernel_rfl) rfl rfl rfl rfl rfl rfl rfl (JS.val Vc rfl ?_)
      (JR.callW (v := fun _ : Unit => .slice (some ⟨b2, 0, none⟩) (L.eraseIdx i).length c2) rfl (fun w1 hw => delete_commits i hi (hw.perm (BufAt.ok (b := b2)))) fun _ => Wd ⟨rfl, ?_⟩)
    · refine JM.last 5 (by kernel_rfl) rfl rfl rfl ?_
      refine JR.callW (v := fun _ : Unit => .slice (some ⟨b2, 0, none⟩) (L.eraseIdx i).length c2) rfl (fun w1 hw => delete_commits i hi (hw.perm (BufAt.ok (b := b2)))) fun _ => Wd ⟨rfl, ?_⟩
      refine JM.last 6 (by kernel_rfl) rfl rfl rfl (Wi (Wd ⟨rfl, ?_⟩))
      refine JM.last 7 (by kernel_rfl) rfl rfl rfl (Wf Vb rfl (Wd ⟨rfl, ?_⟩))
      refine JM.last 8 (by kernel_rfl) rfl rfl rfl (Wf Vb rfl (Wd ⟨rfl, ?_⟩))
      refine JM.nil (by kernel_rfl) ?_
      refine Wa ?_
      refine JC.pub 5 ?_
      intro a3 c3 hv
      injection hv with e1 _ e3
      subst e1 e3
      repeat (refine Ws ?_)
      exact CT.done ((p, q), (some ⟨b2, 0, none⟩, c2)) rfl (fun w ho => ho.ent)
    · refine JM.one 0 (by kernel_rfl) rfl rfl rfl rfl (JS.val Vc rfl ?_)
      refine JM.last 6 (by kernel_rfl) rfl rfl rfl (Wi (Wd ⟨rfl, ?_⟩))
      refine JM.last 7 (by kernel_rfl) rfl rfl rfl (Wf Vb rfl (Wd ⟨rfl, ?_⟩))
      refine JM.last 8 (by kernel_rfl) rfl rfl rfl (Wf Vb rfl (Wd ⟨rfl, ?_⟩))
      refine JM.nil (by kernel_rfl) ?_
      refine Wa ?_
      refine JC.pub 5 ?_
      intro a3 c3 hv
      injection hv with e1 _ e3
      subst e1 e3
      repeat (refine Ws ?_)
      exact CT.done ((p, q), (some ⟨b2, 0, none⟩, c2)) rfl (fun w ho => ho.ent)
def foldN (n : Int) : Nat := if 0 ≤ n then (2 * n).toNat else (-2 * n - 1).toNat
theorem fold_val (n : Int) (h : -1099511627776 ≤ n ∧ n ≤ 1099511627776) :
    IntKind.u64.wrap (BitVec.ofInt IntKind.u64.bits (IntKind.u64.wrap (IntKind.u64.wrap n * 2 ^ (min (Int.toNat 1) IntKind.u64.bits))) ^^^ BitVec.ofInt IntKind.u64.bits (IntKind.u64.wrap (n.fdiv (2 ^ (min (Int.toNat 63) IntKind.i64.bits))))).toNat = ((foldN n : Nat) : Int) := by
  show IntKind.u64.wrap (BitVec.ofInt 64 (IntKind.u64.wrap (IntKind.u64.wrap n * 2 ^ 1)) ^^^ BitVec.ofInt 64 (IntKind.u64.wrap (n.fdiv 9223372036854775808))).toNat = ((foldN n : Nat) : Int)
  have hw : ∀ z : Int, IntKind.u64.wrap z = z % 18446744073709551616 := fun z => by simp [IntKind.wrap, IntKind.bits, IntKind.signed]
  by_cases h0 : 0 ≤ n
  · have e1 : IntKind.u64.wrap (IntKind.u64.wrap n * 2 ^ 1) = (((2 * n).toNat : Nat) : Int) := by rw [hw, hw]; omega
    have e2 : n.fdiv 9223372036854775808 = 0 := by rw [Int.fdiv_eq_ediv_of_nonneg _ (by decide)]; omega
    have e3 : IntKind.u64.wrap 0 = 0 := by rw [hw]; rfl
    rw [e1, e2, e3]
    have e4 : (BitVec.ofInt 64 0) = (0#64) := rfl
    rw [e4, BitVec.xor_zero, BitVec.ofInt_natCast, BitVec.toNat_ofNat, hw, foldN, if_pos h0]
    omega
  · have e1 : IntKind.u64.wrap (IntKind.u64.wrap n * 2 ^ 1) = (((18446744073709551616 + 2 * n).toNat : Nat) : Int) := by rw [hw, hw]; omega
    have e2 : n.fdiv 9223372036854775808 = -1 := by rw [Int.fdiv_eq_ediv_of_nonneg _ (by decide)]; omega
    have e3 : IntKind.u64.wrap (-1) = 18446744073709551615 := by rw [hw]; rfl
    rw [e1, e2, e3]
    have e4 : (BitVec.ofInt 64 18446744073709551615) = BitVec.allOnes 64 := rfl
    rw [e4, BitVec.xor_allOnes, BitVec.toNat_not, BitVec.ofInt_natCast, BitVec.toNat_ofNat, hw, foldN, if_neg h0]
    omega
theorem fold_enc (w : World) (F : Nat → Prop) (n : Int) (h : -1099511627776 ≤ n ∧ n ≤ 1099511627776) : GivesV Tryz.prog 114 [.int .i64 n] w F (.int .u64 ((foldN n : Nat) : Int)) := by
  refine gives_of Tryz.func114 rfl Tryz.ntmps114 rfl rfl [] (.start w F) ?_
  repeat (first|refine Wa ?_|refine Wb ?_|refine Wc ?_|refine Wd ?_|refine We rfl ?_|refine Wf (by first|exact Va|exact Vb) rfl ?_)
  refine Wf OpV.conv rfl ?_
  repeat (refine We rfl ?_)
  refine Wf (OpV.shl (by decide)) rfl ?_
  repeat (first|refine We rfl ?_|refine Wf (by exact Va) rfl ?_)
  refine Wf (OpV.shr (by decide)) rfl ?_
  repeat (refine We rfl ?_)
  refine Wf OpV.conv rfl ?_
  repeat (refine We rfl ?_)
  refine Wf OpV.xor rfl ?_
  repeat (first|refine Wa ?_|refine Wd ?_|refine We rfl ?_|refine Wf (by exact Vb) rfl ?_|refine Ws ?_)
  refine CT.done () ?_ (fun w ho => ho.ent)
  exact congrArg (Value.int .u64) (fold_val n h)
def pick32 (c a b : UInt32) : UInt32 := (c &&& a) ||| (b &&& ~~~ c)
def most32 (a b c : UInt32) : UInt32 := ((a &&& b) ^^^ (a &&& c)) ^^^ (b &&& c)
def rotR (x : UInt32) (k : Nat) : UInt32 := shrN32 x k ||| shlN32 x (32 - k)
theorem pick_rot (w : World) (F : Nat → Prop) (c a b : UInt32) : GivesV Tryz.prog 213 [w32 c, w32 a, w32 b] w F (w32 (pick32 c a b)) := by
  refine gives_of Tryz.func213 rfl Tryz.ntmps213 rfl rfl [] (.start w F) ?_
  repeat (first | refine Wa ?_ | refine Wb ?_ | refine Wc ?_ | refine Wd ?_ | refine We rfl ?_ | refine Wf (by first | exact Va | exact Vb | exact OpV.and32 | exact OpV.or32 | exact OpV.xor32 | exact OpV.andNot32 | exact OpV.add32) rfl ?_ | refine Ws ?_ | refine Wt ?_)
  exact CT.done () rfl (fun w ho => ho.ent)
theorem most_rot (w : World) (F : Nat → Prop) (a b c : UInt32) : GivesV Tryz.prog 214 [w32 a, w32 b, w32 c] w F (w32 (most32 a b c)) := by
  refine gives_of Tryz.func214 rfl Tryz.ntmps214 rfl rfl [] (.start w F) ?_
  repeat (first | refine Wa ?_ | refine Wb ?_ | refine Wc ?_ | refine Wd ?_ | refine We rfl ?_ | refine Wf (by first | exact Va | exact Vb | exact OpV.and32 | exact OpV.or32 | exact OpV.xor32 | exact OpV.andNot32 | exact OpV.add32) rfl ?_ | refine Ws ?_ | refine Wt ?_)
  exact CT.done () rfl (fun w ho => ho.ent)
theorem right_rot (w : World) (F : Nat → Prop) (x : UInt32) (k : Nat) (hk : 1 ≤ k ∧ k ≤ 31) : GivesV Tryz.prog 256 [w32 x, .int .i64 (k : Int)] w F (w32 (rotR x k)) := by
  refine gives_of Tryz.func256 rfl Tryz.ntmps256 rfl rfl [] (.start w F) ?_
  repeat (first | refine Wa ?_ | refine Wb ?_ | refine Wc ?_ | refine Wd ?_ | refine We rfl ?_ | refine Wf (by first | exact Va | exact Vb | exact OpV.and32 | exact OpV.or32 | exact OpV.xor32 | exact OpV.andNot32 | exact OpV.add32) rfl ?_ | refine Ws ?_ | refine Wt ?_)
  refine Wf (OpV.convIn (by rw [wrap64]; omega)) rfl ?_
  repeat (first | refine Wa ?_ | refine Wb ?_ | refine Wc ?_ | refine Wd ?_ | refine We rfl ?_ | refine Wf (by first | exact Va | exact Vb | exact OpV.and32 | exact OpV.or32 | exact OpV.xor32 | exact OpV.andNot32 | exact OpV.add32) rfl ?_ | refine Ws ?_ | refine Wt ?_)
  refine Wf (OpV.rem (by decide)) rfl ?_
  refine JO.reslot 8 (.int .u64 (k : Int)) (by congr 1; rw [Int.tmod_eq_emod_of_nonneg (by omega)]; omega) ?_
  repeat (first | refine Wa ?_ | refine Wb ?_ | refine Wc ?_ | refine Wd ?_ | refine We rfl ?_ | refine Wf (by first | exact Va | exact Vb | exact OpV.and32 | exact OpV.or32 | exact OpV.xor32 | exact OpV.andNot32 | exact OpV.add32) rfl ?_ | refine Ws ?_ | refine Wt ?_)
  refine Wf (OpV.shr32 (k := k) (by omega)) rfl ?_
  repeat (first | refine Wa ?_ | refine Wb ?_ | refine Wc ?_ | refine Wd ?_ | refine We rfl ?_ | refine Wf (by first | exact Va | exact Vb | exact OpV.and32 | exact OpV.or32 | exact OpV.xor32 | exact OpV.andNot32 | exact OpV.add32) rfl ?_ | refine Ws ?_ | refine Wt ?_)
  refine Wf OpV.subw rfl ?_
  refine JO.reslot 14 (.int .u64 ((32 - k : Nat) : Int)) (by congr 1; rw [show (32 : Int) - (k : Int) = ((32 - k : Nat) : Int) by omega, wrap64]; omega) ?_
  repeat (first | refine Wa ?_ | refine Wb ?_ | refine Wc ?_ | refine Wd ?_ | refine We rfl ?_ | refine Wf (by first | exact Va | exact Vb | exact OpV.and32 | exact OpV.or32 | exact OpV.xor32 | exact OpV.andNot32 | exact OpV.add32) rfl ?_ | refine Ws ?_ | refine Wt ?_)
  refine Wf (OpV.shl32 (k := 32 - k) (by omega)) rfl ?_
  repeat (first | refine Wa ?_ | refine Wb ?_ | refine Wc ?_ | refine Wd ?_ | refine We rfl ?_ | refine Wf (by first | exact Va | exact Vb | exact OpV.and32 | exact OpV.or32 | exact OpV.xor32 | exact OpV.andNot32 | exact OpV.add32) rfl ?_ | refine Ws ?_ | refine Wt ?_)
  exact CT.done () rfl (fun w ho => ho.ent)
def fourB (x : UInt32) (i : Nat) : UInt8 := UInt8.ofNat (x.toNat / 2 ^ (24 - 8 * i))
def fourL (x : UInt32) : List UInt8 := (List.range 4).map (fourB x)
def fourK (x : UInt32) (k : Nat) : Vec UInt8 4 := ⟨(List.range 4).map (fun i => if i < k then fourB x i else 0), by simp⟩
theorem fourK_set (x : UInt32) (k : Nat) (h : k < 4) : (fourK x k).1.set k (fourB x k) = (fourK x (k + 1)).1 := by
  match k, h with
  | 0, _ => rfl
  | 1, _ => rfl
  | 2, _ => rfl
  | 3, _ => rfl
theorem four_rot (w : World) (F : Nat → Prop) (x : UInt32) : GivesV Tryz.prog 170 [w32 x] w F (.agg ⟨(fourL x).map byteV⟩) := by
  refine gives_of Tryz.func170 rfl Tryz.ntmps170 rfl rfl [] (.start w F) ?_
  repeat (first|refine Wa ?_|refine Wb ?_|refine Wc ?_|refine Wd ?_|refine We rfl ?_|refine Wf (by exact Va) rfl ?_|(refine Wg rfl ?_; intro _)|refine Wn ?_)
  rename_i bo
  refine JC.reown bo ((fourK x 0).1.map byteV) rfl ?_
  refine JC.loop1 (fun k : Nat => [(0, w32 x), (2, .pointer (some ⟨bo, 0, none⟩)), (4, .int .i64 (k : Int))]) (fun k => [.own bo 186 ((fourK x k).1.map byteV)])
    (fun k => k ≤ 4) (fun k => 4 - k) 0 (Nat.zero_le _) inferInstance ?_
  intro k hk
  repeat (first|refine Wa ?_|refine Wb ?_|refine Wc ?_|refine Wd ?_|refine We rfl ?_|refine Wf (by exact Vg) rfl ?_)
  refine JC.test (fun hlt => ?_) (fun hge => ?_)
  · have hlt' : k < 4 := by omega
    repeat (first|refine Wa ?_|refine Wb ?_|refine Wc ?_|refine Wd ?_|refine We rfl ?_|refine Wf (by first|exact Va|exact Vb) rfl ?_|refine Wl ?_|refine Wn ?_)
    refine Wf (OpV.mul (by omega)) rfl ?_
    refine We rfl ?_
    refine Wf (Vv (by omega)) rfl ?_
    refine JO.reslot 11 (.int .i64 ((24 - 8 * k : Nat) : Int)) (by congr 1 <;> omega) ?_
    refine We rfl ?_
    refine Wf (OpV.shr32 (k := 24 - 8 * k) (by omega)) rfl ?_
    refine We rfl ?_
    refine Wf OpV.conv rfl ?_
    refine JO.reslot 13 (byteV (fourB x k)) (congrArg (Value.int .u8) (by
      rw [wrap8, fourB, UInt8.toNat_ofNat', shrN32, UInt32.toNat_ofNat', Nat.mod_eq_of_lt (a := x.toNat / _) (Nat.lt_of_le_of_lt (Nat.div_le_self _ _) x.toNat_lt)])) ?_
    refine We rfl ?_
    refine Wf (OpV.indexArr hlt') rfl ?_
    refine We rfl ?_
    refine JR.setW k (fourB x k) (by rw [(fourK x k).2]; exact hlt') (by omega) rfl ?_
    rw [fourK_set x k hlt']
    repeat (first|refine Wa ?_|refine Wc ?_|refine Wd ?_|refine We rfl ?_|refine Wf (by first|exact Va|exact Vk (by omega)) rfl ?_|refine Wr ?_)
    exact ⟨k + 1, by omega, by omega, inferInstance⟩
  · obtain rfl : k = 4 := by omega
    repeat (first|refine Wa ?_|refine Wb ?_|refine Wc ?_|refine Wd ?_|refine We rfl ?_|refine Wf (by exact Vc) rfl ?_|refine Wi ?_|refine Wm ?_|refine Wo ?_|refine Wp ?_|refine Ws ?_)
    exact CT.done () rfl (fun w ho => ho.ent)
def shaK : List UInt32 := [1116352408, 1899447441, 3049323471, 3921009573, 961987163, 1508970993, 2453635748, 2870763221, 3624381080, 310598401, 607225278, 1426881987, 1925078388, 2162078206, 2614888103, 3248222580, 3835390401, 4022224774, 264347078, 604807628, 770255983, 1249150122, 1555081692, 1996064986, 2554220882, 2821834349, 2952996808, 3210313671, 3336571891, 3584528711, 113926993, 338241895, 666307205, 773529912, 1294757372, 1396182291, 1695183700, 1986661051, 2177026350, 2456956037, 2730485921, 2820302411, 3259730800, 3345764771, 3516065817, 3600352804, 4094571909, 275423344, 430227734, 506948616, 659060556, 883997877, 958139571, 1322822218, 1537002063, 1747873779, 1955562222, 2024104815, 2227730452, 2361852424, 2428436474, 2756734187, 3204031479, 3329325298]
def shaS : List UInt32 := [1779033703, 3144134277, 1013904242, 2773480762, 1359893119, 2600822924, 528734635, 1541459225]
theorem start_sha (w : World) (F : Nat → Prop) : GivesV Tryz.prog 167 [] w F (.agg ⟨shaS.map w32⟩) := by
  refine gives_of Tryz.func167 rfl Tryz.ntmps167 rfl rfl [] (.start w F) ?_
  repeat (first|refine Wa ?_|refine Wb ?_|refine Wc ?_|refine Wd ?_|refine We rfl ?_|(refine Wg rfl ?_; intro _))
  refine Wf (OpV.build [.int .u32 1779033703, .int .u32 3144134277, .int .u32 1013904242, .int .u32 2773480762, .int .u32 1359893119, .int .u32 2600822924, .int .u32 528734635, .int .u32 1541459225] (by kernel_rfl)) rfl ?_
  repeat (first|refine Wa ?_|refine Wd ?_|refine We rfl ?_|refine Wi ?_|refine Ws ?_)
  refine CT.done () ?_ (fun w ho => ho.ent)
  exact congrArg (fun l => Value.agg ⟨l⟩) (show _ = shaS.map w32 by kernel_rfl)
set_option maxRecDepth 4000 in
theorem constants_sha (w : World) (F : Nat → Prop) : GivesV Tryz.prog 210 [] w F (.agg ⟨shaK.map w32⟩) := by
  refine gives_of Tryz.func210 rfl Tryz.ntmps210 rfl rfl [] (.start w F) ?_
  repeat (first|refine Wa ?_|refine Wb ?_|refine Wc ?_|refine Wd ?_|refine We rfl ?_|(refine Wg rfl ?_; intro _))
  refine Wf (OpV.build [.int .u32 1116352408, .int .u32 1899447441, .int .u32 3049323471, .int .u32 3921009573, .int .u32 961987163, .int .u32 1508970993, .int .u32 2453635748, .int .u32 2870763221, .int .u32 3624381080, .int .u32 310598401, .int .u32 607225278, .int .u32 1426881987, .int .u32 1925078388, .int .u32 2162078206, .int .u32 2614888103, .int .u32 3248222580, .int .u32 3835390401, .int .u32 4022224774, .int .u32 264347078, .int .u32 604807628, .int .u32 770255983, .int .u32 1249150122, .int .u32 1555081692, .int .u32 1996064986, .int .u32 2554220882, .int .u32 2821834349, .int .u32 2952996808, .int .u32 3210313671, .int .u32 3336571891, .int .u32 3584528711, .int .u32 113926993, .int .u32 338241895, .int .u32 666307205, .int .u32 773529912, .int .u32 1294757372, .int .u32 1396182291, .int .u32 1695183700, .int .u32 1986661051, .int .u32 2177026350, .int .u32 2456956037, .int .u32 2730485921, .int .u32 2820302411, .int .u32 3259730800, .int .u32 3345764771, .int .u32 3516065817, .int .u32 3600352804, .int .u32 4094571909, .int .u32 275423344, .int .u32 430227734, .int .u32 506948616, .int .u32 659060556, .int .u32 883997877, .int .u32 958139571, .int .u32 1322822218, .int .u32 1537002063, .int .u32 1747873779, .int .u32 1955562222, .int .u32 2024104815, .int .u32 2227730452, .int .u32 2361852424, .int .u32 2428436474, .int .u32 2756734187, .int .u32 3204031479, .int .u32 3329325298] (by kernel_rfl)) rfl ?_
  repeat (first|refine Wa ?_|refine Wd ?_|refine We rfl ?_|refine Wi ?_|refine Ws ?_)
  refine CT.done () ?_ (fun w ho => ho.ent)
  exact congrArg (fun l => Value.agg ⟨l⟩) (show _ = shaK.map w32 by kernel_rfl)
def small32 (x : UInt32) (a b c : Nat) : UInt32 := (rotR x a ^^^ rotR x b) ^^^ shrN32 x c
def great32 (x : UInt32) (a b c : Nat) : UInt32 := (rotR x a ^^^ rotR x b) ^^^ rotR x c
theorem small_sha (w : World) (F : Nat → Prop) (x : UInt32) (a b c : Nat) (ha : 1 ≤ a ∧ a ≤ 31) (hb : 1 ≤ b ∧ b ≤ 31) (hc : c ≤ 32) : GivesV Tryz.prog 255 [w32 x, .int .i64 (a : Int), .int .i64 (b : Int), .int .i64 (c : Int)] w F (w32 (small32 x a b c)) := by
  refine gives_of Tryz.func255 rfl Tryz.ntmps255 rfl rfl [] (.start w F) ?_
  repeat (first | refine Wa ?_ | refine Wb ?_ | refine Wc ?_ | refine Wd ?_ | refine We rfl ?_ | refine Wf (by first | exact Va | exact Vb | exact OpV.and32 | exact OpV.or32 | exact OpV.xor32 | exact OpV.andNot32 | exact OpV.add32) rfl ?_ | refine Ws ?_ | refine Wt ?_)
  refine JC.quiet mixed (by kernel_rfl) ?_
  repeat (first | refine Wy rfl (by first | exact Va | exact Vb | exact OpV.and32 | exact OpV.or32 | exact OpV.xor32 | exact OpV.andNot32 | exact OpV.add32) rfl ?_ | refine WB ?_)
  refine JQ.call rfl rfl (fun w1 hw => right_rot w1 _ x a ha) ?_
  repeat (first | refine Wy rfl (by first | exact Va | exact Vb | exact OpV.and32 | exact OpV.or32 | exact OpV.xor32 | exact OpV.andNot32 | exact OpV.add32) rfl ?_ | refine WB ?_)
  refine JQ.call rfl rfl (fun w1 hw => right_rot w1 _ x b hb) ?_
  repeat (first | refine Wy rfl (by first | exact Va | exact Vb | exact OpV.and32 | exact OpV.or32 | exact OpV.xor32 | exact OpV.andNot32 | exact OpV.add32) rfl ?_ | refine WB ?_)
  refine Wy rfl (OpV.shr32 (k := c) hc) rfl ?_
  repeat (first | refine Wy rfl (by first | exact Va | exact Vb | exact OpV.and32 | exact OpV.or32 | exact OpV.xor32 | exact OpV.andNot32 | exact OpV.add32) rfl ?_ | refine WB ?_)
  repeat (first | refine Wa ?_ | refine Wb ?_ | refine Wc ?_ | refine Wd ?_ | refine We rfl ?_ | refine Wf (by first | exact Va | exact Vb | exact OpV.and32 | exact OpV.or32 | exact OpV.xor32 | exact OpV.andNot32 | exact OpV.add32) rfl ?_ | refine Ws ?_ | refine Wt ?_)
  exact CT.done () rfl (fun w ho => ho.ent)
theorem great_sha (w : World) (F : Nat → Prop) (x : UInt32) (a b c : Nat) (ha : 1 ≤ a ∧ a ≤ 31) (hb : 1 ≤ b ∧ b ≤ 31) (hc : 1 ≤ c ∧ c ≤ 31) : GivesV Tryz.prog 212 [w32 x, .int .i64 (a : Int), .int .i64 (b : Int), .int .i64 (c : Int)] w F (w32 (great32 x a b c)) := by
  refine gives_of Tryz.func212 rfl Tryz.ntmps212 rfl rfl [] (.start w F) ?_
  repeat (first | refine Wa ?_ | refine Wb ?_ | refine Wc ?_ | refine Wd ?_ | refine We rfl ?_ | refine Wf (by first | exact Va | exact Vb | exact OpV.and32 | exact OpV.or32 | exact OpV.xor32 | exact OpV.andNot32 | exact OpV.add32) rfl ?_ | refine Ws ?_ | refine Wt ?_)
  refine JR.callV rfl (fun w1 hw => right_rot w1 _ x a ha) ?_
  repeat (first | refine Wa ?_ | refine Wb ?_ | refine Wc ?_ | refine Wd ?_ | refine We rfl ?_ | refine Wf (by first | exact Va | exact Vb | exact OpV.and32 | exact OpV.or32 | exact OpV.xor32 | exact OpV.andNot32 | exact OpV.add32) rfl ?_ | refine Ws ?_ | refine Wt ?_)
  refine JR.callV rfl (fun w1 hw => right_rot w1 _ x b hb) ?_
  repeat (first | refine Wa ?_ | refine Wb ?_ | refine Wc ?_ | refine Wd ?_ | refine We rfl ?_ | refine Wf (by first | exact Va | exact Vb | exact OpV.and32 | exact OpV.or32 | exact OpV.xor32 | exact OpV.andNot32 | exact OpV.add32) rfl ?_ | refine Ws ?_ | refine Wt ?_)
  refine JR.callV rfl (fun w1 hw => right_rot w1 _ x c hc) ?_
  repeat (first | refine Wa ?_ | refine Wb ?_ | refine Wc ?_ | refine Wd ?_ | refine We rfl ?_ | refine Wf (by first | exact Va | exact Vb | exact OpV.and32 | exact OpV.or32 | exact OpV.xor32 | exact OpV.andNot32 | exact OpV.add32) rfl ?_ | refine Ws ?_ | refine Wt ?_)
  exact CT.done () rfl (fun w ho => ho.ent)
def longB (x : UInt64) (i : Nat) : UInt8 := UInt8.ofNat (x.toNat / 2 ^ (8 * i))
def longL (x : UInt64) : List UInt8 := (List.range 8).map (fun j => longB x (7 - j))
def longK (x : UInt64) (k : Nat) : Vec UInt8 8 := ⟨(List.range 8).map (fun j => if 7 - j < k then longB x (7 - j) else 0), by simp⟩
theorem longK_set (x : UInt64) (k : Nat) (h : k < 8) : (longK x k).1.set (7 - k) (longB x k) = (longK x (k + 1)).1 := by
  match k, h with
  | 0, _ => rfl
  | 1, _ => rfl
  | 2, _ => rfl
  | 3, _ => rfl
  | 4, _ => rfl
  | 5, _ => rfl
  | 6, _ => rfl
  | 7, _ => rfl
theorem long_rot (w : World) (F : Nat → Prop) (x : UInt64) : GivesV Tryz.prog 209 [w64 x] w F (.agg ⟨(longL x).map byteV⟩) := by
  refine gives_of Tryz.func209 rfl Tryz.ntmps209 rfl rfl [] (.start w F) ?_
  repeat (first|refine Wa ?_|refine Wb ?_|refine Wc ?_|refine Wd ?_|refine We rfl ?_|refine Wf (by exact Va) rfl ?_|(refine Wg rfl ?_; intro _)|refine Wn ?_)
  rename_i bo
  refine JC.reown bo ((longK x 0).1.map byteV) rfl ?_
  refine JC.loop1 (fun k : Nat => [(0, w64 x), (2, .pointer (some ⟨bo, 0, none⟩)), (4, .int .i64 (k : Int))]) (fun k => [.own bo 224 ((longK x k).1.map byteV)])
    (fun k => k ≤ 8) (fun k => 8 - k) 0 (Nat.zero_le _) inferInstance ?_
  intro k hk
  repeat (first|refine Wa ?_|refine Wb ?_|refine Wc ?_|refine Wd ?_|refine We rfl ?_|refine Wf (by exact Vg) rfl ?_)
  refine JC.test (fun hlt => ?_) (fun hge => ?_)
  · have hlt' : k < 8 := by omega
    repeat (first|refine Wa ?_|refine Wb ?_|refine Wc ?_|refine Wd ?_|refine We rfl ?_|refine Wf (by first|exact Va|exact Vb|exact Vv (by omega)) rfl ?_|refine Wl ?_|refine Wn ?_)
    refine Wf (OpV.mul (by omega)) rfl ?_
    refine JO.reslot 11 (.int .i64 ((8 * k : Nat) : Int)) (by congr 1) ?_
    refine JO.reslot 8 (.int .i64 ((7 - k : Nat) : Int)) (by congr 1 <;> omega) ?_
    refine We rfl ?_
    refine Wf (OpV.shr64 (k := 8 * k) (by omega)) rfl ?_
    refine We rfl ?_
    refine Wf OpV.conv rfl ?_
    refine JO.reslot 13 (byteV (longB x k)) (congrArg (Value.int .u8) (by
      rw [wrap8, longB, UInt8.toNat_ofNat', shrN64, UInt64.toNat_ofNat', Nat.mod_eq_of_lt (a := x.toNat / _) (Nat.lt_of_le_of_lt (Nat.div_le_self _ _) x.toNat_lt)])) ?_
    refine We rfl ?_
    refine Wf (OpV.indexArr (k := 7 - k) (by omega)) rfl ?_
    refine We rfl ?_
    refine JR.setW (7 - k) (longB x k) (by rw [(longK x k).2]; omega) (by omega) rfl ?_
    rw [longK_set x k hlt']
    repeat (first|refine Wa ?_|refine Wc ?_|refine Wd ?_|refine We rfl ?_|refine Wf (by first|exact Va|exact Vk (by omega)) rfl ?_|refine Wr ?_)
    exact ⟨k + 1, by omega, by omega, inferInstance⟩
  · obtain rfl : k = 8 := by omega
    repeat (first|refine Wa ?_|refine Wb ?_|refine Wc ?_|refine Wd ?_|refine We rfl ?_|refine Wf (by exact Vc) rfl ?_|refine Wi ?_|refine Wm ?_|refine Wo ?_|refine Wp ?_|refine Ws ?_)
    exact CT.done () rfl (fun w ho => ho.ent)
def word4 (a b c d : UInt8) : UInt32 := ((shlN32 a.toUInt32 24 ||| shlN32 b.toUInt32 16) ||| shlN32 c.toUInt32 8) ||| d.toUInt32
def wordAt (L : List UInt8) (k : Nat) : UInt32 := word4 (L.getD k 0) (L.getD (k + 1) 0) (L.getD (k + 2) 0) (L.getD (k + 3) 0)
instance : NatI (24 : Int) 24 := ⟨rfl⟩
theorem conv832 (b : UInt8) : Value.int .u32 (IntKind.u32.wrap (b.toNat : Int)) = w32 b.toUInt32 := by
  rw [wrap32, Nat.mod_eq_of_lt (by have := b.toNat_lt; omega)]; exact congrArg (fun n : Nat => Value.int .u32 (n : Int)) (UInt8.toNat_toUInt32 b).symm
theorem take4 (L : List UInt8) (k : Nat) (h : k + 4 ≤ L.length) : (L.drop k).take (k + 4 - k) = [L.getD k 0, L.getD (k + 1) 0, L.getD (k + 2) 0, L.getD (k + 3) 0] := by
  rw [show k + 4 - k = 4 by omega]
  apply List.ext_getElem?
  intro i
  rw [List.getElem?_take, List.getElem?_drop]
  match i with
  | 0 => simp [show k < L.length by omega]
  | 1 => simp [show k + 1 < L.length by omega]
  | 2 => simp [show k + 2 < L.length by omega]
  | 3 => simp [show k + 3 < L.length by omega]
  | i + 4 => simp; omega
theorem word_rot (w : World) (F : Nat → Prop) (a : Option Addr) (c : Nat) (L : List UInt8) (k : Nat) (h : (sl a c L).holds F w) (hk : k + 4 ≤ L.length) :
    GivesV Tryz.prog 254 [.slice a L.length c, .int .i64 (k : Int)] w F (.tuple ⟨[w32 (wordAt L k), .bool true]⟩) := by
  have hL : L.length < 9223372036854775800 := by have := h.2.2.1; simp only [lim] at this; omega
  refine gives_of Tryz.func254 rfl Tryz.ntmps254 rfl rfl [.st (sl a c L)] (.start1 h) ?_
  repeat (first|refine Wa ?_|refine Wb ?_|refine Wc ?_|refine Wd ?_|refine We rfl ?_|refine Wf (by first|exact Va|exact Vb|exact Vf|exact Vg|exact Vj|exact Vo|exact Vu (by omega)) rfl ?_)
  refine JC.test (fun h2 => ?_) (fun h2 => ?_)
  · omega
  repeat (first|refine Wa ?_|refine Wb ?_|refine Wc ?_|refine We rfl ?_|refine Wf (by first|exact Va|exact Vs (by omega)) rfl ?_|refine Wl ?_)
  refine JR.sliceMid (l := k) (k := k + 4) rfl rfl ⟨by omega, hk⟩ ?_
  intro a2 c2
  rw [take4 L k hk]
  repeat (refine We rfl ?_)
  refine JR.arrayPtr rfl ⟨rfl, by simp⟩ ?_
  intro b o
  simp only [List.map_cons, List.map_nil]
  repeat (first | refine Wa ?_ | refine Wb ?_ | refine Wc ?_ | refine Wd ?_ | refine We rfl ?_ | refine Wf (by first | exact Va | exact Vb | exact OpV.and32 | exact OpV.or32 | exact OpV.xor32 | exact OpV.andNot32 | exact OpV.add32 | exact Vc | exact OpV.indexArr (by decide)) rfl ?_ | refine Ws ?_ | refine Wt ?_)
  repeat (first|refine Wa ?_|refine Wb ?_|refine Wc ?_|refine Wd ?_|refine We rfl ?_|(refine Wg rfl ?_; intro _)|refine Wi ?_)
  rename_i bx
  refine Wf (OpV.indexArr (by decide)) rfl ?_
  refine JO.reslot 23 (.pointer (some ⟨bx, 0, none⟩)) rfl ?_
  refine We rfl ?_
  refine Wf Vc rfl ?_
  refine We rfl ?_
  refine Wf OpV.conv rfl ?_
  refine JO.reslot 25 (w32 (L.getD k 0).toUInt32) (conv832 _) ?_
  refine We rfl ?_
  refine Wf (OpV.shl32 (k := 24) (by decide)) rfl ?_
  refine We rfl ?_
  refine Wf (OpV.indexArr (by decide)) rfl ?_
  refine JO.reslot 27 (.pointer (some ⟨bx, 1, none⟩)) rfl ?_
  refine We rfl ?_
  refine Wf Vc rfl ?_
  refine We rfl ?_
  refine Wf OpV.conv rfl ?_
  refine JO.reslot 29 (w32 (L.getD (k + 1) 0).toUInt32) (conv832 _) ?_
  refine We rfl ?_
  refine Wf (OpV.shl32 (k := 16) (by decide)) rfl ?_
  refine We rfl ?_
  refine Wf OpV.or32 rfl ?_
  refine We rfl ?_
  refine Wf (OpV.indexArr (by decide)) rfl ?_
  refine JO.reslot 32 (.pointer (some ⟨bx, 2, none⟩)) rfl ?_
  refine We rfl ?_
  refine Wf Vc rfl ?_
  refine We rfl ?_
  refine Wf OpV.conv rfl ?_
  refine JO.reslot 34 (w32 (L.getD (k + 2) 0).toUInt32) (conv832 _) ?_
  refine We rfl ?_
  refine Wf (OpV.shl32 (k := 8) (by decide)) rfl ?_
  refine We rfl ?_
  refine Wf OpV.or32 rfl ?_
  refine We rfl ?_
  refine Wf (OpV.indexArr (by decide)) rfl ?_
  refine JO.reslot 37 (.pointer (some ⟨bx, 3, none⟩)) rfl ?_
  refine We rfl ?_
  refine Wf Vc rfl ?_
  refine We rfl ?_
  refine Wf OpV.conv rfl ?_
  refine JO.reslot 39 (w32 (L.getD (k + 3) 0).toUInt32) (conv832 _) ?_
  refine We rfl ?_
  refine Wf OpV.or32 rfl ?_
  repeat (first|refine Wa ?_|refine Wd ?_|refine We rfl ?_|refine Wf (by exact Vb) rfl ?_|refine Ws ?_)
  exact CT.done () rfl (fun w ho => ho.ent)
def wordK (L : List UInt8) (W : List UInt32) (k : Nat) : UInt32 :=
  if k < 16 then wordAt L (4 * k) else ((W.getD (k - 16) 0 + W.getD (k - 7) 0) + small32 (W.getD (k - 15) 0) 7 18 3) + small32 (W.getD (k - 2) 0) 17 19 10
def spreadK (L : List UInt8) : Nat → List UInt32
  | 0 => List.replicate 64 0
  | k + 1 => (spreadK L k).set k (wordK L (spreadK L k) k)
theorem spreadK_length (L : List UInt8) (k : Nat) : (spreadK L k).length = 64 := by
  induction k with
  | zero => simp [spreadK]
  | succ k ih => simp [spreadK, ih]
def spreadV (L : List UInt8) (k : Nat) : Vec UInt32 64 := ⟨spreadK L k, spreadK_length L k⟩
theorem spreadV_zero (L : List UInt8) : (spreadV L 0).1 = List.replicate 64 0 := rfl
theorem spreadV_succ (L : List UInt8) (k : Nat) : (spreadV L (k + 1)).1 = (spreadV L k).1.set k (wordK L (spreadV L k).1 k) := rfl
theorem getD_at {W : List UInt32} {k : Nat} (h : k < W.length) : W[k]'h = W.getD k 0 := by simp [List.getD_eq_getElem?_getD, h]
attribute [local irreducible] spreadK
set_option maxHeartbeats 1000000 in
theorem spread_sha (w : World) (F : Nat → Prop) (a : Option Addr) (c : Nat) (L : List UInt8) (h : (sl a c L).holds F w) (hL : L.length = 64) :
    GivesV Tryz.prog 211 [.slice a L.length c] w F (.agg ⟨(spreadV L 64).1.map w32⟩) := by
  refine gives_of Tryz.func211 rfl Tryz.ntmps211 rfl rfl [.st (sl a c L)] (.start1 h) ?_
  repeat (first|refine Wa ?_|refine Wb ?_|refine Wc ?_|refine Wd ?_|refine We rfl ?_|refine Wf (by exact Va) rfl ?_|(refine Wg rfl ?_; intro _)|refine Wn ?_)
  rename_i bo
  refine JC.reown bo ((spreadV L 0).1.map w32) (by rw [spreadV_zero, List.map_replicate]; rfl) ?_
  refine JC.loop1 (fun k : Nat => [(0, .slice a L.length c), (2, .pointer (some ⟨bo, 0, none⟩)), (4, .int .i64 (k : Int))]) (fun k => [.own bo 226 ((spreadV L k).1.map w32), .st (sl a c L)])
    (fun k => k ≤ 64) (fun k => 64 - k) 0 (Nat.zero_le _) inferInstance ?_
  intro k hk
  repeat (first|refine Wa ?_|refine Wb ?_|refine Wc ?_|refine Wd ?_|refine We rfl ?_|refine Wf (by exact Vg) rfl ?_)
  refine JC.test (fun hlt => ?_) (fun hge => ?_)
  · have hlt' : k < 64 := by omega
    have hv := (spreadV L k).2
    repeat (first|refine Wa ?_|refine Wb ?_|refine Wc ?_|refine Wd ?_|refine We rfl ?_|refine Wf (by first|exact Va|exact Vb|exact Vg) rfl ?_|refine Wl ?_|refine Wn ?_)
    refine JC.test (fun h16 => ?_) (fun h16 => ?_)
    · have h16' : k < 16 := by omega
      repeat (first|refine Wb ?_|refine Wc ?_|refine We rfl ?_|refine Wf (by exact Va) rfl ?_)
      refine Wf (OpV.shl (by decide)) rfl ?_
      refine JO.reslot 13 (.int .i64 ((4 * k : Nat) : Int)) (congrArg (Value.int .i64) (by show IntKind.i64.wrap ((k : Int) * 2 ^ 2) = _; rw [IntKind.wrap_i64]; omega)) ?_
      refine We rfl ?_
      refine JR.callV rfl (fun w1 hw => word_rot w1 _ a c L (4 * k) hw.get (by omega)) ?_
      repeat (first|refine We rfl ?_|refine Wf (by first|exact Va|exact Vq) rfl ?_)
      refine Wf (OpV.indexArr hlt') rfl ?_
      refine We rfl ?_
      refine JR.setW k (wordAt L (4 * k)) (by omega) (by omega) rfl ?_
      refine JO.reown bo ((spreadV L (k + 1)).1.map w32) (by rw [spreadV_succ, wordK, if_pos h16']) ?_
      repeat (first|refine Wa ?_|refine Wc ?_|refine Wd ?_|refine We rfl ?_|refine Wf (by first|exact Va|exact Vk (by omega)) rfl ?_|refine Wm ?_|refine Wo ?_|refine Wp ?_)
      exact ⟨k + 1, by omega, by omega, inferInstance⟩
    · have h16' : ¬ k < 16 := by omega
      repeat (first|refine Wa ?_|refine Wl ?_)
      refine JC.draw 23 mixed ?_
      refine JM.take 0 rfl (by kernel_rfl) rfl Va rfl rfl ?_
      refine JM.take 1 rfl (by kernel_rfl) rfl Va rfl rfl ?_
      refine JM.take 2 rfl (by kernel_rfl) rfl (Vv (by omega)) rfl rfl ?_
      refine JM.reslot 20 (.int .i64 ((k - 16 : Nat) : Int)) (by congr 1 <;> omega) ?_
      refine JM.take 3 rfl (by kernel_rfl) rfl (OpV.indexArr (k := k - 16) (by omega)) rfl rfl ?_
      refine JM.take 4 rfl (by kernel_rfl) rfl (OpV.getW (k - 16) (by omega) (by omega) rfl) rfl rfl ?_
      refine JM.take 5 rfl (by kernel_rfl) rfl Va rfl rfl ?_
      refine JM.take 6 rfl (by kernel_rfl) rfl (Vv (by omega)) rfl rfl ?_
      refine JM.reslot 24 (.int .i64 ((k - 7 : Nat) : Int)) (by congr 1 <;> omega) ?_
      refine JM.take 7 rfl (by kernel_rfl) rfl (OpV.indexArr (k := k - 7) (by omega)) rfl rfl ?_
      refine JM.take 8 rfl (by kernel_rfl) rfl (OpV.getW (k - 7) (by omega) (by omega) rfl) rfl rfl ?_
      refine JM.take 9 rfl (by kernel_rfl) rfl OpV.add32 rfl rfl ?_
      refine JM.take 10 rfl (by kernel_rfl) rfl Va rfl rfl ?_
      refine JM.take 11 rfl (by kernel_rfl) rfl (Vv (by omega)) rfl rfl ?_
      refine JM.reslot 29 (.int .i64 ((k - 15 : Nat) : Int)) (by congr 1 <;> omega) ?_
      refine JM.take 12 rfl (by kernel_rfl) rfl (OpV.indexArr (k := k - 15) (by omega)) rfl rfl ?_
      refine JM.take 13 rfl (by kernel_rfl) rfl (OpV.getW (k - 15) (by omega) (by omega) rfl) rfl rfl ?_
      refine JM.takeCall 14 rfl (by kernel_rfl) rfl (fun w1 hw => small_sha w1 _ _ 7 18 3 (by decide) (by decide) (by decide)) rfl rfl ?_
      refine JM.take 15 rfl (by kernel_rfl) rfl OpV.add32 rfl rfl ?_
      refine JM.take 16 rfl (by kernel_rfl) rfl Va rfl rfl ?_
      refine JM.take 17 rfl (by kernel_rfl) rfl (Vv (by omega)) rfl rfl ?_
      refine JM.reslot 35 (.int .i64 ((k - 2 : Nat) : Int)) (by congr 1 <;> omega) ?_
      refine JM.take 18 rfl (by kernel_rfl) rfl (OpV.indexArr (k := k - 2) (by omega)) rfl rfl ?_
      refine JM.take 19 rfl (by kernel_rfl) rfl (OpV.getW (k - 2) (by omega) (by omega) rfl) rfl rfl ?_
      refine JM.takeCall 20 rfl (by kernel_rfl) rfl (fun w1 hw => small_sha w1 _ _ 17 19 10 (by decide) (by decide) (by decide)) rfl rfl ?_
      refine JM.take 21 rfl (by kernel_rfl) rfl OpV.add32 rfl rfl ?_
      refine JM.take 22 rfl (by kernel_rfl) rfl (OpV.indexArr hlt') rfl rfl ?_
      refine JM.reslot 39 (w32 (wordK L (spreadV L k).1 k)) (by rw [wordK, if_neg h16', getD_at, getD_at, getD_at, getD_at]) ?_
      refine JM.last 23 (by kernel_rfl) rfl rfl rfl (JR.setW k (wordK L (spreadV L k).1 k) (by omega) (by omega) rfl (JO.reown bo ((spreadV L (k + 1)).1.map w32) (by rw [spreadV_succ]) (Wd ⟨rfl, ?_⟩)))
      refine JM.nil (by kernel_rfl) ?_
      repeat (first|refine Wa ?_|refine Wc ?_|refine Wd ?_|refine We rfl ?_|refine Wf (by first|exact Va|exact Vk (by omega)) rfl ?_|refine Wr ?_)
      exact ⟨k + 1, by omega, by omega, inferInstance⟩
  · obtain rfl : k = 64 := by omega
    repeat (first|refine Wa ?_|refine Wb ?_|refine Wc ?_|refine Wd ?_|refine We rfl ?_|refine Wf (by exact Vc) rfl ?_|refine Wi ?_|refine Wm ?_|refine Wo ?_|refine Wp ?_|refine Ws ?_)
    exact CT.done () rfl (fun w ho => ho.ent)
end Ab
end Go.Proofs.YtdgeffphifgflaaGreat
namespace Go.Proofs.YtdgeffphifgflaaGreat
namespace Ab
open Go Go.RowKit
set_option linter.unusedVariables false
set_option linter.unusedSimpArgs false
set_option synthInstance.maxSize 4000
set_option synthInstance.maxHeartbeats 400000
attribute [local irreducible] JC JO JR JQ andThen inBlock OpV Gives retTo JM JS
attribute [local irreducible] spreadK
def one32 (W s : List UInt32) (k : Nat) : UInt32 :=
  (((s.getD 7 0 + great32 (s.getD 4 0) 6 11 25) + pick32 (s.getD 4 0) (s.getD 5 0) (s.getD 6 0)) + shaK.getD k 0) + W.getD k 0
def two32 (s : List UInt32) : UInt32 := great32 (s.getD 0 0) 2 13 22 + most32 (s.getD 0 0) (s.getD 1 0) (s.getD 2 0)
def turnS (W s : List UInt32) (k : Nat) : List UInt32 :=
  [one32 W s k + two32 s, s.getD 0 0, s.getD 1 0, s.getD 2 0, s.getD 3 0 + one32 W s k, s.getD 4 0, s.getD 5 0, s.getD 6 0]
def turnK (W h : List UInt32) : Nat → List UInt32
  | 0 => h
  | k + 1 => turnS W (turnK W h k) k
theorem turnK_length (W : List UInt32) {h : List UInt32} (hh : h.length = 8) (k : Nat) : (turnK W h k).length = 8 := by
  cases k with
  | zero => exact hh
  | succ k => rfl
def turnV (W : List UInt32) (h : Vec UInt32 8) (k : Nat) : Vec UInt32 8 := ⟨turnK W h.1 k, turnK_length W h.2 k⟩
theorem turnV_zero (W : List UInt32) (h : Vec UInt32 8) : turnV W h 0 = h := rfl
theorem turnV_succ (W : List UInt32) (h : Vec UInt32 8) (k : Nat) : (turnV W h (k + 1)).1 = turnS W (turnV W h k).1 k := rfl
def plusK (h s : List UInt32) (k : Nat) : List UInt32 := (List.range 8).map (fun i => if i < k then h.getD i 0 + s.getD i 0 else h.getD i 0)
def plusV (h s : List UInt32) (k : Nat) : Vec UInt32 8 := ⟨plusK h s k, by simp [plusK]⟩
theorem plusV_set (h s : List UInt32) (k : Nat) (hk : k < 8) : (plusV h s k).1.set k (h.getD k 0 + s.getD k 0) = (plusV h s (k + 1)).1 := by
  match k, hk with
  | 0, _ => rfl
  | 1, _ => rfl
  | 2, _ => rfl
  | 3, _ => rfl
  | 4, _ => rfl
  | 5, _ => rfl
  | 6, _ => rfl
  | 7, _ => rfl
theorem plusV_at (h s : List UInt32) (k : Nat) (hk : k < 8) : (plusV h s k).1.getD k 0 = h.getD k 0 := by
  match k, hk with
  | 0, _ => rfl
  | 1, _ => rfl
  | 2, _ => rfl
  | 3, _ => rfl
  | 4, _ => rfl
  | 5, _ => rfl
  | 6, _ => rfl
  | 7, _ => rfl
theorem vec8 (v : Vec UInt32 8) : ∃ a b c d e f g h, v.1 = [a, b, c, d, e, f, g, h] := by
  obtain ⟨l, hl⟩ := v
  match l, hl with
  | [a, b, c, d, e, f, g, h], _ => exact ⟨a, b, c, d, e, f, g, h, rfl⟩
theorem plusV_zero (v : Vec UInt32 8) (s : List UInt32) : (plusV v.1 s 0).1 = v.1 := by
  obtain ⟨a, b, c, d, e, f, g, h, hv⟩ := vec8 v
  rw [hv]; rfl
def blockL (h : Vec UInt32 8) (L : List UInt8) : Vec UInt32 8 := plusV h.1 (turnV (spreadV L 64).1 h 64).1 8
def shaKV : Vec UInt32 64 := ⟨shaK, rfl⟩
theorem constants_shaV (w : World) (F : Nat → Prop) : GivesV Tryz.prog 210 [] w F (.agg ⟨shaKV.1.map w32⟩) := constants_sha w F
theorem shaKV_eq : shaKV.1 = shaK := rfl
attribute [local irreducible] shaKV spreadV turnV plusV
set_option maxHeartbeats 2000000 in
theorem block_sha (w : World) (F : Nat → Prop) (a : Option Addr) (c : Nat) (L : List UInt8) (h : Vec UInt32 8) (hs : (sl a c L).holds F w) (hL : L.length = 64) :
    GivesV Tryz.prog 169 [.agg ⟨h.1.map w32⟩, .slice a L.length c] w F (.tuple ⟨[.agg ⟨(blockL h L).1.map w32⟩, .bool true]⟩) := by
  refine gives_of Tryz.func169 rfl Tryz.ntmps169 rfl rfl [.st (sl a c L)] (.start1 hs) ?_
  repeat (first|refine Wa ?_|refine Wb ?_|refine Wc ?_|refine Wd ?_|refine We rfl ?_|refine Wf (by first|exact Va|exact Vb|exact Vf|exact Vm) rfl ?_|(refine Wg rfl ?_; intro _)|(refine Wh rfl ?_; intro _))
  rename_i bh br
  refine JC.test (fun h0 => ?_) (fun h0 => ?_)
  · simp [hL] at h0
  repeat (first|refine Wa ?_|refine Wb ?_|refine Wl ?_)
  refine JC.cut (fun q : Nat × Nat × Nat => [(2, .pointer (some ⟨bh, 0, none⟩)), (4, .pointer (some ⟨br, 0, none⟩)), (6, .pointer (some ⟨q.1, 0, none⟩)), (7, .pointer (some ⟨q.2.1, 0, none⟩)), (8, .pointer (some ⟨q.2.2, 0, none⟩))])
    (fun q => [.own bh 182 (h.1.map w32), .own br 182 [.int .u32 0, .int .u32 0, .int .u32 0, .int .u32 0, .int .u32 0, .int .u32 0, .int .u32 0, .int .u32 0], .own q.1 226 (shaKV.1.map w32), .own q.2.1 226 ((spreadV L 64).1.map w32), .own q.2.2 182 (h.1.map w32)]) ?_ ?_
  · refine JC.draw 7 mixed ?_
    refine JM.takeCall 0 rfl (by kernel_rfl) rfl (fun w1 hw => constants_shaV w1 _) rfl rfl ?_
    refine JM.take 1 rfl (by kernel_rfl) rfl Va rfl rfl ?_
    refine JM.takeCall 2 rfl (by kernel_rfl) rfl (fun w1 hw => spread_sha w1 _ a c L hw.get hL) rfl rfl ?_
    refine JM.allocsBut (i0 := 3) (i1 := 4) (i2 := 5) (i3 := 6) rfl Vc rfl rfl rfl (by kernel_rfl) rfl rfl rfl ?_ ?_
    · intro q1 q2 q3
      refine JM.last 7 (by kernel_rfl) rfl rfl rfl (Wi (Wd ⟨rfl, ?_⟩))
      refine JM.last 8 (by kernel_rfl) rfl rfl rfl (Wi (Wd ⟨rfl, ?_⟩))
      refine JM.last 9 (by kernel_rfl) rfl rfl rfl (Wi (Wd ⟨rfl, ?_⟩))
      refine JM.nil (by kernel_rfl) ?_
      exact ⟨rfl, (q1, q2, q3), inferInstance⟩
    · intro q1 q2 q3
      refine JM.mix 3 7 (by kernel_rfl) rfl rfl rfl rfl rfl rfl rfl (JS.val Vc rfl ?_) (Wi (Wd ⟨rfl, ?_⟩))
      · refine JM.last 7 (by kernel_rfl) rfl rfl rfl (Wi (Wd ⟨rfl, ?_⟩))
        refine JM.last 8 (by kernel_rfl) rfl rfl rfl (Wi (Wd ⟨rfl, ?_⟩))
        refine JM.last 9 (by kernel_rfl) rfl rfl rfl (Wi (Wd ⟨rfl, ?_⟩))
        refine JM.nil (by kernel_rfl) ?_
        exact ⟨rfl, (q1, q2, q3), inferInstance⟩
      · refine JM.mix 3 8 (by kernel_rfl) rfl rfl rfl rfl rfl rfl rfl (JS.val Vc rfl ?_) (Wi (Wd ⟨rfl, ?_⟩))
        · refine JM.last 8 (by kernel_rfl) rfl rfl rfl (Wi (Wd ⟨rfl, ?_⟩))
          refine JM.last 9 (by kernel_rfl) rfl rfl rfl (Wi (Wd ⟨rfl, ?_⟩))
          refine JM.nil (by kernel_rfl) ?_
          exact ⟨rfl, (q1, q2, q3), inferInstance⟩
        · refine JM.one 3 (by kernel_rfl) rfl rfl rfl rfl (JS.val Vc rfl ?_)
          refine JM.last 9 (by kernel_rfl) rfl rfl rfl (Wi (Wd ⟨rfl, ?_⟩))
          refine JM.nil (by kernel_rfl) ?_
          exact ⟨rfl, (q1, q2, q3), inferInstance⟩
  rintro ⟨q1, q2, q3⟩
  repeat (first|refine Wa ?_|refine Wb ?_|refine Wc ?_|refine Wd ?_|refine We rfl ?_|refine Wf (by exact Va) rfl ?_|refine Wn ?_)
  refine JC.loop1 (fun k : Nat => [(2, .pointer (some ⟨bh, 0, none⟩)), (4, .pointer (some ⟨br, 0, none⟩)), (6, .pointer (some ⟨q1, 0, none⟩)), (7, .pointer (some ⟨q2, 0, none⟩)), (8, .pointer (some ⟨q3, 0, none⟩)), (21, .int .i64 (k : Int))])
    (fun k => [.own bh 182 (h.1.map w32), .own br 182 [.int .u32 0, .int .u32 0, .int .u32 0, .int .u32 0, .int .u32 0, .int .u32 0, .int .u32 0, .int .u32 0], .own q1 226 (shaKV.1.map w32), .own q2 226 ((spreadV L 64).1.map w32), .own q3 182 ((turnV (spreadV L 64).1 h k).1.map w32)])
    (fun k => k ≤ 64) (fun k => 64 - k) 0 (Nat.zero_le _) (by rw [turnV_zero]; infer_instance) ?_
  intro k hk
  repeat (first|refine Wa ?_|refine Wb ?_|refine Wc ?_|refine Wd ?_|refine We rfl ?_|refine Wf (by exact Vg) rfl ?_)
  refine JC.test (fun hlt => ?_) (fun hge => ?_)
  · have hlt' : k < 64 := by omega
    have hkk : k < shaKV.1.length := by rw [shaKV.2]; exact hlt'
    have hkw : k < (spreadV L 64).1.length := by rw [(spreadV L 64).2]; exact hlt'
    obtain ⟨x0, x1, x2, x3, x4, x5, x6, x7, hx⟩ := vec8 (turnV (spreadV L 64).1 h k)
    have hnext := turnV_succ (spreadV L 64).1 h k
    rw [hx] at hnext ⊢
    repeat (first|refine Wa ?_|refine Wb ?_|refine Wc ?_|refine Wd ?_|refine We rfl ?_|refine Wf (by first|exact Va|exact Vb) rfl ?_|refine Wl ?_|refine Wn ?_)
    refine JC.quiet mixed (by kernel_rfl) ?_
    refine Wy rfl (OpV.indexArr (k := 7) (by decide)) rfl ?_
    refine Wy rfl (OpV.getW 7 (by simp) rfl rfl) rfl ?_
    refine Wy rfl (OpV.indexArr (k := 4) (by decide)) rfl ?_
    refine Wy rfl (OpV.getW 4 (by simp) rfl rfl) rfl ?_
    refine JQ.call rfl rfl (fun w1 hw => great_sha w1 _ _ 6 11 25 (by decide) (by decide) (by decide)) ?_
    refine Wy rfl OpV.add32 rfl ?_
    refine Wy rfl (OpV.indexArr (k := 4) (by decide)) rfl ?_
    refine Wy rfl (OpV.getW 4 (by simp) rfl rfl) rfl ?_
    refine Wy rfl (OpV.indexArr (k := 5) (by decide)) rfl ?_
    refine Wy rfl (OpV.getW 5 (by simp) rfl rfl) rfl ?_
    refine Wy rfl (OpV.indexArr (k := 6) (by decide)) rfl ?_
    refine Wy rfl (OpV.getW 6 (by simp) rfl rfl) rfl ?_
    refine JQ.call rfl rfl (fun w1 hw => pick_rot w1 _ _ _ _) ?_
    refine Wy rfl OpV.add32 rfl ?_
    refine Wy rfl Va rfl ?_
    refine Wy rfl (OpV.indexArr hlt') rfl ?_
    refine Wy rfl (OpV.getW k hkk (by omega) rfl) rfl ?_
    refine Wy rfl OpV.add32 rfl ?_
    refine Wy rfl Va rfl ?_
    refine Wy rfl (OpV.indexArr hlt') rfl ?_
    refine Wy rfl (OpV.getW k hkw (by omega) rfl) rfl ?_
    refine Wy rfl OpV.add32 rfl ?_
    refine JQ.reslot 45 (w32 (one32 (spreadV L 64).1 [x0, x1, x2, x3, x4, x5, x6, x7] k)) (by simp only [getD_at, shaKV_eq]; rfl) ?_
    refine Wy rfl Vb rfl ?_
    refine WB ?_
    repeat (first|refine Wa ?_|refine Wb ?_)
    refine JC.quiet mixed (by kernel_rfl) ?_
    refine Wy rfl (OpV.indexArr (k := 0) (by decide)) rfl ?_
    refine Wy rfl (OpV.getW 0 (by simp) rfl rfl) rfl ?_
    refine JQ.call rfl rfl (fun w1 hw => great_sha w1 _ _ 2 13 22 (by decide) (by decide) (by decide)) ?_
    refine Wy rfl (OpV.indexArr (k := 0) (by decide)) rfl ?_
    refine Wy rfl (OpV.getW 0 (by simp) rfl rfl) rfl ?_
    refine Wy rfl (OpV.indexArr (k := 1) (by decide)) rfl ?_
    refine Wy rfl (OpV.getW 1 (by simp) rfl rfl) rfl ?_
    refine Wy rfl (OpV.indexArr (k := 2) (by decide)) rfl ?_
    refine Wy rfl (OpV.getW 2 (by simp) rfl rfl) rfl ?_
    refine JQ.call rfl rfl (fun w1 hw => most_rot w1 _ _ _ _) ?_
    refine Wy rfl OpV.add32 rfl ?_
    refine JQ.reslot 56 (w32 (two32 [x0, x1, x2, x3, x4, x5, x6, x7])) rfl ?_
    refine Wy rfl Vb rfl ?_
    refine WB ?_
    repeat (first|refine Wa ?_|refine Wb ?_)
    refine JC.draw 2 mixed ?_
    refine JM.take 0 rfl (by kernel_rfl) rfl (OpV.sliceArrFrom (l := 1) (by decide) rfl) rfl rfl ?_
    refine JM.take 1 rfl (by kernel_rfl) rfl (OpV.sliceArrTo (k := 7) (by decide)) rfl rfl ?_
    refine JM.last 2 (by kernel_rfl) rfl rfl rfl (JR.copyOwn (cs := [x0, x1, x2, x3, x4, x5, x6].map w32) rfl rfl (by decide) rfl (by simp) inferInstance ?_)
    refine JO.reown q3 ([x0, x0, x1, x2, x3, x4, x5, x6].map w32) rfl (Wd ⟨rfl, ?_⟩)
    refine JM.nil (by kernel_rfl) ?_
    repeat (first|refine Wa ?_|refine Wb ?_|refine Wc ?_|refine We rfl ?_)
    refine Wf (OpV.indexArr (k := 4) (by decide)) rfl ?_
    refine We rfl ?_
    refine Wf (OpV.getW 4 (by simp) rfl rfl) rfl ?_
    refine We rfl ?_
    refine Wf Va rfl ?_
    refine We rfl ?_
    refine Wf OpV.add32 rfl ?_
    refine We rfl ?_
    refine Wf (OpV.indexArr (k := 4) (by decide)) rfl ?_
    refine We rfl ?_
    refine JR.setW 4 (x3 + one32 (spreadV L 64).1 [x0, x1, x2, x3, x4, x5, x6, x7] k) (by simp) rfl rfl ?_
    repeat (first|refine Wa ?_|refine Wc ?_|refine Wd ?_|refine We rfl ?_|refine Wf (by exact Va) rfl ?_)
    refine Wf OpV.add32 rfl ?_
    refine We rfl ?_
    refine Wf (OpV.indexArr (k := 0) (by decide)) rfl ?_
    refine We rfl ?_
    refine JR.setW 0 (one32 (spreadV L 64).1 [x0, x1, x2, x3, x4, x5, x6, x7] k + two32 [x0, x1, x2, x3, x4, x5, x6, x7]) (by simp) rfl rfl ?_
    refine JO.reown q3 ((turnV (spreadV L 64).1 h (k + 1)).1.map w32) (by rw [hnext]; rfl) ?_
    repeat (first|refine Wa ?_|refine Wc ?_|refine Wd ?_|refine We rfl ?_|refine Wf (by first|exact Va|exact Vk (by omega)) rfl ?_|refine Wr ?_)
    exact ⟨k + 1, by omega, by omega, inferInstance⟩
  · obtain rfl : k = 64 := by omega
    obtain ⟨S, hS⟩ : ∃ S, S = turnV (spreadV L 64).1 h 64 := ⟨_, rfl⟩
    have hb : (blockL h L).1 = (plusV h.1 S.1 8).1 := by rw [hS]; rfl
    rw [← hS, hb]
    repeat (first|refine Wa ?_|refine Wb ?_|refine Wc ?_|refine Wd ?_|refine We rfl ?_|refine Wf (by exact Va) rfl ?_|refine Wm ?_|refine Wn ?_|refine Wo ?_|refine Wp ?_)
    refine JC.loop1 (fun k : Nat => [(2, .pointer (some ⟨bh, 0, none⟩)), (4, .pointer (some ⟨br, 0, none⟩)), (8, .pointer (some ⟨q3, 0, none⟩)), (70, .int .i64 (k : Int))])
      (fun k => [.own bh 182 ((plusV h.1 S.1 k).1.map w32), .own br 182 [.int .u32 0, .int .u32 0, .int .u32 0, .int .u32 0, .int .u32 0, .int .u32 0, .int .u32 0, .int .u32 0], .own q3 182 (S.1.map w32)])
      (fun k => k ≤ 8) (fun k => 8 - k) 0 (Nat.zero_le _) (by rw [plusV_zero]; infer_instance) ?_
    intro k hk
    repeat (first|refine Wa ?_|refine Wb ?_|refine Wc ?_|refine Wd ?_|refine We rfl ?_|refine Wf (by exact Vg) rfl ?_)
    refine JC.test (fun hlt => ?_) (fun hge => ?_)
    · have hlt' : k < 8 := by omega
      have hk1 : k < (plusV h.1 S.1 k).1.length := by rw [(plusV h.1 S.1 k).2]; exact hlt'
      have hk2 : k < S.1.length := by rw [S.2]; exact hlt'
      repeat (first|refine Wa ?_|refine Wb ?_|refine Wc ?_|refine Wd ?_|refine We rfl ?_|refine Wf (by first|exact Va|exact Vb) rfl ?_|refine Wl ?_|refine Wn ?_)
      refine JC.draw 8 mixed ?_
      refine JM.take 0 rfl (by kernel_rfl) rfl Va rfl rfl ?_
      refine JM.take 1 rfl (by kernel_rfl) rfl (OpV.indexArr hlt') rfl rfl ?_
      refine JM.take 2 rfl (by kernel_rfl) rfl (OpV.getW k hk1 (by omega) rfl) rfl rfl ?_
      refine JM.take 3 rfl (by kernel_rfl) rfl Va rfl rfl ?_
      refine JM.take 4 rfl (by kernel_rfl) rfl (OpV.indexArr hlt') rfl rfl ?_
      refine JM.take 5 rfl (by kernel_rfl) rfl (OpV.getW k hk2 (by omega) rfl) rfl rfl ?_
      refine JM.take 6 rfl (by kernel_rfl) rfl OpV.add32 rfl rfl ?_
      refine JM.take 7 rfl (by kernel_rfl) rfl (OpV.indexArr hlt') rfl rfl ?_
      refine JM.reslot 79 (w32 (h.1.getD k 0 + S.1.getD k 0)) (by simp only [getD_at]; rw [plusV_at _ _ _ hlt']) ?_
      refine JM.last 8 (by kernel_rfl) rfl rfl rfl (JR.setW k (h.1.getD k 0 + S.1.getD k 0) hk1 (by omega) rfl (JO.reown bh ((plusV h.1 S.1 (k + 1)).1.map w32) (by rw [plusV_set _ _ _ hlt']) (Wd ⟨rfl, ?_⟩)))
      refine JM.nil (by kernel_rfl) ?_
      repeat (first|refine Wa ?_|refine Wc ?_|refine Wd ?_|refine We rfl ?_|refine Wf (by first|exact Va|exact Vk (by omega)) rfl ?_|refine Wr ?_)
      exact ⟨k + 1, by omega, by omega, inferInstance⟩
    · obtain rfl : k = 8 := by omega
      repeat (first|refine Wa ?_|refine Wb ?_|refine Wc ?_|refine Wd ?_|refine We rfl ?_|refine Wf (by first|exact Vb|exact Vc) rfl ?_|refine Wi ?_|refine Wm ?_|refine Wo ?_|refine Wp ?_|refine Ws ?_)
      exact CT.done () rfl (fun w ho => ho.ent)
end Ab
end Go.Proofs.YtdgeffphifgflaaGreat
namespace Go.Proofs.YtdgeffphifgflaaGreat
namespace Ab
open Go Go.RowKit
set_option linter.unusedVariables false
set_option linter.unusedSimpArgs false
set_option synthInstance.maxSize 4000
set_option synthInstance.maxHeartbeats 400000
attribute [local irreducible] JC JO JR JQ andThen inBlock OpV Gives retTo JM JS
def padZ (n : Nat) : Nat := (119 - n % 64) % 64
def padL (L : List UInt8) : List UInt8 := (L ++ [128]) ++ List.replicate (padZ L.length) 0 ++ longL (UInt64.ofNat (L.length * 8))
instance {x : UInt64} : Len ((longL x).map byteV) 8 := ⟨by simp [longL]⟩
instance {x : UInt32} : Len ((fourL x).map byteV) 4 := ⟨by simp [fourL]⟩
instance {Γ : List Fact} : Typed Γ [.int .u8 128] (128 : UInt8) := ⟨(), rfl, by simp [Cell.facts]⟩
instance {Γ : List Fact} : Typed Γ [.int .u8 0] (0 : UInt8) := ⟨(), rfl, by simp [Cell.facts]⟩
set_option maxHeartbeats 1000000 in
theorem pad_sha (w : World) (F : Nat → Prop) (a : Option Addr) (c : Nat) (L : List UInt8) (h : (sl a c L).holds F w) (hL : L.length ≤ 1048576) :
    GivesBuf Tryz.prog 168 [.slice a L.length c] w F 5 (padL L) := by
  refine gives_of Tryz.func168 rfl Tryz.ntmps168 rfl rfl [.st (sl a c L)] (.start1 h) ?_
  repeat (first|refine Wa ?_|refine Wb ?_|refine Wc ?_|refine Wd ?_|refine We rfl ?_|refine Wf (by first|exact Va|exact Vb|exact Vf|exact Vt (by omega)) rfl ?_)
  have hn128 : NatI ((L.length : Int) + 128) (L.length + 128) := ⟨by omega⟩
  refine JR.makeBytes (l := L.length) (c := L.length + 128) rfl ⟨by omega, by omega⟩ ?_
  intro b
  repeat (first|refine Wa ?_|refine Wb ?_|refine Wc ?_|refine Wd ?_|refine We rfl ?_|refine Wf (by first|exact Va|exact Vb) rfl ?_)
  refine JR.copyBuf (M := L) rfl (by simp) ?_
  intro a1 c1 e1
  injection e1 with e1 e2 e3
  subst e1 e3
  refine JO.reslot 3 (.slice (some ⟨b, 0, none⟩) L.length (L.length + 128)) (by simp) ?_
  repeat (first|refine Wa ?_|refine Wb ?_|refine Wc ?_|refine Wd ?_|refine We rfl ?_|refine Wf (by exact Va) rfl ?_|(refine Ww rfl ⟨rfl, by decide, by decide, by decide⟩ ?_; intro _))
  refine JR.append1 rfl (by exact ⟨rfl, rfl, by decide⟩) (by omega) ?_
  intro a2 c2
  repeat (first|refine Wa ?_|refine Wb ?_|refine Wd ?_|refine We rfl ?_|refine Wf (by exact Vb) rfl ?_|refine Wn ?_)
  have hz : padZ L.length < 64 := Nat.mod_lt _ (by decide)
  refine JC.loop3 (fun (k : Nat) p q => [(0, .slice a L.length c), (3, .slice p ((L ++ [128]) ++ List.replicate k (0 : UInt8)).length q)]) (fun k p q => [.res (buf p q 5 ((L ++ [128]) ++ List.replicate k (0 : UInt8)))])
    (fun k _ _ => k ≤ padZ L.length) (fun k _ _ => padZ L.length - k) 0 a2 c2 (Nat.zero_le _) (by rw [List.replicate_zero, List.append_nil]; infer_instance) ?_
  intro k p q hk
  repeat (first|refine Wb ?_|refine Wc ?_|refine We rfl ?_|refine Wf (by first|exact Va|exact Vf) rfl ?_)
  have hlen : ((L ++ [128]) ++ List.replicate k (0 : UInt8)).length = L.length + 1 + k := by simp; omega
  refine Wf (OpV.rem (by decide)) rfl ?_
  refine JO.reslot 19 (.int .i64 (((L.length + 1 + k) % 64 : Nat) : Int)) (by rw [hlen, Int.tmod_eq_emod_of_nonneg (by omega)]; congr 1) ?_
  repeat (first|refine Wa ?_|refine Wd ?_|refine We rfl ?_|refine Wf (by exact Vm) rfl ?_)
  refine JC.test (fun h1 => ?_) (fun h1 => ?_)
  · have h2 : k < padZ L.length := by simp only [padZ] at hk ⊢; omega
    repeat (first|refine Wa ?_|refine Wc ?_|refine We rfl ?_|refine Wf (by exact Va) rfl ?_|refine Wl ?_|refine Wn ?_|(refine Ww rfl ⟨rfl, by decide, by decide, by decide⟩ ?_; intro _))
    refine JR.append1 rfl (by exact ⟨rfl, rfl, by decide⟩) (by rw [hlen]; omega) ?_
    intro a3 c3
    repeat (first|refine Wa ?_|refine Wd ?_|refine We rfl ?_|refine Wf (by exact Vb) rfl ?_|refine Wr ?_)
    have hs : (L ++ [128]) ++ List.replicate (k + 1) (0 : UInt8) = (L ++ [128]) ++ List.replicate k (0 : UInt8) ++ [0] := by rw [List.replicate_succ', ← List.append_assoc]
    exact ⟨k + 1, a3, c3, by omega, by omega, by rw [hs]; infer_instance⟩
  · have h2 : k = padZ L.length := by simp only [padZ] at hk ⊢; omega
    subst h2
    repeat (first|refine Wa ?_|refine Wb ?_|refine Wc ?_|refine We rfl ?_|refine Wf (by first|exact Va|exact Vf) rfl ?_|refine Wm ?_|refine Wo ?_|refine Wp ?_)
    refine Wf OpV.conv rfl ?_
    refine JO.reslot 26 (.int .u64 (L.length : Int)) (congrArg (Value.int .u64) (by rw [wrap64]; omega)) ?_
    repeat (refine We rfl ?_)
    refine Wf (OpV.shl (by decide)) rfl ?_
    refine JO.reslot 27 (w64 (UInt64.ofNat (L.length * 8))) (congrArg (Value.int .u64) (by
      show IntKind.u64.wrap ((L.length : Int) * 2 ^ 3) = _
      rw [show ((L.length : Int) * 2 ^ 3) = ((L.length * 8 : Nat) : Int) by omega, wrap64, UInt64.toNat_ofNat'])) ?_
    repeat (refine We rfl ?_)
    refine JR.callV rfl (fun w1 hw => long_rot w1 _ _) ?_
    repeat (first|refine Wa ?_|refine Wb ?_|refine Wc ?_|refine Wd ?_|refine We rfl ?_|refine Wf (by exact Va) rfl ?_|(refine Wg rfl ?_; intro _)|refine Wi ?_)
    refine Wf (OpV.sliceArr (by decide)) rfl ?_
    refine We rfl ?_
    refine JR.appendBytes (M := longL (UInt64.ofNat (L.length * 8))) rfl rfl rfl (by simp [longL]) (by exact ⟨rfl, rfl, by decide⟩) (by rw [hlen]; omega) ?_
    intro a3 c3
    repeat (first|refine Wa ?_|refine Wd ?_|refine We rfl ?_|refine Wf (by exact Vb) rfl ?_|refine Ws ?_)
    exact CT.done (a3, c3) rfl (fun w ho => (ho.ent : Hold _ _ [.res (buf a3 c3 5 ((L ++ [128]) ++ List.replicate (padZ L.length) (0 : UInt8) ++ longL (UInt64.ofNat (L.length * 8))))] w))
end Ab
end Go.Proofs.YtdgeffphifgflaaGreat
namespace Go.Proofs.YtdgeffphifgflaaGreat
namespace Ab
open Go Go.RowKit
set_option linter.unusedVariables false
set_option linter.unusedSimpArgs false
set_option synthInstance.maxSize 4000
set_option synthInstance.maxHeartbeats 400000
attribute [local irreducible] JC JO JR JQ andThen inBlock OpV Gives retTo JM JS
attribute [local irreducible] spreadK shaKV spreadV turnV plusV blockL
theorem padL_length (L : List UInt8) : (padL L).length = 64 * ((L.length + 72) / 64) := by
  simp only [padL, List.length_append, List.length_replicate, longL, List.length_map, List.length_range, List.length_singleton, padZ]
  omega
def blocksV : Nat → Vec UInt32 8 → List UInt8 → Vec UInt32 8
  | 0, h, _ => h
  | n + 1, h, p => blocksV n (blockL h (p.take 64)) (p.drop 64)
def shaSV : Vec UInt32 8 := ⟨shaS, rfl⟩
theorem start_shaV (w : World) (F : Nat → Prop) : GivesV Tryz.prog 167 [] w F (.agg ⟨shaSV.1.map w32⟩) := start_sha w F
def sumV (L : List UInt8) : Vec UInt32 8 := blocksV ((padL L).length / 64) shaSV (padL L)
def outK (h : List UInt32) (k : Nat) : List UInt8 := (h.take k).flatMap fourL ++ List.replicate (32 - 4 * k) 0
theorem flat4 (h : List UInt32) : (h.flatMap fourL).length = 4 * h.length := by
  induction h with
  | nil => rfl
  | cons x h ih => simp only [List.flatMap_cons, List.length_append, ih, List.length_cons]; simp [fourL]; omega
theorem outK_length (h : Vec UInt32 8) (k : Nat) (hk : k ≤ 8) : (outK h.1 k).length = 32 := by
  have := h.2
  simp only [outK, List.length_append, flat4, List.length_take, List.length_replicate]
  omega
theorem outK_zero (h : List UInt32) : outK h 0 = List.replicate 32 0 := by simp [outK]
theorem outK_next (h : Vec UInt32 8) (k : Nat) (hk : k < 8) : (outK h.1 k).take (4 * k) ++ fourL (h.1.getD k 0) ++ (outK h.1 k).drop (4 * k + 4) = outK h.1 (k + 1) := by
  have h8 := h.2
  have h4 : ((h.1.take k).flatMap fourL).length = 4 * k := by rw [flat4, List.length_take]; omega
  rw [outK, outK, List.take_left' h4, List.drop_append, h4, List.drop_eq_nil_of_le (by omega), List.nil_append, List.drop_replicate, List.take_succ_eq_append_getElem (by omega), List.flatMap_append]
  have hg : h.1[k]'(by omega) = h.1.getD k 0 := by simp [List.getD_eq_getElem?_getD, h8, hk]
  simp only [List.flatMap_cons, List.flatMap_nil, List.append_nil, hg]
  congr 2
  omega
def sumL (L : List UInt8) : List UInt8 := (sumV L).1.flatMap fourL
theorem sumL_length (L : List UInt8) : (sumL L).length = 32 := by rw [sumL, flat4, (sumV L).2]
def idOfS (S : Vec UInt32 8) : ID := ⟨S.1.flatMap fourL, by rw [flat4, S.2]⟩
def sumI (L : List UInt8) : ID := idOfS (sumV L)
theorem sumI_val (L : List UInt8) : (sumI L).1 = sumL L := rfl
theorem part_word {S : List UInt32} {k : Nat} (h : k < S.length) (w : World) : (part 62 ⟨S.map w32⟩ (k * 1)).run Tryz.prog w = .ok (w32 (S.getD k 0)) w := by
  have hagg : (isAgg 62).run Tryz.prog w = .ok false w := by
    unfold isAgg
    rw [Sem.run_bind, run_und (P := Tryz.prog) (t := 62) w]
    rfl
  have hv : (⟨S.map w32⟩ : Array Value)[k * 1]? = some (w32 (S.getD k 0)) := by
    rw [Nat.mul_one]
    simp [List.getD_eq_getElem?_getD, h]
  unfold part
  rw [Sem.run_bind, hagg]
  simp only [Result.andThen_ok, Bool.false_eq_true, if_false, hv]
  rfl
set_option maxHeartbeats 1000000 in
theorem sum_sha (w : World) (F : Nat → Prop) (a : Option Addr) (c : Nat) (L : List UInt8) (h : (sl a c L).holds F w) (hL : L.length ≤ 1048576) :
    GivesV Tryz.prog 110 [.slice a L.length c] w F (.agg ⟨idc (sumI L)⟩) := by
  have hpl := padL_length L
  refine gives_of Tryz.func110 rfl Tryz.ntmps110 rfl rfl [.st (sl a c L)] (.start1 h) ?_
  repeat (first|refine Wa ?_|refine Wb ?_|refine Wc ?_|refine Wd ?_|refine We rfl ?_|(refine Wg rfl ?_; intro _))
  refine JR.callV rfl (fun w1 hw => start_shaV w1 _) ?_
  repeat (first|refine Wa ?_|refine Wb ?_|refine Wc ?_|refine Wd ?_|refine We rfl ?_|refine Wf (by exact Va) rfl ?_|(refine Wg rfl ?_; intro _)|refine Wi ?_)
  refine JR.callBuf rfl (fun w1 hw => pad_sha w1 _ a c L hw.get hL) ?_
  intro a1 c1
  refine JO.more (fun w1 ho => ho.pub) ?_
  repeat (first|refine Wa ?_|refine Wd ?_|refine We rfl ?_|refine Wf (by exact Vb) rfl ?_|refine Wn ?_)
  rename_i bi bh
  refine JC.reown bi ((List.replicate 32 (0 : UInt8)).map byteV) (by rw [List.map_replicate]; rfl) ?_
  refine JC.loop4 (fun (k : Nat) (H : Vec UInt32 8) p q => [(2, .pointer (some ⟨bi, 0, none⟩)), (3, .pointer (some ⟨bh, 0, none⟩)), (4, .slice p ((padL L).drop (64 * k)).length q)])
    (fun k H p q => [.own bi 81 ((List.replicate 32 (0 : UInt8)).map byteV), .own bh 182 (H.1.map w32), .st (sl p q ((padL L).drop (64 * k)))])
    (fun k H p q => 64 * k ≤ (padL L).length ∧ blocksV ((padL L).length / 64 - k) H ((padL L).drop (64 * k)) = sumV L) (fun k _ _ _ => (padL L).length - 64 * k) 0 shaSV a1 c1 ⟨Nat.zero_le _, rfl⟩ (by rw [show 64 * 0 = 0 from rfl, List.drop_zero]; infer_instance) ?_
  intro k H p q ⟨hk, hinv⟩
  repeat (first|refine Wa ?_|refine Wb ?_|refine Wc ?_|refine Wd ?_|refine We rfl ?_|refine Wf (by first|exact Va|exact Vf|exact Vo) rfl ?_)
  refine JC.test (fun h1 => ?_) (fun h1 => ?_)
  · have hk2 : 64 * k + 64 ≤ (padL L).length := by rw [List.length_drop] at h1; omega
    repeat (first|refine Wa ?_|refine Wb ?_|refine Wl ?_|refine Wn ?_)
    obtain ⟨pl, hpl2⟩ : ∃ pl, pl = (padL L).drop (64 * k) := ⟨_, rfl⟩
    have hp64 : (pl.take 64).length = 64 := by rw [hpl2, List.length_take, List.length_drop]; omega
    have hpl64 : 64 ≤ pl.length := by rw [hpl2, List.length_drop]; omega
    rw [← hpl2] at hinv ⊢
    refine JC.draw 7 mixed ?_
    refine JM.take 0 rfl (by kernel_rfl) rfl Vc rfl rfl ?_
    refine JM.take 1 rfl (by kernel_rfl) rfl Va rfl rfl ?_
    refine JM.take 2 rfl (by kernel_rfl) rfl (OpV.sliceToV (k := 64) (fun w1 ho => by have := (Hold.get (A := sl p q pl) ho).1; omega)) rfl rfl ?_
    refine JM.reslot 19 (.slice p (pl.take 64).length q) (by rw [hp64]) ?_
    refine JM.takeCall 3 rfl (by kernel_rfl) rfl (fun w1 hw => block_sha w1 _ p q (pl.take 64) H (sl_take (hw.get (A := sl p q pl)) hpl64 ⟨Nat.le_trans hpl64 (hw.get (A := sl p q pl)).1, Nat.le_refl _⟩) hp64) rfl rfl ?_
    refine JM.take 4 rfl (by kernel_rfl) rfl Va rfl rfl ?_
    refine JM.take 5 rfl (by kernel_rfl) rfl Vq rfl rfl ?_
    refine JM.mix 6 7 (by kernel_rfl) rfl rfl rfl rfl rfl rfl rfl (JS.val Vq rfl ?_) (Wi (Wd ⟨rfl, ?_⟩))
    · refine JM.last 7 (by kernel_rfl) rfl rfl rfl (Wi (Wd ⟨rfl, ?_⟩))
      refine JM.nil (by kernel_rfl) ?_
      repeat (first|refine Wa ?_|refine Wc ?_|refine We rfl ?_|refine Wf (by exact Va) rfl ?_|refine Wr ?_)
      refine JR.sliceFrom (L := pl) (k := 64) rfl rfl (by omega) ?_
      intro p2 q2
      repeat (first|refine Wa ?_|refine Wd ?_|refine We rfl ?_|refine Wf (by exact Vb) rfl ?_)
      have hd : pl.drop 64 = (padL L).drop (64 * (k + 1)) := by rw [hpl2, List.drop_drop]; congr 1
      have hn : (padL L).length / 64 - k = ((padL L).length / 64 - (k + 1)) + 1 := by omega
      refine ⟨k + 1, blockL H (pl.take 64), p2, q2, ⟨by omega, ?_⟩, by omega, by rw [← hd]; infer_instance⟩
      rw [← hd, ← hinv, hn]
      rfl
    · refine JM.one 6 (by kernel_rfl) rfl rfl rfl rfl (JS.val Vq rfl ?_)
      refine JM.nil (by kernel_rfl) ?_
      repeat (first|refine Wa ?_|refine Wc ?_|refine We rfl ?_|refine Wf (by exact Va) rfl ?_|refine Wr ?_)
      refine JR.sliceFrom (L := pl) (k := 64) rfl rfl (by omega) ?_
      intro p2 q2
      repeat (first|refine Wa ?_|refine Wd ?_|refine We rfl ?_|refine Wf (by exact Vb) rfl ?_)
      have hd : pl.drop 64 = (padL L).drop (64 * (k + 1)) := by rw [hpl2, List.drop_drop]; congr 1
      have hn : (padL L).length / 64 - k = ((padL L).length / 64 - (k + 1)) + 1 := by omega
      refine ⟨k + 1, blockL H (pl.take 64), p2, q2, ⟨by omega, ?_⟩, by omega, by rw [← hd]; infer_instance⟩
      rw [← hd, ← hinv, hn]
      rfl
  · have hk2 : 64 * k = (padL L).length := by rw [List.length_drop] at h1; omega
    have hk3 : (padL L).length / 64 - k = 0 := by omega
    rw [hk3] at hinv
    have hinv : H = sumV L := hinv
    subst hinv
    repeat (first|refine Wa ?_|refine Wb ?_|refine Wc ?_|refine Wd ?_|refine We rfl ?_|refine Wf (by first|exact Va|exact Vc) rfl ?_|refine Wm ?_|refine Wn ?_|refine Wo ?_|refine Wp ?_)
    obtain ⟨S, hS⟩ : ∃ S, S = sumV L := ⟨_, rfl⟩
    have hsum : sumI L = idOfS S := by subst hS; rfl
    rw [← hS, hsum]
    clear hS hinv hsum
    refine JC.loop1 (fun k : Nat => [(2, .pointer (some ⟨bi, 0, none⟩)), (23, .agg ⟨S.1.map w32⟩), (24, .int .i64 (k : Int))]) (fun k => [.own bi 81 ((outK S.1 k).map byteV)])
      (fun k => k ≤ 8) (fun k => 8 - k) 0 (Nat.zero_le _) (by rw [outK_zero]; infer_instance) ?_
    intro k hk
    repeat (first|refine Wa ?_|refine Wb ?_|refine Wc ?_|refine Wd ?_|refine We rfl ?_|refine Wf (by exact Vg) rfl ?_)
    refine JC.test (fun hlt => ?_) (fun hge => ?_)
    · have hlt' : k < 8 := by omega
      have hkS : k < S.1.length := by rw [S.2]; exact hlt'
      repeat (first|refine Wa ?_|refine Wb ?_|refine Wc ?_|refine We rfl ?_|refine Wf (by exact Va) rfl ?_|refine Wl ?_|refine Wn ?_)
      refine Wf (OpV.indexAgg (r := []) (v := w32 (S.1.getD k 0)) hlt' (fun w1 => part_word hkS w1)) rfl ?_
      repeat (first|refine Wa ?_|refine Wb ?_|refine Wc ?_|refine Wd ?_|refine We rfl ?_|refine Wf (by first|exact Va|exact Vb) rfl ?_)
      refine JR.callV rfl (fun w1 hw => four_rot w1 _ _) ?_
      repeat (first|refine Wa ?_|refine Wd ?_|refine We rfl ?_|(refine Wg rfl ?_; intro _)|refine Wi ?_)
      refine JC.draw 4 mixed ?_
      refine JM.take 0 rfl (by kernel_rfl) rfl Va rfl rfl ?_
      refine JM.take 1 rfl (by kernel_rfl) rfl (OpV.shl (by decide)) rfl rfl ?_
      refine JM.reslot 31 (.int .i64 ((4 * k : Nat) : Int)) (congrArg (Value.int .i64) (by show IntKind.i64.wrap ((k : Int) * 2 ^ 2) = _; rw [IntKind.wrap_i64]; omega)) ?_
      refine JM.take 2 rfl (by kernel_rfl) rfl (OpV.sliceArrFrom (l := 4 * k) (by omega) rfl) rfl rfl ?_
      refine JM.take 3 rfl (by kernel_rfl) rfl (OpV.sliceArr (by decide)) rfl rfl ?_
      have hmin : Nat.min 4 (32 - 4 * k) = 4 := Nat.min_eq_left (by omega)
      have h4 : (fourL (S.1.getD k 0)).length = 4 := by simp [fourL]
      have hout : (outK S.1 k).length = 32 := outK_length S k (by omega)
      refine JM.last 4 (by kernel_rfl) rfl rfl rfl (JR.copyOwn (cs := (fourL (S.1.getD k 0)).map byteV) rfl (by rw [hmin]; exact List.take_of_length_le (by rw [show (0 : Nat) - 0 = 0 from rfl, List.drop_zero, List.length_map, h4]; exact Nat.le_refl _)) (Nat.le_refl _) (by rw [hmin, List.length_map, h4]) (by simp only [List.length_map, h4, hout]; omega) inferInstance ?_)
      refine JO.reown bi ((outK S.1 (k + 1)).map byteV) (by rw [← outK_next S k hlt']; simp only [List.length_map, h4, List.map_append, List.map_take, List.map_drop, Nat.zero_add]) (Wd ⟨rfl, ?_⟩)
      refine JM.nil (by kernel_rfl) ?_
      repeat (first|refine Wa ?_|refine Wc ?_|refine Wd ?_|refine We rfl ?_|refine Wf (by first|exact Va|exact Vk (by omega)) rfl ?_|refine Wr ?_)
      exact ⟨k + 1, by omega, by omega, inferInstance⟩
    · obtain rfl : k = 8 := by omega
      have h8 : outK S.1 8 = S.1.flatMap fourL := by
        rw [outK, List.take_of_length_le (by rw [S.2]; exact Nat.le_refl _)]
        simp
      repeat (first | refine Wa ?_ | refine Wo ?_ | refine Wp ?_ | refine Wq rfl ?_ | refine Wr ?_ | refine Wm ?_)
      refine JC.reown bi (idc (idOfS S)) (by rw [h8]; rfl) ?_
      repeat (first|refine Wa ?_|refine Wb ?_|refine Wc ?_|refine Wd ?_|refine We rfl ?_|refine Wf (by exact Vc) rfl ?_|refine Wi ?_|refine Ws ?_)
      exact CT.done () rfl (fun w ho => ho.ent)
end Ab
end Go.Proofs.YtdgeffphifgflaaGreat
namespace Go.Proofs.YtdgeffphifgflaaGreat
namespace Ab
open Go Go.RowKit
set_option linter.unusedVariables false
set_option linter.unusedSimpArgs false
set_option synthInstance.maxSize 4000
set_option synthInstance.maxHeartbeats 400000
attribute [local irreducible] JC JO JR JQ andThen inBlock OpV Gives retTo JM JS
theorem num_enc (n : Nat) (hn : n < 18446744073709551616) (w : World) (F : Nat → Prop) : GivesBuf Tryz.prog 113 [.int .u64 (n : Int)] w F 5 (numL n) := by
  unfold GivesBuf Gives
  refine Calls.mono (callsIn_wide.1 (num_in n hn w)) ?_
  rintro e w' ⟨v, rfl, hrow, hB⟩
  have hlen := numL_length n
  rcases hrow.2 with ⟨_, h0⟩ | ⟨g, cap, cur, rfl, hg, hgb, h1, h2, h3, h4⟩
  · exfalso
    have : numL n ≠ [] := by unfold numL; simp only [numF]; split <;> simp
    exact this (List.eq_nil_of_length_eq_zero h0)
  · refine ⟨(some ⟨g, 0, none⟩, cap), rfl, Bel.of hB (fun h => False.elim h), ⟨fun f hf => ?_, by simp, fun f hf k hk => ?_⟩⟩
    · simp only [List.mem_singleton] at hf; subst hf
      refine ⟨by simp only [lim]; omega, bytesIx (numL n), map_bytes _, ⟨by rw [flat_bytes]; simp [Cell.sz], .inr ⟨g, cap, cur, rfl, Nat.zero_le _, hgb, h1, h2, h3, ?_⟩⟩, fun p hp A hA => by simp [Cell.facts] at hA⟩
      rw [flat_bytes]; exact h4
    · simp only [List.mem_singleton] at hf; subst hf
      obtain ⟨a', ha', rfl⟩ := hk
      injection ha' with ha'
      subst ha'
      exact hg
def textL (s : ByteArray) : List UInt8 := numL s.size ++ bytesOf s
theorem text_enc (s : ByteArray) (hs : s.size ≤ 1048576) (w : World) (F : Nat → Prop) : GivesBuf Tryz.prog 175 [.string s] w F 5 (textL s) := by
  have hnl := numL_length s.size
  refine gives_of Tryz.func175 rfl Tryz.ntmps175 rfl rfl [] (.start w F) ?_
  repeat (first|refine Wa ?_|refine Wb ?_|refine Wc ?_|refine Wd ?_|refine We rfl ?_|refine Wf (by first|exact Va|exact Vb|exact Vw) rfl ?_)
  refine Wf (OpV.convIn (by rw [wrap64]; omega)) rfl ?_
  repeat (refine We rfl ?_)
  refine JR.callBuf rfl (fun w1 hw => num_enc s.size (by omega) w1 _) ?_
  intro a1 c1
  repeat (first|refine We rfl ?_|refine Wf (by exact Va) rfl ?_)
  refine JR.appendStr rfl (by exact ⟨rfl, rfl, by decide⟩) (by omega) ?_
  intro a2 c2
  repeat (first|refine Wa ?_|refine Wd ?_|refine We rfl ?_|refine Wf (by exact Vb) rfl ?_|refine Ws ?_)
  exact CT.done (a2, c2) rfl (fun w ho => (ho.ent : Hold _ _ [.res (buf a2 c2 5 (numL s.size ++ bytesOf s))] w))
theorem foldN_lt {n : Int} (h : -1099511627776 ≤ n ∧ n ≤ 1099511627776) : foldN n < 18446744073709551616 := by
  unfold foldN; split <;> omega
theorem kinds2 (w : World) (F : Nat → Prop) (o : Op_) (h : -1099511627776 ≤ o.n ∧ o.n ≤ 1099511627776) : GivesBuf Tryz.prog 218 [opV o] w F 5 (numL (foldN o.n)) := by
  refine gives_of Tryz.func218 rfl Tryz.ntmps218 rfl rfl [] (.start w F) ?_
  repeat (first|refine Wa ?_|refine Wb ?_|refine Wc ?_|refine Wd ?_|refine We rfl ?_|refine Wf (by first|exact Vb|exact Vc|exact Vd) rfl ?_|(refine Wh rfl ?_; intro _))
  refine JR.callV rfl (fun w1 hw => fold_enc w1 _ o.n h) ?_
  repeat (refine We rfl ?_)
  refine JR.callBuf rfl (fun w1 hw => num_enc _ (foldN_lt h) w1 _) ?_
  intro a1 c1
  repeat (first|refine Wa ?_|refine Wd ?_|refine We rfl ?_|refine Wf (by exact Vb) rfl ?_|refine Ws ?_)
  exact CT.done (a1, c1) rfl (fun w ho => ho.ent)
theorem kinds5 (w : World) (F : Nat → Prop) (o : Op_) (h : o.elem.size ≤ 1048576) : GivesBuf Tryz.prog 222 [opV o] w F 5 (textL o.elem) := by
  refine gives_of Tryz.func222 rfl Tryz.ntmps222 rfl rfl [] (.start w F) ?_
  repeat (first|refine Wa ?_|refine Wb ?_|refine Wc ?_|refine Wd ?_|refine We rfl ?_|refine Wf (by first|exact Vb|exact Vc|exact Vd) rfl ?_|(refine Wh rfl ?_; intro _))
  refine JR.callBuf rfl (fun w1 hw => text_enc _ h w1 _) ?_
  intro a1 c1
  repeat (first|refine Wa ?_|refine Wd ?_|refine We rfl ?_|refine Wf (by exact Vb) rfl ?_|refine Ws ?_)
  exact CT.done (a1, c1) rfl (fun w ho => ho.ent)
end Ab
end Go.Proofs.YtdgeffphifgflaaGreat
namespace Go.Proofs.YtdgeffphifgflaaGreat
namespace Ab
open Go
def joinB_ren : Go.Shelf.Ren := ⟨fun | 14 => 174 | 15 => 216 | n => n, fun | 26 => 91 | n => n, fun | n => n⟩
open Go.Shelf Go.Proofs in
theorem joinB : SlLaysJ.n14 Tryz.prog joinB_ren where
  mixed := by kernel_rfl
  f14 := Tryz.func174.trans (congrArg some (by kernel_rfl))
  f15 := Tryz.func216.trans (congrArg some (by kernel_rfl))
  t0 := Tryz.underlying0
  a0 := Tryz.isAgg0
  z0 := Tryz.sizeOf0
  v0 := Tryz.zeroValue0
  t3 := Tryz.underlying3
  a3 := Tryz.isAgg3
  z3 := Tryz.sizeOf3
  v3 := Tryz.zeroValue3
  t4 := Tryz.underlying4
  a4 := Tryz.isAgg4
  z4 := Tryz.sizeOf4
  v4 := Tryz.zeroValue4
  t9 := Tryz.underlying9
  a9 := Tryz.isAgg9
  z9 := Tryz.sizeOf9
  v9 := Tryz.zeroValue9
  t20 := Tryz.underlying20
  a20 := Tryz.isAgg20
  z20 := Tryz.sizeOf20
  v20 := Tryz.zeroValue20
  t22 := Tryz.underlying22
  a22 := Tryz.isAgg22
  z22 := Tryz.sizeOf22
  v22 := Tryz.zeroValue22
  t26 := Tryz.underlying91
  a26 := Tryz.isAgg91
  z26 := Tryz.sizeOf91
  v26 := Tryz.zeroValue91
  t5 := Tryz.underlying5
  z5 := Tryz.sizeOf5
  i5 := by kernel_rfl
end Ab
end Go.Proofs.YtdgeffphifgflaaGreat
namespace Go.Proofs.YtdgeffphifgflaaGreat
namespace Ab
open Go Go.RowKit
set_option linter.unusedVariables false
set_option linter.unusedSimpArgs false
set_option synthInstance.maxSize 4000
set_option synthInstance.maxHeartbeats 400000
attribute [local irreducible] JC JO JR JQ andThen inBlock OpV Gives retTo JM JS
open Go.Proofs in
instance : Cell (List UInt8) where
  Ix := Option Addr × Nat
  sz := 1
  cells l y := [.slice y.1 l.length y.2]
  facts l y := [sl y.1 y.2 l]
  len _ _ := rfl
  one l y := by simp [Value.oneCell']
  pos := by decide
section
variable {P : Program} {n : Nn} {w0 : World} {F : Nat → Prop} {ops : Array Oper} {i d : Nat} {t : TypeId} {pos : String} {aft : Array Edge} {g : Option (Nat × Bool)} {os : List Oper} {Q : Cont} {e : E} {Γ : List Fact}
theorem JR.indexBytes {x ix : Operand} {v : Value} {L : List (List UInt8)} {kk : IntKind} {j : Int} {k : Nat} {ty el : TypeId} {sz by_ eb : Nat} {z ez : Value} {ed : TypeDesc}
    [hx : Ev e x v] [hL : HasSl Γ v (List UInt8) inferInstance L] [hi : Ev e ix (.int kk j)] [hk : NatI j k] [hT : Ty P ty (.slice el) sz by_ z] [hE : Ty P el ed 1 eb ez] (hd : Nat.blt d n.s = true) (h : k < L.length)
    (K : ∀ b o p q, JO P n w0 F ops (i + 1) os Q ((d, .pointer (some ⟨b, o, none⟩)) :: e) (.st (ro b o [.slice p (L[k]'h).length q]) :: .st (sl p q (L[k]'h)) :: Γ)) :
    JR P n w0 F ops i ⟨some d, .indexAddr ty x ix, t, pos, aft, g⟩ os Q e Γ := JR.index hd rfl h fun b o (y : Option Addr × Nat) => K b o y.1 y.2
end
theorem holdsBytes_of_sl {F : Nat → Prop} {w : World} {a : Option Addr} {c : Nat} {l : List UInt8} (h : (sl a c l).holds F w) : Lib.HoldsBytes w (.slice a l.length c) l := by
  refine ⟨a, c, rfl, fun h0 => ?_, fun ad hd i x hx => ?_⟩
  · rw [← Classical.not_not (a := l = [])]
    intro hne
    obtain ⟨b, off, h1, _⟩ := h.2.2.2 hne
    rw [h0] at h1; cases h1
  · obtain ⟨hi, hxi⟩ := List.getElem?_eq_some_iff.1 hx
    have hne : l ≠ [] := by intro h0; subst h0; simp at hi
    obtain ⟨b, off, h1, _⟩ := h.2.2.2 hne
    rw [hd] at h1
    injection h1 with h1
    subst h1 hd
    rw [Addr.add_mid]
    have := sl_byte h i hi
    rw [hxi] at this
    exact this
theorem fresh_sl {n : Nat} {F : Nat → Prop} {w : World} {v : Value} {l : List UInt8} (h : Lib.FreshBytes n w v l) (hl : l.length ≤ 1048576) : ∃ a c, v = .slice a l.length c ∧ Fresh n F [.st (sl a c l)] w := by
  obtain ⟨g, cap, zs, rfl, hB, h1, h2, hz, hb, hzs, hc, _⟩ := h
  refine ⟨some ⟨g, 0, none⟩, cap, rfl, ⟨fun f hf => ?_, by simp, fun f hf k hk => ?_⟩⟩
  · simp only [List.mem_singleton] at hf; subst hf
    refine ⟨h1, h2, by simp only [lim]; omega, fun hne => ⟨g, 0, rfl, ⟨.inr hB, ?_⟩, ?_, fun i hi => ⟨(), ?_, by simp [Cell.facts]⟩⟩⟩
    · intro f hf
      simp only [List.mem_singleton] at hf; subst hf
      exact fun h => h
    · have h0 := hc 0 (by have := List.length_pos_iff.2 hne; omega)
      rcases Nat.lt_or_ge g w.heap.size with h | h
      · exact h
      · unfold World.cell? at h0; simp [Array.getElem?_eq_none h] at h0
    · intro j v hj
      simp only [Cell.cells, List.getElem?_singleton] at hj
      split at hj
      · rename_i h0; subst h0
        injection hj with hj
        subst hj
        have h3 := hc i (by omega)
        simp only [Cell.sz, Nat.mul_one, Nat.zero_add, Nat.add_zero]
        rw [h3]
        have hi2 : i < zs.length := by omega
        have h4 : l[i] = UInt8.ofNat (zs[i]).toNat := by
          have : l[i]? = some (UInt8.ofNat (zs[i]).toNat) := by
            rw [← hzs, Lib.bytesOf, List.getElem?_map, List.getElem?_take, if_pos hi]
            simp [hi2]
          rw [List.getElem?_eq_getElem hi] at this
          injection this
        have h5 := hb zs[i] (List.getElem_mem hi2)
        rw [h4]
        simp only [byteV, List.getD_eq_getElem?_getD, List.getElem?_eq_getElem hi2, Option.getD_some]
        congr 2
        rw [UInt8.toNat_ofNat']
        omega
      · cases hj
  · simp only [List.mem_singleton] at hf; subst hf
    exact hk.elim
theorem join_bytes (w : World) (F : Nat → Prop) (a : Option Addr) (c : Nat) (ls : List (List UInt8)) (h2 : 2 ≤ ls.length) (h : (sl a c ls).holds F w) (hl : ls.flatten.length ≤ 1048576) (hl2 : ls.length ≤ 1048576) :
    GivesSl Tryz.prog 174 [.slice a ls.length c, .slice none 0 0] w F ls.flatten := by
  have hne : ls ≠ [] := by intro h0; subst h0; simp at h2
  obtain ⟨b, off, rfl, hF, hlt, hrow⟩ := h.2.2.2 hne
  obtain ⟨r, hr1, hr2, hr3⟩ := row_list ls off hrow
  have hflat : ∀ r : List (List UInt8 × Cell.Ix (List UInt8)), flat r = r.map (fun p => Value.slice (p.2 : Option Addr × Nat).1 p.1.length (p.2 : Option Addr × Nat).2) := by
    intro r
    induction r with
    | nil => rfl
    | cons p r ih => obtain ⟨x, y⟩ := p; simp only [flat, List.map_cons, ih]; rfl
  have hsum : Lib.lens ls = ls.flatten.length := by simp [Lib.lens, List.length_flatten]
  have hP : Lib.PartsAt w ⟨b, off, none⟩ (flat r) ls := by
    refine ⟨by rw [hflat, List.length_map, ← hr1, List.length_map], fun i v hv => by rw [Addr.add_mid]; exact hr2 i v hv, fun i v l hv hll => ?_⟩
    rw [hflat, List.getElem?_map] at hv
    rw [← hr1, List.getElem?_map] at hll
    cases hri : r[i]? with
    | none => rw [hri] at hv; cases hv
    | some p =>
      rw [hri] at hv hll
      injection hv with hv
      injection hll with hll
      subst hv hll
      exact holdsBytes_of_sl (hr3 p (List.mem_of_getElem? hri) _ (by simp [Cell.facts]))
  have hj := Go.Proofs.Any.bytes_Join_many joinB b off ls.length c (flat r) ls (.slice none 0 0) [] w rfl h2 hP h.1 ⟨none, 0, rfl, fun _ => rfl, nofun⟩ (by omega) (by rw [hsum, List.length_nil, Nat.zero_mul]; omega)
  unfold GivesSl Gives
  refine Calls.mono hj ?_
  rintro e w' ⟨v, rfl, hfr, hB⟩
  have hjoin : Lib.join ls [] = ls.flatten := by
    cases ls with
    | nil => rfl
    | cons x r => rw [Lib.join_cons]; simp [Lib.joinTail]
  rw [hjoin] at hfr
  obtain ⟨a', c', rfl, hf⟩ := fresh_sl (F := F) hfr hl
  exact ⟨(a', c'), rfl, Bel.of hB (fun h => False.elim h), hf⟩
theorem grow_bytes (w : World) (F : Nat → Prop) (k : Nat) (hk : k ≤ 1048576) : GivesBuf Tryz.prog 172 [.slice none 0 0, .int .i64 (k : Int)] w F 5 ([] : List UInt8) := by
  refine gives_of Tryz.func172 rfl Tryz.ntmps172 rfl rfl [] (.start w F) ?_
  repeat (first|refine Wa ?_|refine Wb ?_|refine Wc ?_|refine Wd ?_|refine We rfl ?_|refine Wf (by first|exact Va|exact Vb|exact Vc|exact Vd|exact Ve|exact Vf|exact Vg|exact Vh|exact Vi|exact Vj|exact Vk (by omega)|exact Vl|exact Vm|exact Vn|exact Vo|exact Vp|exact Vq|exact Vr|exact Vs (by omega)|exact Vt (by omega)|exact Vu (by omega)|exact Vv (by omega)|exact Vw|exact Vx|exact Vy|exact Vz|exact VA|exact VB|exact VC|exact VD|exact VE|exact VF) rfl ?_|(refine Wg rfl ?_; intro _)|(refine Wh rfl ?_; intro _)|refine Wi ?_|refine Wj ?_|refine Wk ?_|refine Wl ?_|refine Wm ?_|refine Wn ?_|refine Wo ?_|refine Wp ?_|refine Wq rfl ?_|refine Wr ?_|refine Ws ?_|refine Wt ?_|refine Wu ?_|refine Wv rfl rfl ?_|(refine Ww rfl ⟨rfl, by decide, by decide, by decide⟩ ?_; intro _))
  refine Wf OpV.cap rfl ?_
  repeat (first|refine Wa ?_|refine Wb ?_|refine Wc ?_|refine Wd ?_|refine We rfl ?_|refine Wf (by first|exact Va|exact Vb|exact Vc|exact Vd|exact Ve|exact Vf|exact Vg|exact Vh|exact Vi|exact Vj|exact Vk (by omega)|exact Vl|exact Vm|exact Vn|exact Vo|exact Vp|exact Vq|exact Vr|exact Vs (by omega)|exact Vt (by omega)|exact Vu (by omega)|exact Vv (by omega)|exact Vw|exact Vx|exact Vy|exact Vz|exact VA|exact VB|exact VC|exact VD|exact VE|exact VF) rfl ?_|(refine Wg rfl ?_; intro _)|(refine Wh rfl ?_; intro _)|refine Wi ?_|refine Wj ?_|refine Wk ?_|refine Wl ?_|refine Wm ?_|refine Wn ?_|refine Wo ?_|refine Wp ?_|refine Wq rfl ?_|refine Wr ?_|refine Ws ?_|refine Wt ?_|refine Wu ?_|refine Wv rfl rfl ?_|(refine Ww rfl ⟨rfl, by decide, by decide, by decide⟩ ?_; intro _))
  refine JC.reslot 1 (.int .i64 (k : Int)) (by first | rfl | (congr 1 <;> omega)) ?_
  refine JC.test (fun hlt => ?_) (fun hge => ?_)
  · repeat (first|refine Wa ?_|refine Wb ?_|refine Wc ?_|refine Wd ?_|refine We rfl ?_|refine Wf (by first|exact Va|exact Vb|exact Vc|exact Vd|exact Ve|exact Vf|exact Vg|exact Vh|exact Vi|exact Vj|exact Vk (by omega)|exact Vl|exact Vm|exact Vn|exact Vo|exact Vp|exact Vq|exact Vr|exact Vs (by omega)|exact Vt (by omega)|exact Vu (by omega)|exact Vv (by omega)|exact Vw|exact Vx|exact Vy|exact Vz|exact VA|exact VB|exact VC|exact VD|exact VE|exact VF) rfl ?_|(refine Wg rfl ?_; intro _)|(refine Wh rfl ?_; intro _)|refine Wi ?_|refine Wj ?_|refine Wk ?_|refine Wl ?_|refine Wm ?_|refine Wn ?_|refine Wo ?_|refine Wp ?_|refine Wq rfl ?_|refine Wr ?_|refine Ws ?_|refine Wt ?_|refine Wu ?_|refine Wv rfl rfl ?_|(refine Ww rfl ⟨rfl, by decide, by decide, by decide⟩ ?_; intro _))
    refine Wf OpV.cap rfl ?_
    refine We rfl ?_
    refine Wf (OpV.sliceToV (k := 0) (fun _ _ => Nat.zero_le _)) rfl ?_
    repeat (first|refine Wa ?_|refine Wb ?_|refine Wc ?_|refine Wd ?_|refine We rfl ?_|refine Wf (by first|exact Va|exact Vb|exact Vc|exact Vd|exact Ve|exact Vf|exact Vg|exact Vh|exact Vi|exact Vj|exact Vk (by omega)|exact Vl|exact Vm|exact Vn|exact Vo|exact Vp|exact Vq|exact Vr|exact Vs (by omega)|exact Vt (by omega)|exact Vu (by omega)|exact Vv (by omega)|exact Vw|exact Vx|exact Vy|exact Vz|exact VA|exact VB|exact VC|exact VD|exact VE|exact VF) rfl ?_|(refine Wg rfl ?_; intro _)|(refine Wh rfl ?_; intro _)|refine Wi ?_|refine Wj ?_|refine Wk ?_|refine Wl ?_|refine Wm ?_|refine Wn ?_|refine Wo ?_|refine Wp ?_|refine Wq rfl ?_|refine Wr ?_|refine Ws ?_|refine Wt ?_|refine Wu ?_|refine Wv rfl rfl ?_|(refine Ww rfl ⟨rfl, by decide, by decide, by decide⟩ ?_; intro _))
    refine JR.appendZeros (α := UInt8) (k := k) rfl (by exact ⟨rfl, rfl, by decide⟩) ⟨by omega, by omega⟩ ?_
    intro b c hc
    repeat (first|refine Wa ?_|refine Wb ?_|refine Wc ?_|refine Wd ?_|refine We rfl ?_|refine Wf (by first|exact Va|exact Vb|exact Vc|exact Vd|exact Ve|exact Vf|exact Vg|exact Vh|exact Vi|exact Vj|exact Vk (by omega)|exact Vl|exact Vm|exact Vn|exact Vo|exact Vp|exact Vq|exact Vr|exact Vs (by omega)|exact Vt (by omega)|exact Vu (by omega)|exact Vv (by omega)|exact Vw|exact Vx|exact Vy|exact Vz|exact VA|exact VB|exact VC|exact VD|exact VE|exact VF) rfl ?_|(refine Wg rfl ?_; intro _)|(refine Wh rfl ?_; intro _)|refine Wi ?_|refine Wj ?_|refine Wk ?_|refine Wl ?_|refine Wm ?_|refine Wn ?_|refine Wo ?_|refine Wp ?_|refine Wq rfl ?_|refine Wr ?_|refine Ws ?_|refine Wt ?_|refine Wu ?_|refine Wv rfl rfl ?_|(refine Ww rfl ⟨rfl, by decide, by decide, by decide⟩ ?_; intro _))
    refine Wf (OpV.sliceToV (k := 0) (fun _ _ => Nat.zero_le _)) rfl ?_
    repeat (first|refine Wa ?_|refine Wb ?_|refine Wc ?_|refine Wd ?_|refine We rfl ?_|refine Wf (by first|exact Va|exact Vb|exact Vc|exact Vd|exact Ve|exact Vf|exact Vg|exact Vh|exact Vi|exact Vj|exact Vk (by omega)|exact Vl|exact Vm|exact Vn|exact Vo|exact Vp|exact Vq|exact Vr|exact Vs (by omega)|exact Vt (by omega)|exact Vu (by omega)|exact Vv (by omega)|exact Vw|exact Vx|exact Vy|exact Vz|exact VA|exact VB|exact VC|exact VD|exact VE|exact VF) rfl ?_|(refine Wg rfl ?_; intro _)|(refine Wh rfl ?_; intro _)|refine Wi ?_|refine Wj ?_|refine Wk ?_|refine Wl ?_|refine Wm ?_|refine Wn ?_|refine Wo ?_|refine Wp ?_|refine Wq rfl ?_|refine Wr ?_|refine Ws ?_|refine Wt ?_|refine Wu ?_|refine Wv rfl rfl ?_|(refine Ww rfl ⟨rfl, by decide, by decide, by decide⟩ ?_; intro _))
    exact CT.done (some ⟨b, 0, none⟩, c) rfl (fun w ho => ho.ent)
  · refine JC.buf_nil (α := UInt8) 5 ?_
    repeat (first|refine Wa ?_|refine Wb ?_|refine Wc ?_|refine Wd ?_|refine We rfl ?_|refine Wf (by first|exact Va|exact Vb|exact Vc|exact Vd|exact Ve|exact Vf|exact Vg|exact Vh|exact Vi|exact Vj|exact Vk (by omega)|exact Vl|exact Vm|exact Vn|exact Vo|exact Vp|exact Vq|exact Vr|exact Vs (by omega)|exact Vt (by omega)|exact Vu (by omega)|exact Vv (by omega)|exact Vw|exact Vx|exact Vy|exact Vz|exact VA|exact VB|exact VC|exact VD|exact VE|exact VF) rfl ?_|(refine Wg rfl ?_; intro _)|(refine Wh rfl ?_; intro _)|refine Wi ?_|refine Wj ?_|refine Wk ?_|refine Wl ?_|refine Wm ?_|refine Wn ?_|refine Wo ?_|refine Wp ?_|refine Wq rfl ?_|refine Wr ?_|refine Ws ?_|refine Wt ?_|refine Wu ?_|refine Wv rfl rfl ?_|(refine Ww rfl ⟨rfl, by decide, by decide, by decide⟩ ?_; intro _))
    exact CT.done (none, 0) rfl (fun w ho => ho.ent)
set_option maxHeartbeats 1000000 in
theorem concat_bytes (w : World) (F : Nat → Prop) (a : Option Addr) (c : Nat) (ls : List (List UInt8)) (h : (sl a c ls).holds F w) (hl : ls.flatten.length ≤ 1048576) (hl2 : ls.length ≤ 1048576) :
    GivesBuf Tryz.prog 112 [.slice a ls.length c] w F 5 ls.flatten := by
  have hle : ∀ k, (ls.take k).flatten.length ≤ 1048576 := fun k => by
    have h1 := congrArg (fun l => l.flatten.length) (List.take_append_drop k ls)
    simp only [List.flatten_append, List.length_append] at h1
    omega
  have hnext : ∀ k (hk : k < ls.length), (ls.take (k + 1)).flatten = (ls.take k).flatten ++ ls[k] := fun k hk => by
    rw [List.take_succ_eq_append_getElem hk, List.flatten_append]; simp
  refine gives_of Tryz.func112 rfl Tryz.ntmps112 rfl rfl [.st (sl a c ls)] (.start1 h) ?_
  repeat (first|refine Wa ?_|refine Wb ?_|refine Wc ?_|refine Wd ?_|refine We rfl ?_|refine Wf (by first|exact Va|exact Vb|exact Vc|exact Vd|exact Ve|exact Vf|exact Vg|exact Vh|exact Vi|exact Vj|exact Vk (by omega)|exact Vl|exact Vm|exact Vn|exact Vo|exact Vp|exact Vq|exact Vr|exact Vs (by omega)|exact Vt (by omega)|exact Vu (by omega)|exact Vv (by omega)|exact Vw|exact Vx|exact Vy|exact Vz|exact VA|exact VB|exact VC|exact VD|exact VE|exact VF) rfl ?_|(refine Wg rfl ?_; intro _)|(refine Wh rfl ?_; intro _)|refine Wi ?_|refine Wj ?_|refine Wk ?_|refine Wl ?_|refine Wm ?_|refine Wn ?_|refine Wo ?_|refine Wp ?_|refine Wq rfl ?_|refine Wr ?_|refine Ws ?_|refine Wt ?_|refine Wu ?_|refine Wv rfl rfl ?_|(refine Ww rfl ⟨rfl, by decide, by decide, by decide⟩ ?_; intro _))
  refine JC.reslot 3 (.int .i64 (((ls.take 0).flatten.length : Nat) : Int)) rfl ?_
  refine JC.loop1 (fun k : Nat => [(0, .slice a ls.length c), (3, .int .i64 ((ls.take k).flatten.length : Int)), (9, .slice a ls.length c), (10, .int .i64 (ls.length : Int)), (11, .int .i64 (k : Int))]) (fun k => [.st (sl a c ls)])
    (fun k => k ≤ ls.length) (fun k => ls.length - k) 0 (Nat.zero_le _) inferInstance ?_
  intro k hk
  repeat (first|refine Wa ?_|refine Wb ?_|refine Wc ?_|refine Wd ?_|refine We rfl ?_|refine Wf (by first|exact Va|exact Vb|exact Vc|exact Vd|exact Ve|exact Vf|exact Vg|exact Vh|exact Vi|exact Vj|exact Vk (by omega)|exact Vl|exact Vm|exact Vn|exact Vo|exact Vp|exact Vq|exact Vr|exact Vs (by omega)|exact Vt (by omega)|exact Vu (by omega)|exact Vv (by omega)|exact Vw|exact Vx|exact Vy|exact Vz|exact VA|exact VB|exact VC|exact VD|exact VE|exact VF) rfl ?_|(refine Wg rfl ?_; intro _)|(refine Wh rfl ?_; intro _)|refine Wi ?_|refine Wj ?_|refine Wk ?_|refine Wl ?_|refine Wm ?_|refine Wn ?_|refine Wo ?_|refine Wp ?_|refine Wq rfl ?_|refine Wr ?_|refine Ws ?_|refine Wt ?_|refine Wu ?_|refine Wv rfl rfl ?_|(refine Ww rfl ⟨rfl, by decide, by decide, by decide⟩ ?_; intro _))
  refine JC.test (fun hlt => ?_) (fun hge => ?_)
  · have hlt' : k < ls.length := by omega
    have h1 := hle (k + 1)
    have h2 := hnext k hlt'
    have h3 : (ls.take (k + 1)).flatten.length = (ls.take k).flatten.length + (ls[k]).length := by rw [h2, List.length_append]
    repeat (first|refine Wa ?_|refine Wb ?_|refine Wc ?_|refine Wd ?_|refine We rfl ?_|refine Wf (by first|exact Va|exact Vb|exact Vc|exact Vd|exact Ve|exact Vf|exact Vg|exact Vh|exact Vi|exact Vj|exact Vk (by omega)|exact Vl|exact Vm|exact Vn|exact Vo|exact Vp|exact Vq|exact Vr|exact Vs (by omega)|exact Vt (by omega)|exact Vu (by omega)|exact Vv (by omega)|exact Vw|exact Vx|exact Vy|exact Vz|exact VA|exact VB|exact VC|exact VD|exact VE|exact VF) rfl ?_|(refine Wg rfl ?_; intro _)|(refine Wh rfl ?_; intro _)|refine Wi ?_|refine Wj ?_|refine Wk ?_|refine Wl ?_|refine Wm ?_|refine Wn ?_|refine Wo ?_|refine Wp ?_|refine Wq rfl ?_|refine Wr ?_|refine Ws ?_|refine Wt ?_|refine Wu ?_|refine Wv rfl rfl ?_|(refine Ww rfl ⟨rfl, by decide, by decide, by decide⟩ ?_; intro _))
    refine JR.indexBytes rfl hlt' ?_
    intro b o p q
    repeat (first|refine Wa ?_|refine Wb ?_|refine Wc ?_|refine Wd ?_|refine We rfl ?_|refine Wf (by first|exact Va|exact Vb|exact Vc|exact Vd|exact Ve|exact Vf|exact Vg|exact Vh|exact Vi|exact Vj|exact Vk (by omega)|exact Vl|exact Vm|exact Vn|exact Vo|exact Vp|exact Vq|exact Vr|exact Vs (by omega)|exact Vt (by omega)|exact Vu (by omega)|exact Vv (by omega)|exact Vw|exact Vx|exact Vy|exact Vz|exact VA|exact VB|exact VC|exact VD|exact VE|exact VF) rfl ?_|(refine Wg rfl ?_; intro _)|(refine Wh rfl ?_; intro _)|refine Wi ?_|refine Wj ?_|refine Wk ?_|refine Wl ?_|refine Wm ?_|refine Wn ?_|refine Wo ?_|refine Wp ?_|refine Wq rfl ?_|refine Wr ?_|refine Ws ?_|refine Wt ?_|refine Wu ?_|refine Wv rfl rfl ?_|(refine Ww rfl ⟨rfl, by decide, by decide, by decide⟩ ?_; intro _))
    exact ⟨k + 1, by omega, by omega, by rw [h3]; infer_instance⟩
  · obtain rfl : k = ls.length := by omega
    rw [List.take_length]
    repeat (first|refine Wa ?_|refine Wb ?_|refine Wc ?_|refine Wd ?_|refine We rfl ?_|refine Wf (by first|exact Va|exact Vb|exact Vc|exact Vd|exact Ve|exact Vf|exact Vg|exact Vh|exact Vi|exact Vj|exact Vk (by omega)|exact Vl|exact Vm|exact Vn|exact Vo|exact Vp|exact Vq|exact Vr|exact Vs (by omega)|exact Vt (by omega)|exact Vu (by omega)|exact Vv (by omega)|exact Vw|exact Vx|exact Vy|exact Vz|exact VA|exact VB|exact VC|exact VD|exact VE|exact VF) rfl ?_|(refine Wg rfl ?_; intro _)|(refine Wh rfl ?_; intro _)|refine Wi ?_|refine Wj ?_|refine Wk ?_|refine Wl ?_|refine Wm ?_|refine Wn ?_|refine Wo ?_|refine Wp ?_|refine Wq rfl ?_|refine Wr ?_|refine Ws ?_|refine Wt ?_|refine Wu ?_|refine Wv rfl rfl ?_|(refine Ww rfl ⟨rfl, by decide, by decide, by decide⟩ ?_; intro _))
    refine JR.callBuf rfl (fun w1 hw => grow_bytes w1 _ _ hl) ?_
    intro a1 c1
    repeat (first|refine Wa ?_|refine Wb ?_|refine Wc ?_|refine Wd ?_|refine We rfl ?_|refine Wf (by first|exact Va|exact Vb|exact Vc|exact Vd|exact Ve|exact Vf|exact Vg|exact Vh|exact Vi|exact Vj|exact Vk (by omega)|exact Vl|exact Vm|exact Vn|exact Vo|exact Vp|exact Vq|exact Vr|exact Vs (by omega)|exact Vt (by omega)|exact Vu (by omega)|exact Vv (by omega)|exact Vw|exact Vx|exact Vy|exact Vz|exact VA|exact VB|exact VC|exact VD|exact VE|exact VF) rfl ?_|(refine Wg rfl ?_; intro _)|(refine Wh rfl ?_; intro _)|refine Wi ?_|refine Wj ?_|refine Wk ?_|refine Wl ?_|refine Wm ?_|refine Wn ?_|refine Wo ?_|refine Wp ?_|refine Wq rfl ?_|refine Wr ?_|refine Ws ?_|refine Wt ?_|refine Wu ?_|refine Wv rfl rfl ?_|(refine Ww rfl ⟨rfl, by decide, by decide, by decide⟩ ?_; intro _))
    refine JC.loop3 (fun (k : Nat) p q => [(6, .slice p (ls.take k).flatten.length q), (25, .slice a ls.length c), (26, .int .i64 (ls.length : Int)), (27, .int .i64 (k : Int))]) (fun k p q => [.st (sl a c ls), .res (buf p q 5 (ls.take k).flatten)])
      (fun k _ _ => k ≤ ls.length) (fun k _ _ => ls.length - k) 0 a1 c1 (Nat.zero_le _) (by rw [List.take_zero, List.flatten_nil]; infer_instance) ?_
    intro k p q hk
    repeat (first|refine Wa ?_|refine Wb ?_|refine Wc ?_|refine Wd ?_|refine We rfl ?_|refine Wf (by first|exact Va|exact Vb|exact Vc|exact Vd|exact Ve|exact Vf|exact Vg|exact Vh|exact Vi|exact Vj|exact Vk (by omega)|exact Vl|exact Vm|exact Vn|exact Vo|exact Vp|exact Vq|exact Vr|exact Vs (by omega)|exact Vt (by omega)|exact Vu (by omega)|exact Vv (by omega)|exact Vw|exact Vx|exact Vy|exact Vz|exact VA|exact VB|exact VC|exact VD|exact VE|exact VF) rfl ?_|(refine Wg rfl ?_; intro _)|(refine Wh rfl ?_; intro _)|refine Wi ?_|refine Wj ?_|refine Wk ?_|refine Wl ?_|refine Wm ?_|refine Wn ?_|refine Wo ?_|refine Wp ?_|refine Wq rfl ?_|refine Wr ?_|refine Ws ?_|refine Wt ?_|refine Wu ?_|refine Wv rfl rfl ?_|(refine Ww rfl ⟨rfl, by decide, by decide, by decide⟩ ?_; intro _))
    refine JC.test (fun hlt => ?_) (fun hge => ?_)
    · have hlt' : k < ls.length := by omega
      have h1 := hle (k + 1)
      have h2 := hnext k hlt'
      have h3 : (ls.take (k + 1)).flatten.length = (ls.take k).flatten.length + (ls[k]).length := by rw [h2, List.length_append]
      repeat (first|refine Wa ?_|refine Wb ?_|refine Wc ?_|refine Wd ?_|refine We rfl ?_|refine Wf (by first|exact Va|exact Vb|exact Vc|exact Vd|exact Ve|exact Vf|exact Vg|exact Vh|exact Vi|exact Vj|exact Vk (by omega)|exact Vl|exact Vm|exact Vn|exact Vo|exact Vp|exact Vq|exact Vr|exact Vs (by omega)|exact Vt (by omega)|exact Vu (by omega)|exact Vv (by omega)|exact Vw|exact Vx|exact Vy|exact Vz|exact VA|exact VB|exact VC|exact VD|exact VE|exact VF) rfl ?_|(refine Wg rfl ?_; intro _)|(refine Wh rfl ?_; intro _)|refine Wi ?_|refine Wj ?_|refine Wk ?_|refine Wl ?_|refine Wm ?_|refine Wn ?_|refine Wo ?_|refine Wp ?_|refine Wq rfl ?_|refine Wr ?_|refine Ws ?_|refine Wt ?_|refine Wu ?_|refine Wv rfl rfl ?_|(refine Ww rfl ⟨rfl, by decide, by decide, by decide⟩ ?_; intro _))
      refine JR.indexBytes rfl hlt' ?_
      intro b o p2 q2
      repeat (first|refine Wa ?_|refine Wb ?_|refine Wc ?_|refine Wd ?_|refine We rfl ?_|refine Wf (by first|exact Va|exact Vb|exact Vc|exact Vd|exact Ve|exact Vf|exact Vg|exact Vh|exact Vi|exact Vj|exact Vk (by omega)|exact Vl|exact Vm|exact Vn|exact Vo|exact Vp|exact Vq|exact Vr|exact Vs (by omega)|exact Vt (by omega)|exact Vu (by omega)|exact Vv (by omega)|exact Vw|exact Vx|exact Vy|exact Vz|exact VA|exact VB|exact VC|exact VD|exact VE|exact VF) rfl ?_|(refine Wg rfl ?_; intro _)|(refine Wh rfl ?_; intro _)|refine Wi ?_|refine Wj ?_|refine Wk ?_|refine Wl ?_|refine Wm ?_|refine Wn ?_|refine Wo ?_|refine Wp ?_|refine Wq rfl ?_|refine Wr ?_|refine Ws ?_|refine Wt ?_|refine Wu ?_|refine Wv rfl rfl ?_|(refine Ww rfl ⟨rfl, by decide, by decide, by decide⟩ ?_; intro _))
      refine JR.appendSl rfl (by exact ⟨rfl, rfl, by decide⟩) (by omega) ?_
      intro p3 q3
      repeat (first|refine Wa ?_|refine Wb ?_|refine Wc ?_|refine Wd ?_|refine We rfl ?_|refine Wf (by first|exact Va|exact Vb|exact Vc|exact Vd|exact Ve|exact Vf|exact Vg|exact Vh|exact Vi|exact Vj|exact Vk (by omega)|exact Vl|exact Vm|exact Vn|exact Vo|exact Vp|exact Vq|exact Vr|exact Vs (by omega)|exact Vt (by omega)|exact Vu (by omega)|exact Vv (by omega)|exact Vw|exact Vx|exact Vy|exact Vz|exact VA|exact VB|exact VC|exact VD|exact VE|exact VF) rfl ?_|(refine Wg rfl ?_; intro _)|(refine Wh rfl ?_; intro _)|refine Wi ?_|refine Wj ?_|refine Wk ?_|refine Wl ?_|refine Wm ?_|refine Wn ?_|refine Wo ?_|refine Wp ?_|refine Wq rfl ?_|refine Wr ?_|refine Ws ?_|refine Wt ?_|refine Wu ?_|refine Wv rfl rfl ?_|(refine Ww rfl ⟨rfl, by decide, by decide, by decide⟩ ?_; intro _))
      exact ⟨k + 1, p3, q3, by omega, by omega, by rw [h2]; infer_instance⟩
    · obtain rfl : k = ls.length := by omega
      rw [List.take_length]
      repeat (first|refine Wa ?_|refine Wb ?_|refine Wc ?_|refine Wd ?_|refine We rfl ?_|refine Wf (by first|exact Va|exact Vb|exact Vc|exact Vd|exact Ve|exact Vf|exact Vg|exact Vh|exact Vi|exact Vj|exact Vk (by omega)|exact Vl|exact Vm|exact Vn|exact Vo|exact Vp|exact Vq|exact Vr|exact Vs (by omega)|exact Vt (by omega)|exact Vu (by omega)|exact Vv (by omega)|exact Vw|exact Vx|exact Vy|exact Vz|exact VA|exact VB|exact VC|exact VD|exact VE|exact VF) rfl ?_|(refine Wg rfl ?_; intro _)|(refine Wh rfl ?_; intro _)|refine Wi ?_|refine Wj ?_|refine Wk ?_|refine Wl ?_|refine Wm ?_|refine Wn ?_|refine Wo ?_|refine Wp ?_|refine Wq rfl ?_|refine Wr ?_|refine Ws ?_|refine Wt ?_|refine Wu ?_|refine Wv rfl rfl ?_|(refine Ww rfl ⟨rfl, by decide, by decide, by decide⟩ ?_; intro _))
      exact CT.done (p, q) rfl (fun w ho => ho.ent)
end Ab
end Go.Proofs.YtdgeffphifgflaaGreat
namespace Go.Proofs.YtdgeffphifgflaaGreat
namespace Ab
open Go Go.RowKit
set_option linter.unusedVariables false
set_option linter.unusedSimpArgs false
set_option synthInstance.maxSize 4000
set_option synthInstance.maxHeartbeats 400000
attribute [local irreducible] JC JO JR JQ andThen inBlock OpV Gives retTo JM JS
def opPut (o : Op_) : List UInt8 := (numL o.kind.toNat ++ textL o.key) ++ (if o.kind = 0 then numL (foldN o.n) else textL o.elem)
def putOp (o : Op_) : List UInt8 × Int := if opMay o then (opPut o, 0) else ([], 1)
theorem field_kind (f1 f2 f3 : FuncId) (w : World) : (Instr.field 197 (.agg ⟨[fnV f1, fnV f2, fnV f3]⟩) 1).run Tryz.prog w = .ok (fnV f2) w := by
  have h1 := run_und (P := Tryz.prog) (t := 197) w
  unfold Instr.field
  rw [Sem.run_bind, h1]
  simp [asAgg, part, isAgg, Sem.run_bind]
theorem Hold.pubLists {w0 w : World} {F : Nat → Prop} {Γ : List Fact} {b : Nat} {t : TypeId} (ys : List (List UInt8 × (Option Addr × Nat))) (h : Hold w0 F (.own b t (ys.map (fun p => .slice p.2.1 p.1.length p.2.2)) :: Γ) w)
    (hy : ∀ p ∈ ys, .st (sl p.2.1 p.2.2 p.1) ∈ Γ) (hl : ys.length ≤ 1048576) : Hold w0 F (.st (sl (some ⟨b, 0, none⟩) ys.length (ys.map (·.1))) :: Γ) w := by
  have hw : w.heap[b]? = some (.cells (ys.map (fun p => Value.slice p.2.1 p.1.length p.2.2)).toArray t (0, 0)) := h.sat (.own b t _) (by simp)
  refine h.publish fun hk => ?_
  have hb := hk b (.inr rfl)
  refine ⟨by simp, by simp only [maxLen]; omega, by simp only [List.length_map, lim]; omega, fun hne => ⟨b, 0, rfl, hb, (Array.getElem?_eq_some_iff.1 hw).1, fun i hi => ?_⟩⟩
  have hi' : i < ys.length := by simpa using hi
  refine ⟨(ys[i]).2, ?_, fun A hA => ?_⟩
  · intro j v hv
    simp only [Cell.cells, List.getElem?_singleton] at hv
    split at hv
    · rename_i h0; subst h0
      injection hv with hv
      subst hv
      rw [cell_of_row w b _ _ _ _ hw]
      simp [Cell.sz, hi']
    · cases hv
  · simp only [Cell.facts, List.mem_singleton] at hA
    subst hA
    have := h.tail.sat (.st (sl (ys[i]).2.1 (ys[i]).2.2 (ys[i]).1)) (hy _ (List.getElem_mem hi'))
    simp only [List.getElem_map]
    exact this
theorem pub3 {w0 w : World} {F : Nat → Prop} {b : Nat} {t u : TypeId} {N T C : List UInt8} {aN aT aC : Option Addr} {cN cT cC : Nat}
    (h : Hold w0 F [.own b t [.slice aN N.length cN, .slice aT T.length cT, .slice aC C.length cC], .res (buf aN cN u N), .res (buf aT cT u T), .res (buf aC cC u C)] w) : Hold w0 F [.st (sl (some ⟨b, 0, none⟩) 3 [N, T, C])] w := by
  have h1 : Hold w0 F [.res (buf aN cN u N), .own b t [.slice aN N.length cN, .slice aT T.length cT, .slice aC C.length cC], .res (buf aT cT u T), .res (buf aC cC u C)] w := h.ent
  have h1 := h1.pub
  have h2 : Hold w0 F [.res (buf aT cT u T), .st (sl aN cN N), .own b t [.slice aN N.length cN, .slice aT T.length cT, .slice aC C.length cC], .res (buf aC cC u C)] w := h1.ent
  have h2 := h2.pub
  have h3 : Hold w0 F [.res (buf aC cC u C), .st (sl aT cT T), .st (sl aN cN N), .own b t [.slice aN N.length cN, .slice aT T.length cT, .slice aC C.length cC]] w := h2.ent
  have h3 := h3.pub
  have h4 : Hold w0 F [.own b t [.slice aN N.length cN, .slice aT T.length cT, .slice aC C.length cC], .st (sl aC cC C), .st (sl aT cT T), .st (sl aN cN N)] w := h3.ent
  have h5 := Hold.pubLists [(N, aN, cN), (T, aT, cT), (C, aC, cC)] h4 (by simp) (by simp)
  have h5 : Hold w0 F [.st (sl (some ⟨b, 0, none⟩) 3 [N, T, C]), .st (sl aC cC C), .st (sl aT cT T), .st (sl aN cN N)] w := h5
  exact (h5.ent : Hold w0 F [.st (sl (some ⟨b, 0, none⟩) 3 [N, T, C])] w)
theorem join_to (w : World) (F : Nat → Prop) (a : Option Addr) (c : Nat) (ls : List (List UInt8)) (L : List UInt8) (h2 : 2 ≤ ls.length) (h : (sl a c ls).holds F w) (hL : ls.flatten = L) (hl : L.length ≤ 1048576) (hl2 : ls.length ≤ 1048576) :
    GivesSl Tryz.prog 174 [.slice a ls.length c, .slice none 0 0] w F L := by
  subst hL; exact join_bytes w F a c ls h2 h hl hl2
theorem textL_length (s : ByteArray) : (textL s).length ≤ 10 + s.size := by
  have := numL_length s.size
  rw [textL, List.length_append, bytesOf_length]; omega
theorem put_facts (o : Op_) (h : opMay o = true) : (o.kind = (o.kind.toNat : Int) ∧ o.kind.toNat < 4) ∧ o.key.size ≤ 1048576 ∧ ∃ (f1 f2 f3 : FuncId) (_ : Body Tryz.prog f2) (C : List UInt8), (gotten kindsM o.kind).getD noneV = .agg ⟨[fnV f1, fnV f2, fnV f3]⟩ ∧
    (∀ w F, GivesBuf Tryz.prog f2 [opV o] w F 5 C) ∧ [numL o.kind.toNat, textL o.key, C].flatten = opPut o ∧ (opPut o).length ≤ 100 := by
  have hnl := fun n => numL_length n
  unfold opMay at h
  by_cases h0 : o.kind = 0
  · rw [if_pos h0] at h
    simp only [keyOk, Bool.and_eq_true, decide_eq_true_eq] at h
    obtain ⟨⟨⟨_, _⟩, hk⟩, ⟨⟨_, hn1⟩, hn2⟩, _⟩ := h
    refine ⟨by rw [h0]; exact ⟨rfl, by decide⟩, by omega, _, _, _, inferInstance, numL (foldN o.n), by rw [h0]; rfl, fun w F => kinds2 w F o (by omega), ?_, ?_⟩
    · rw [opPut, if_pos h0]; simp
    · have h1 := hnl o.kind.toNat; have h2 := textL_length o.key; have h3 := hnl (foldN o.n)
      rw [opPut, if_pos h0, List.length_append, List.length_append]; omega
  · rw [if_neg h0] at h
    by_cases h1 : o.kind = 1 ∨ o.kind = 2 ∨ o.kind = 3
    · rw [if_pos h1] at h
      simp only [keyOk, Bool.and_eq_true, decide_eq_true_eq] at h
      obtain ⟨⟨⟨_, _⟩, hk⟩, _, ⟨_, _⟩, hk2⟩ := h
      refine ⟨by omega, by omega, 221, 222, 223, inferInstance, textL o.elem, ?_, fun w F => kinds5 w F o (by omega), ?_, ?_⟩
      · rcases h1 with h1 | h1 | h1 <;> rw [h1] <;> rfl
      · rw [opPut, if_neg h0]; simp
      · have h1 := hnl o.kind.toNat; have h2 := textL_length o.key; have h3 := textL_length o.elem
        rw [opPut, if_neg h0, List.length_append, List.length_append]; omega
    · rw [if_neg h1] at h; cases h
set_option maxHeartbeats 2000000 in
theorem put_ops (w : World) (F : Nat → Prop) (o : Op_) (hk : o.key.size < 4611686018427387904) (he : o.elem.size < 4611686018427387904) : GivesSlT Tryz.prog 115 [opV o] w F (putOp o).1 [.int .i64 (putOp o).2] := by
  refine gives_of Tryz.func115 rfl Tryz.ntmps115 rfl rfl [] (.start w F) ?_
  repeat (first|refine Wa ?_|refine Wb ?_|refine Wc ?_|refine Wd ?_|refine We rfl ?_|refine Wf (by first|exact Vb|exact Vc) rfl ?_|(refine Wh rfl ?_; intro _))
  rename_i bo
  refine JR.callV rfl (fun w1 hw => may_ops w1 _ o hk he) ?_
  repeat (first|refine Wa ?_|refine Wd ?_|refine We rfl ?_|refine Wf (by exact Vh) rfl ?_)
  refine JC.test (fun h1 => ?_) (fun h1 => ?_)
  · have h2 : putOp o = ([], 1) := by simp [putOp, h1]
    rw [h2]
    repeat (first|refine Wa ?_|refine Wb ?_|refine Wc ?_|refine Wd ?_|refine We rfl ?_|refine Wf (by exact Vb) rfl ?_|refine Ws ?_|refine Wt ?_)
    exact CT.done (none, 0) rfl (fun w ho => (ho.ent : Hold _ _ [] w).add sl_nil)
  have h1 : opMay o = true := by simpa using h1
  have h2 : putOp o = (opPut o, 0) := by simp [putOp, h1]
  obtain ⟨⟨hkk, hkn⟩, hks, f1, f2, f3, hbody, C, hlook, hput, hopp, hlen⟩ := put_facts o h1
  have hconv : IntKind.u64.wrap o.kind = o.kind := by rw [hkk, wrap64]; omega
  rw [h2]
  repeat (first|refine Wa ?_|refine Wb ?_|refine Wl ?_)
  refine JC.draw 18 mixed ?_
  refine JM.take 0 rfl (by kernel_rfl) rfl Vd rfl rfl ?_
  refine JM.take 1 rfl (by kernel_rfl) rfl Vc rfl rfl ?_
  refine JM.take 2 rfl (by kernel_rfl) rfl (OpV.convIn hconv) rfl rfl ?_
  refine JM.reslot 9 (.int .u64 ((o.kind.toNat : Nat) : Int)) (congrArg (Value.int .u64) hkk) ?_
  refine JM.take 4 rfl (by kernel_rfl) rfl Vd rfl rfl ?_
  refine JM.take 5 rfl (by kernel_rfl) rfl Vc rfl rfl ?_
  refine JM.take 8 rfl (by kernel_rfl) rfl Vd rfl rfl ?_
  refine JM.take 9 rfl (by kernel_rfl) rfl Vc rfl rfl ?_
  refine JM.take 12 rfl (by kernel_rfl) rfl Vc rfl rfl ?_
  refine JM.one 3 (by kernel_rfl) rfl rfl rfl rfl (JS.callBuf rfl (fun w1 hw => num_enc _ (by omega) w1 _) fun aN cN => ?_)
  refine JM.one 6 (by kernel_rfl) rfl rfl rfl rfl (JS.callBuf rfl (fun w1 hw => text_enc _ hks w1 _) fun aT cT => ?_)
  refine JM.one 7 (by kernel_rfl) rfl rfl rfl rfl (JS.call1 rfl (fun w1 hw => kinds_ops w1 _) fun mk => ?_)
  refine JM.take 10 rfl (by kernel_rfl) rfl (OpV.lookupNo o.kind kindsM_nodup hlook) rfl rfl ?_
  refine JM.take 11 rfl (by kernel_rfl) rfl (OpV.fieldV (field_kind f1 f2 f3)) rfl rfl ?_
  refine JM.one 13 (by kernel_rfl) rfl rfl rfl rfl (JS.callBuf rfl (fun w1 hw => hput w1 _) fun aC cC => ?_)
  refine JM.one 14 (by kernel_rfl) rfl rfl rfl rfl (JS.lit rfl ⟨rfl, by decide, by decide, by decide⟩ fun lb => ?_)
  refine JM.more (Γ' := [.st (sl (some ⟨lb, 0, none⟩) 3 [numL o.kind.toNat, textL o.key, C])]) (fun w1 ho => pub3 (b := lb) (t := 22) (u := 5) (N := numL o.kind.toNat) (T := textL o.key) (C := C) (aN := aN) (aT := aT) (aC := aC) (cN := cN) (cT := cT) (cC := cC) ho.ent) ?_
  refine JM.one 15 (by kernel_rfl) rfl rfl rfl rfl (JS.callSl rfl (fun w1 hw => join_to w1 _ (some ⟨lb, 0, none⟩) 3 [numL o.kind.toNat, textL o.key, C] (opPut o) (by simp) hw.get hopp (by omega) (by simp)) fun aJ cJ => ?_)
  refine JM.one 16 (by kernel_rfl) rfl rfl rfl rfl (JS.val Vb rfl ?_)
  refine JM.one 17 (by kernel_rfl) rfl rfl rfl rfl (JS.val Vb rfl ?_)
  refine JM.nil (by kernel_rfl) ?_
  repeat (first|refine Wa ?_|refine Ws ?_)
  exact CT.done (aJ, cJ) rfl (fun w ho => ho.ent)
end Ab
end Go.Proofs.YtdgeffphifgflaaGreat
namespace Go.Proofs.YtdgeffphifgflaaGreat
namespace Ab
open Go Go.RowKit
set_option linter.unusedVariables false
set_option linter.unusedSimpArgs false
set_option synthInstance.maxSize 4000
set_option synthInstance.maxHeartbeats 400000
attribute [local irreducible] JC JO JR JQ andThen inBlock OpV Gives retTo JM JS
attribute [local irreducible] sumI numL textL opPut
def headL (c : Commit) : List UInt8 := ((numL (foldN c.ev.node) ++ numL c.ev.seq.toNat) ++ numL c.gen.toNat) ++ numL c.parents.length
def idsL (L : List ID) : List UInt8 := (L.map (·.1)).flatten
def commitPut (c : Commit) : List UInt8 := if c.ev.node = -1 then headL c ++ idsL c.parents else headL c ++ idsL c.parents ++ opPut c.op
def putCommit (c : Commit) : List UInt8 × Int := if may c then (commitPut c, 0) else ([], 1)
theorem idsL_length (L : List ID) : (idsL L).length = 32 * L.length := by
  induction L with
  | nil => rfl
  | cons x L ih => simp only [idsL, List.map_cons, List.flatten_cons, List.length_append, List.length_cons] at ih ⊢; rw [ih, x.2]; omega
theorem idsL_next (L : List ID) (k : Nat) (hk : k < L.length) : idsL (L.take (k + 1)) = idsL (L.take k) ++ (L[k]).1 := by
  rw [idsL, idsL, List.take_succ_eq_append_getElem hk, List.map_append, List.flatten_append]; simp
theorem headL_length (c : Commit) : (headL c).length ≤ 40 := by
  have h1 := numL_length (foldN c.ev.node); have h2 := numL_length c.ev.seq.toNat; have h3 := numL_length c.gen.toNat; have h4 := numL_length c.parents.length
  simp only [headL, List.length_append]; omega
structure MayC (c : Commit) : Prop where
  node : -1 ≤ c.ev.node ∧ c.ev.node ≤ 7
  seq : 0 ≤ c.ev.seq ∧ c.ev.seq ≤ 1048576
  gen : 1 ≤ c.gen ∧ c.gen ≤ 1048576
  par : c.parents.length ≤ 8
  op : c.ev.node ≠ -1 → opMay c.op = true
theorem may_spec {c : Commit} (h : may c = true) : MayC c := by
  unfold may at h
  split at h
  · cases h
  · rename_i h1
    simp only [inB, Bool.or_eq_true, Bool.not_eq_true', not_or, Bool.not_eq_false, decide_eq_true_eq, Bool.and_eq_true, Nat.not_lt] at h1
    obtain ⟨⟨⟨hg, hp⟩, _⟩, _⟩ := h1
    split at h
    · rename_i h2
      simp only [Bool.and_eq_true, decide_eq_true_eq] at h
      exact ⟨by omega, by omega, hg, hp, fun hn => (hn h2).elim⟩
    · rename_i h2
      simp only [inB, Bool.and_eq_true, decide_eq_true_eq] at h
      exact ⟨by omega, by omega, hg, hp, fun _ => h.2⟩
theorem pub4 {w0 w : World} {F : Nat → Prop} {b : Nat} {t u : TypeId} {A B C D : List UInt8} {aA aB aC aD : Option Addr} {cA cB cC cD : Nat} {Γ : List Fact}
    (h : Hold w0 F (.res (buf aA cA u A) :: .res (buf aB cB u B) :: .res (buf aC cC u C) :: .res (buf aD cD u D) :: .own b t [.slice aA A.length cA, .slice aB B.length cB, .slice aC C.length cC, .slice aD D.length cD] :: Γ) w) :
    Hold w0 F (.st (sl (some ⟨b, 0, none⟩) 4 [A, B, C, D]) :: Γ) w := by
  have rot : ∀ {X : Fact} {Γ' : List Fact}, Hold w0 F (X :: Γ') w → Hold w0 F (Γ' ++ [X]) w := fun h => h.perm (by
    exact (List.perm_append_comm (l₁ := [_])))
  have h1 := h.pub
  have h2 : Hold w0 F (.res (buf aB cB u B) :: .st (sl aA cA A) :: .res (buf aC cC u C) :: .res (buf aD cD u D) :: .own b t [.slice aA A.length cA, .slice aB B.length cB, .slice aC C.length cC, .slice aD D.length cD] :: Γ) w := h1.perm (List.Perm.swap _ _ _)
  have h2 := h2.pub
  have h3 : Hold w0 F (.res (buf aC cC u C) :: .st (sl aB cB B) :: .st (sl aA cA A) :: .res (buf aD cD u D) :: .own b t [.slice aA A.length cA, .slice aB B.length cB, .slice aC C.length cC, .slice aD D.length cD] :: Γ) w :=
    h2.perm (((List.Perm.swap _ _ _).cons _).trans (List.Perm.swap _ _ _))
  have h3 := h3.pub
  have h4 : Hold w0 F (.res (buf aD cD u D) :: .st (sl aC cC C) :: .st (sl aB cB B) :: .st (sl aA cA A) :: .own b t [.slice aA A.length cA, .slice aB B.length cB, .slice aC C.length cC, .slice aD D.length cD] :: Γ) w :=
    h3.perm (((((List.Perm.swap _ _ _).cons _).trans (List.Perm.swap _ _ _)).cons _).trans (List.Perm.swap _ _ _))
  have h4 := h4.pub
  have h5 : Hold w0 F (.own b t [.slice aA A.length cA, .slice aB B.length cB, .slice aC C.length cC, .slice aD D.length cD] :: .st (sl aD cD D) :: .st (sl aC cC C) :: .st (sl aB cB B) :: .st (sl aA cA A) :: Γ) w :=
    h4.perm ((((((((List.Perm.swap _ _ _).cons _).trans (List.Perm.swap _ _ _)).cons _).trans (List.Perm.swap _ _ _)).cons _).trans (List.Perm.swap _ _ _)))
  have h6 := Hold.pubLists [(A, aA, cA), (B, aB, cB), (C, aC, cC), (D, aD, cD)] h5 (by simp) (by simp)
  have h6 : Hold w0 F (.st (sl (some ⟨b, 0, none⟩) 4 [A, B, C, D]) :: .st (sl aD cD D) :: .st (sl aC cC C) :: .st (sl aB cB B) :: .st (sl aA cA A) :: Γ) w := h6
  have h7 : Hold w0 F ((.st (sl (some ⟨b, 0, none⟩) 4 [A, B, C, D]) :: Γ) ++ [.st (sl aD cD D), .st (sl aC cC C), .st (sl aB cB B), .st (sl aA cA A)]) w :=
    h6.perm ((List.perm_append_comm (l₁ := [Fact.st (sl aD cD D), .st (sl aC cC C), .st (sl aB cB B), .st (sl aA cA A)]) (l₂ := Γ)).cons _)
  exact h7.left
theorem concat_to (w : World) (F : Nat → Prop) (a : Option Addr) (c : Nat) (ls : List (List UInt8)) (L : List UInt8) (h : (sl a c ls).holds F w) (hL : ls.flatten = L) (hl : L.length ≤ 1048576) (hl2 : ls.length ≤ 1048576) :
    GivesBuf Tryz.prog 112 [.slice a ls.length c] w F 5 L := by
  subst hL; exact concat_bytes w F a c ls h hl hl2
theorem put_ops_ok (w : World) (F : Nat → Prop) (o : Op_) (hk : o.key.size < 4611686018427387904) (he : o.elem.size < 4611686018427387904) (h : opMay o = true) : GivesSlT Tryz.prog 115 [opV o] w F (opPut o) [.int .i64 0] := by
  have h1 := put_ops w F o hk he
  have h2 : putOp o = (opPut o, 0) := by simp [putOp, h]
  rw [h2] at h1
  exact h1
set_option maxHeartbeats 2000000 in
theorem put_commit (w : World) (F : Nat → Prop) (c : Commit) (a : Option Addr) (k : Nat) (h : (sl a k c.parents).holds F w) (ht : texts c) :
    GivesSlT Tryz.prog 57 [commitV c a k] w F (putCommit c).1 [.int .i64 (putCommit c).2] := by
  refine gives_of Tryz.func57 rfl Tryz.ntmps57 rfl rfl [.st (sl a k c.parents)] (.start1 h) ?_
  repeat (first|refine Wa ?_|refine Wb ?_|refine Wc ?_|refine Wd ?_|refine We rfl ?_|refine Wf (by first|exact Vb|exact Vc) rfl ?_|(refine Wh rfl ?_; intro _))
  rename_i bc
  refine JR.callV rfl (fun w1 hw => may_commit w1 _ c a k hw.get ht) ?_
  repeat (first|refine Wa ?_|refine Wd ?_|refine We rfl ?_|refine Wf (by exact Vh) rfl ?_)
  refine JC.test (fun h1 => ?_) (fun h1 => ?_)
  · have h2 : putCommit c = ([], 1) := by simp [putCommit, h1]
    rw [h2]
    repeat (first|refine Wa ?_|refine Wb ?_|refine Wc ?_|refine Wd ?_|refine We rfl ?_|refine Wf (by exact Vb) rfl ?_|refine Ws ?_|refine Wt ?_)
    exact CT.done (none, 0) rfl (fun w ho => (ho.ent : Hold _ _ [] w).add sl_nil)
  have h1 : may c = true := by simpa using h1
  have h2 : putCommit c = (commitPut c, 0) := by simp [putCommit, h1]
  have hm := may_spec h1
  have hh := headL_length c
  rw [h2]
  have hn1 := hm.node
  have hn2 := hm.seq
  have hn3 := hm.gen
  have hn4 := hm.par
  have hs1 : IntKind.u64.wrap c.ev.seq = c.ev.seq := by rw [show c.ev.seq = ((c.ev.seq.toNat : Nat) : Int) by omega, wrap64]; omega
  have hs2 : IntKind.u64.wrap c.gen = c.gen := by rw [show c.gen = ((c.gen.toNat : Nat) : Int) by omega, wrap64]; omega
  repeat (first|refine Wa ?_|refine Wb ?_|refine Wl ?_)
  refine JC.draw 22 mixed ?_
  refine JM.take 0 rfl (by kernel_rfl) rfl Vd rfl rfl ?_
  refine JM.take 1 rfl (by kernel_rfl) rfl Vd rfl rfl ?_
  refine JM.take 2 rfl (by kernel_rfl) rfl Vc rfl rfl ?_
  refine JM.takeCall 3 rfl (by kernel_rfl) rfl (fun w1 hw => fold_enc w1 _ c.ev.node (by omega)) rfl rfl ?_
  refine JM.take 5 rfl (by kernel_rfl) rfl Vd rfl rfl ?_
  refine JM.take 6 rfl (by kernel_rfl) rfl Vd rfl rfl ?_
  refine JM.take 7 rfl (by kernel_rfl) rfl Vc rfl rfl ?_
  refine JM.take 8 rfl (by kernel_rfl) rfl (OpV.convIn hs1) rfl rfl ?_
  refine JM.reslot 20 (.int .u64 ((c.ev.seq.toNat : Nat) : Int)) (congrArg (Value.int .u64) (by omega)) ?_
  refine JM.take 10 rfl (by kernel_rfl) rfl Vd rfl rfl ?_
  refine JM.take 11 rfl (by kernel_rfl) rfl Vc rfl rfl ?_
  refine JM.take 12 rfl (by kernel_rfl) rfl (OpV.convIn hs2) rfl rfl ?_
  refine JM.reslot 24 (.int .u64 ((c.gen.toNat : Nat) : Int)) (congrArg (Value.int .u64) (by omega)) ?_
  refine JM.take 14 rfl (by kernel_rfl) rfl Vd rfl rfl ?_
  refine JM.take 15 rfl (by kernel_rfl) rfl Vc rfl rfl ?_
  refine JM.take 16 rfl (by kernel_rfl) rfl Vf rfl rfl ?_
  refine JM.take 17 rfl (by kernel_rfl) rfl (OpV.convIn (by rw [wrap64]; omega)) rfl rfl ?_
  refine JM.one 4 (by kernel_rfl) rfl rfl rfl rfl (JS.callBuf rfl (fun w1 hw => num_enc _ (foldN_lt (by omega)) w1 _) fun a1 c1 => ?_)
  refine JM.one 9 (by kernel_rfl) rfl rfl rfl rfl (JS.callBuf rfl (fun w1 hw => num_enc _ (by omega) w1 _) fun a2 c2 => ?_)
  refine JM.one 13 (by kernel_rfl) rfl rfl rfl rfl (JS.callBuf rfl (fun w1 hw => num_enc _ (by omega) w1 _) fun a3 c3 => ?_)
  refine JM.one 18 (by kernel_rfl) rfl rfl rfl rfl (JS.callBuf rfl (fun w1 hw => num_enc _ (by omega) w1 _) fun a4 c4 => ?_)
  refine JM.one 19 (by kernel_rfl) rfl rfl rfl rfl (JS.lit rfl ⟨rfl, by decide, by decide, by decide⟩ fun lb => ?_)
  refine JM.more (Γ' := [.st (sl (some ⟨lb, 0, none⟩) 4 [numL (foldN c.ev.node), numL c.ev.seq.toNat, numL c.gen.toNat, numL c.parents.length]), .own bc 29 [.int .i64 c.ev.node, .int .i64 c.ev.seq, .int .i64 c.gen, .slice a c.parents.length k, .int .i64 c.op.kind, .string c.op.key, .string c.op.elem, .int .i64 c.op.n], .st (sl a k c.parents)])
    (fun w1 ho => pub4 (b := lb) (t := 22) (u := 5) (aA := a1) (aB := a2) (aC := a3) (aD := a4) (cA := c1) (cB := c2) (cC := c3) (cD := c4) ho.ent) ?_
  refine JM.one 20 (by kernel_rfl) rfl rfl rfl rfl (JS.callBuf rfl (fun w1 hw => concat_to w1 _ (some ⟨lb, 0, none⟩) 4 [numL (foldN c.ev.node), numL c.ev.seq.toNat, numL c.gen.toNat, numL c.parents.length] (headL c) hw.get (by simp [headL]) (by omega) (by simp)) fun p0 q0 => ?_)
  refine JM.one 21 (by kernel_rfl) rfl rfl rfl rfl (JS.val Vb rfl ?_)
  refine JM.nil (by kernel_rfl) ?_
  repeat (first|refine Wa ?_|refine Wb ?_|refine Wc ?_|refine Wd ?_|refine We rfl ?_|refine Wf (by first|exact Va|exact Vc|exact Vd|exact Vf) rfl ?_|refine Wn ?_)
  refine JC.loop3 (fun (i : Nat) p q => [(1, .pointer (some ⟨bc, 0, none⟩)), (4, .slice p (headL c ++ idsL (c.parents.take i)).length q), (34, .slice a c.parents.length k), (35, .int .i64 (c.parents.length : Int)), (36, .int .i64 (i : Int))])
    (fun i p q => [.own bc 29 [.int .i64 c.ev.node, .int .i64 c.ev.seq, .int .i64 c.gen, .slice a c.parents.length k, .int .i64 c.op.kind, .string c.op.key, .string c.op.elem, .int .i64 c.op.n], .st (sl a k c.parents), .res (buf p q 5 (headL c ++ idsL (c.parents.take i)))])
    (fun i _ _ => i ≤ c.parents.length) (fun i _ _ => c.parents.length - i) 0 p0 q0 (Nat.zero_le _) (by rw [List.take_zero, show idsL [] = [] from rfl, List.append_nil]; infer_instance) ?_
  intro i p q hi
  repeat (first|refine Wa ?_|refine Wb ?_|refine Wc ?_|refine Wd ?_|refine We rfl ?_|refine Wf (by exact Vg) rfl ?_)
  refine JC.test (fun hlt => ?_) (fun hge => ?_)
  · have hlt' : i < c.parents.length := by omega
    have hil := idsL_length (c.parents.take i)
    rw [List.length_take] at hil
    repeat (first|refine Wa ?_|refine Wb ?_|refine Wc ?_|refine We rfl ?_|refine Wl ?_|refine Wn ?_)
    refine JR.indexID rfl hlt' ?_
    intro b o
    repeat (first|refine Wa ?_|refine Wc ?_|refine Wd ?_|refine We rfl ?_|refine Wf (by first|exact Va|exact Vc) rfl ?_|(refine Wg rfl ?_; intro _)|refine Wi ?_)
    refine Wf (OpV.sliceArr (by decide)) rfl ?_
    refine We rfl ?_
    refine JR.appendBytes (M := (c.parents[i]).1) rfl rfl rfl (c.parents[i]).2 (by exact ⟨rfl, rfl, by decide⟩) (by rw [List.length_append]; omega) ?_
    intro p3 q3
    repeat (first|refine Wa ?_|refine Wc ?_|refine Wd ?_|refine We rfl ?_|refine Wf (by first|exact Va|exact Vb|exact Vk (by omega)) rfl ?_|refine Wr ?_)
    have hnx : headL c ++ idsL (c.parents.take (i + 1)) = headL c ++ idsL (c.parents.take i) ++ (c.parents[i]).1 := by rw [idsL_next _ _ hlt', List.append_assoc]
    exact ⟨i + 1, p3, q3, by omega, by omega, by rw [hnx]; infer_instance⟩
  · obtain rfl : i = c.parents.length := by omega
    have hil := idsL_length c.parents
    rw [List.take_length]
    repeat (first|refine Wa ?_|refine Wb ?_|refine Wc ?_|refine Wd ?_|refine We rfl ?_|refine Wf (by first|exact Vc|exact Vd|exact Vl) rfl ?_|refine Wm ?_|refine Wo ?_|refine Wp ?_)
    refine JC.test (fun hnode => ?_) (fun hnode => ?_)
    · have hb : commitPut c = headL c ++ idsL c.parents := by rw [commitPut, if_pos hnode]
      rw [hb]
      repeat (first|refine Wa ?_|refine Wb ?_|refine Wc ?_|refine Wd ?_|refine We rfl ?_|refine Wf (by first|exact Va|exact Vb) rfl ?_|refine Ws ?_|refine Wt ?_)
      exact CT.done (p, q) rfl (fun w ho => Hold.left (Γ := [.st (sl p q (headL c ++ idsL c.parents))]) (Hold.pub (ho.ent : Hold _ _ [.res (buf p q 5 (headL c ++ idsL c.parents))] w)))
    · have hb : commitPut c = headL c ++ idsL c.parents ++ opPut c.op := by rw [commitPut, if_neg hnode]
      have hop := hm.op hnode
      have hput : putOp c.op = (opPut c.op, 0) := by simp [putOp, hop]
      have hopl := (put_facts c.op hop).2.2
      obtain ⟨_, _, _, _, _, _, _, _, hopl⟩ := hopl
      rw [hb]
      repeat (first|refine Wa ?_|refine Wb ?_|refine Wc ?_|refine We rfl ?_|refine Wf (by first|exact Vc|exact Vd) rfl ?_|refine Wl ?_)
      refine JR.callSlT (L := opPut c.op) (us' := [.int .i64 0]) rfl (fun w1 hw => put_ops_ok w1 _ c.op ht.1 ht.2 hop) ?_
      intro p4 q4
      repeat (first|refine Wa ?_|refine Wb ?_|refine Wc ?_|refine Wd ?_|refine We rfl ?_|refine Wf (by first|exact Va|exact Vb|exact Vq) rfl ?_)
      refine JR.appendSl rfl (by exact ⟨rfl, rfl, by decide⟩) (by rw [List.length_append]; omega) ?_
      intro p5 q5
      repeat (first|refine Wa ?_|refine Wd ?_|refine We rfl ?_|refine Wf (by first|exact Va|exact Vb) rfl ?_|refine Ws ?_)
      exact CT.done (p5, q5) rfl (fun w ho => Hold.left (Γ := [.st (sl p5 q5 (headL c ++ idsL c.parents ++ opPut c.op))]) (Hold.pub (ho.ent : Hold _ _ [.res (buf p5 q5 5 (headL c ++ idsL c.parents ++ opPut c.op))] w)))
theorem commitPut_length {c : Commit} (h : may c = true) : (commitPut c).length ≤ 400 := by
  have hm := may_spec h
  have h1 := headL_length c
  have h2 := idsL_length c.parents
  have h3 := hm.par
  unfold commitPut
  split
  · rw [List.length_append]; omega
  · rename_i hn
    obtain ⟨_, _, _, _, _, _, _, _, h4⟩ := (put_facts c.op (hm.op hn)).2.2
    rw [List.length_append, List.length_append]; omega
def zeroID : ID := ⟨List.replicate 32 0, rfl⟩
def hashC (c : Commit) : ID × Int := if may c then (sumI (commitPut c), 0) else (zeroID, 1)
set_option maxHeartbeats 1000000 in
theorem hash_commit (w : World) (F : Nat → Prop) (c : Commit) (a : Option Addr) (k : Nat) (h : (sl a k c.parents).holds F w) (ht : texts c) :
    GivesV Tryz.prog 54 [commitV c a k] w F (.tuple ⟨[.agg ⟨idc (hashC c).1⟩, .int .i64 (hashC c).2]⟩) := by
  refine gives_of Tryz.func54 rfl Tryz.ntmps54 rfl rfl [.st (sl a k c.parents)] (.start1 h) ?_
  repeat (first|refine Wa ?_|refine Wb ?_|refine Wc ?_|refine Wd ?_|refine We rfl ?_|refine Wf (by first|exact Vb|exact Vc) rfl ?_|(refine Wg rfl ?_; intro _)|(refine Wh rfl ?_; intro _))
  rename_i bc bi
  refine JR.callSlT (L := (putCommit c).1) (us' := [.int .i64 (putCommit c).2]) rfl (fun w1 hw => put_commit w1 _ c a k hw.get ht) ?_
  intro p q
  repeat (first|refine Wa ?_|refine Wb ?_|refine Wc ?_|refine Wd ?_|refine We rfl ?_|refine Wf (by first|exact Va|exact Vb|exact Vm|exact Vq) rfl ?_)
  refine JC.test (fun h1 => ?_) (fun h1 => ?_)
  · have hm : may c = false := by
      rw [← Bool.not_eq_true]
      intro hm
      simp [putCommit, hm] at h1
    have h2 : hashC c = (zeroID, 1) := by simp [hashC, hm]
    have h3 : (putCommit c).2 = 1 := by simp [putCommit, hm]
    rw [h2, h3]
    repeat (first|refine Wb ?_|refine Wc ?_|refine We rfl ?_)
    refine Wf (OpV.build [.int .u8 0, .int .u8 0, .int .u8 0, .int .u8 0, .int .u8 0, .int .u8 0, .int .u8 0, .int .u8 0, .int .u8 0, .int .u8 0, .int .u8 0, .int .u8 0, .int .u8 0, .int .u8 0, .int .u8 0, .int .u8 0, .int .u8 0, .int .u8 0, .int .u8 0, .int .u8 0, .int .u8 0, .int .u8 0, .int .u8 0, .int .u8 0, .int .u8 0, .int .u8 0, .int .u8 0, .int .u8 0, .int .u8 0, .int .u8 0, .int .u8 0, .int .u8 0] (by kernel_rfl)) rfl ?_
    refine JO.reslot 13 (.agg ⟨idc zeroID⟩) rfl ?_
    repeat (first|refine Wa ?_|refine Wd ?_|refine We rfl ?_|refine Wf (by first|exact Va|exact Vb) rfl ?_|refine Wi ?_|refine Ws ?_|refine Wt ?_)
    exact CT.done () rfl (fun w ho => ho.ent)
  · have hm : may c = true := by
      rw [← Bool.not_eq_false]
      intro hm
      simp [putCommit, hm] at h1
    have h2 : hashC c = (sumI (commitPut c), 0) := by simp [hashC, hm]
    have h3 : putCommit c = (commitPut c, 0) := by simp [putCommit, hm]
    have hl := commitPut_length hm
    rw [h2, h3]
    repeat (first|refine Wa ?_|refine Wb ?_|refine Wc ?_|refine We rfl ?_|refine Wf (by exact Va) rfl ?_|refine Wl ?_)
    refine JR.callV rfl (fun w1 hw => sum_sha w1 _ p q (commitPut c) hw.get (by omega)) ?_
    repeat (first|refine Wa ?_|refine Wd ?_|refine We rfl ?_|refine Wf (by exact Vb) rfl ?_|refine Wi ?_|refine Ws ?_)
    exact CT.done () rfl (fun w ho => ho.ent)
end Ab
end Go.Proofs.YtdgeffphifgflaaGreat
namespace Go.Proofs.YtdgeffphifgflaaGreat
namespace Ab
open Go Go.RowKit
set_option linter.unusedVariables false
set_option linter.unusedSimpArgs false
def numV : List UInt8 → Nat
  | [] => 0
  | c :: l => c.toNat % 128 + 128 * numV l
theorem numV_append (a b : List UInt8) : numV (a ++ b) = numV a + 128 ^ a.length * numV b := by
  induction a with
  | nil => simp [numV]
  | cons c a ih =>
    simp only [List.cons_append, numV, ih, List.length_cons, Nat.pow_succ]
    rw [Nat.mul_add, Nat.add_assoc, ← Nat.mul_assoc, Nat.mul_comm 128 (128 ^ a.length)]
theorem numV_lt (a : List UInt8) : numV a < 128 ^ a.length := by
  induction a with
  | nil => simp [numV]
  | cons c a ih =>
    simp only [numV, List.length_cons, Nat.pow_succ]
    have : c.toNat % 128 < 128 := Nat.mod_lt _ (by decide)
    omega
theorem or_low (n : Nat) : (UInt8.ofNat n ||| 128).toNat = n % 128 + 128 := by
  have h1 := or_digit n
  have h2 := u8_or_nat (n % 256) 128 (by omega) (by omega)
  have h3 : ((n : Int) % 256) = ((n % 256 : Nat) : Int) := by omega
  rw [h3] at h1
  have h4 : (UInt8.ofNat n ||| 128).toNat = (n % 256 ||| 128) := Int.ofNat.inj (h1.trans h2)
  rw [h4]
  have key : ∀ k : Fin 256, (k.1 ||| 128) = k.1 % 128 + 128 := by decide +kernel
  have := key ⟨n % 256, Nat.mod_lt _ (by decide)⟩
  simp only at this
  rw [this]; omega
structure Digits (i : List UInt8) (l : UInt8) : Prop where
  great : ∀ c ∈ i, 128 ≤ c.toNat
  small : l.toNat < 128
  some : i ≠ [] → l.toNat ≠ 0
theorem numF_digits : ∀ (f n : Nat), n < 128 ^ (f + 1) → numV (numF f n) = n ∧ ∃ i l, numF f n = i ++ [l] ∧ Digits i l
  | 0, n, h => by
    have h : n < 128 := by simpa using h
    have e : (UInt8.ofNat n).toNat = n := by rw [UInt8.toNat_ofNat']; omega
    refine ⟨by simp [numF, numV, e]; omega, [], UInt8.ofNat n, by simp [numF], by simp, by rw [e]; exact h, by simp⟩
  | f + 1, n, h => by
    simp only [numF]
    split
    · rename_i hn
      obtain ⟨h1, i, l, h2, h3⟩ := numF_digits f (n / 128) (by rw [Nat.pow_succ] at h; omega)
      refine ⟨?_, (UInt8.ofNat n ||| 128) :: i, l, by rw [h2]; rfl, ?_, h3.small, fun _ => ?_⟩
      · simp only [numV, h1, or_low]; omega
      · intro c hc
        rcases List.mem_cons.1 hc with rfl | hc
        · rw [or_low]; omega
        · exact h3.great c hc
      · by_cases hi : i = []
        · subst hi
          rw [h2] at h1
          simp only [List.nil_append, numV] at h1
          have := h3.small
          omega
        · exact h3.some hi
    · rename_i hn
      have e : (UInt8.ofNat n).toNat = n := by rw [UInt8.toNat_ofNat']; omega
      refine ⟨by simp [numV, e]; omega, [], UInt8.ofNat n, by simp, by simp, by rw [e]; omega, by simp⟩
theorem numL_digits {n : Nat} (h : n < 18446744073709551616) : numV (numL n) = n ∧ ∃ i l, numL n = i ++ [l] ∧ Digits i l := numF_digits 9 n (by omega)
theorem digits_same : ∀ {i j : List UInt8} {l m : UInt8} {r s : List UInt8}, (∀ c ∈ i, 128 ≤ c.toNat) → (∀ c ∈ j, 128 ≤ c.toNat) → l.toNat < 128 → m.toNat < 128 → i ++ l :: r = j ++ m :: s → i = j ∧ l = m ∧ r = s
  | [], [], l, m, r, s, _, _, _, _, h => by
    simp only [List.nil_append, List.cons.injEq] at h; exact ⟨rfl, h.1, h.2⟩
  | [], d :: j, l, m, r, s, _, h2, h3, _, h => by
    simp only [List.nil_append, List.cons_append, List.cons.injEq] at h
    have := h2 d (by simp)
    rw [← h.1] at this; omega
  | c :: i, [], l, m, r, s, h1, _, _, h4, h => by
    simp only [List.nil_append, List.cons_append, List.cons.injEq] at h
    have := h1 c (by simp)
    rw [h.1] at this; omega
  | c :: i, d :: j, l, m, r, s, h1, h2, h3, h4, h => by
    simp only [List.cons_append, List.cons.injEq] at h
    obtain ⟨e1, e2, e3⟩ := digits_same (fun x hx => h1 x (by simp [hx])) (fun x hx => h2 x (by simp [hx])) h3 h4 h.2
    exact ⟨by rw [h.1, e1], e2, e3⟩
theorem numL_inj {n m : Nat} {r s : List UInt8} (hn : n < 18446744073709551616) (hm : m < 18446744073709551616) (h : numL n ++ r = numL m ++ s) : n = m ∧ r = s := by
  obtain ⟨h1, i, l, h2, h3⟩ := numL_digits hn
  obtain ⟨k1, j, k, k2, k3⟩ := numL_digits hm
  have h' := h
  rw [h2, k2, List.append_assoc, List.append_assoc, List.singleton_append, List.singleton_append] at h'
  obtain ⟨e1, e2, e3⟩ := digits_same h3.great k3.great h3.small k3.small h'
  refine ⟨?_, e3⟩
  rw [← h1, ← k1, h2, k2, e1, e2]
theorem numF_of : ∀ (i : List UInt8) (l : UInt8) (f : Nat), Digits i l → i.length ≤ f → numF f (numV (i ++ [l])) = i ++ [l]
  | [], l, f, h, _ => by
    have e : numV ([] ++ [l]) = l.toNat := by simp only [List.nil_append, numV]; have := h.small; omega
    rw [e]
    have e2 : UInt8.ofNat l.toNat = l := UInt8.ofNat_toNat
    cases f with
    | zero => simp [numF, e2]
    | succ f => simp only [numF]; rw [if_neg (by have := h.small; omega)]; simp [e2]
  | c :: i, l, f, h, hf => by
    have hd : Digits i l := ⟨fun x hx => h.great x (by simp [hx]), h.small, fun _ => h.some (by simp)⟩
    have hc := h.great c (by simp)
    have hl := h.some (by simp)
    have hv : 1 ≤ numV (i ++ [l]) := by
      rw [numV_append]
      have : numV [l] = l.toNat := by simp only [numV]; have := h.small; omega
      rw [this]
      have h1 : 1 ≤ 128 ^ i.length := Nat.one_le_pow _ _ (by decide)
      have := Nat.mul_le_mul h1 (show 1 ≤ l.toNat by omega)
      omega
    cases f with
    | zero => simp at hf
    | succ f =>
      simp only [List.cons_append, numV, numF]
      have hc2 : c.toNat < 256 := c.toNat_lt
      rw [if_pos (by omega)]
      have e1 : (c.toNat % 128 + 128 * numV (i ++ [l])) / 128 = numV (i ++ [l]) := by omega
      rw [e1, numF_of i l f hd (by simp at hf; omega)]
      congr 1
      apply UInt8.toNat_inj.1
      rw [or_low]; omega
theorem numL_of {i : List UInt8} {l : UInt8} (h : Digits i l) (hl : i.length ≤ 9) : numL (numV (i ++ [l])) = i ++ [l] := numF_of i l 9 h hl
open Classical in
noncomputable def getN (b : List UInt8) : Nat × Nat := if h : ∃ n, n < 18446744073709551616 ∧ numL n <+: b then (Classical.choose h, (numL (Classical.choose h)).length) else (0, 0)
theorem numL_pos (n : Nat) : 1 ≤ (numL n).length := by
  unfold numL
  simp only [numF]
  split <;> simp
theorem getN_of {b : List UInt8} {n : Nat} (hn : n < 18446744073709551616) (h : numL n <+: b) : getN b = (n, (numL n).length) := by
  have hex : ∃ n, n < 18446744073709551616 ∧ numL n <+: b := ⟨n, hn, h⟩
  have hs := Classical.choose_spec hex
  unfold getN
  rw [dif_pos hex]
  obtain ⟨r, hr⟩ := h
  obtain ⟨s, hs2⟩ := hs.2
  have := (numL_inj hs.1 hn (hs2.trans hr.symm)).1
  rw [this]
theorem getN_none {b : List UInt8} (h : ¬ ∃ n, n < 18446744073709551616 ∧ numL n <+: b) : getN b = (0, 0) := by unfold getN; rw [dif_neg h]
theorem getN_some {b : List UInt8} (h : (getN b).2 ≠ 0) : (getN b).1 < 18446744073709551616 ∧ (getN b).2 = (numL (getN b).1).length ∧ b = numL (getN b).1 ++ b.drop (getN b).2 ∧ (getN b).2 ≤ b.length := by
  by_cases hex : ∃ n, n < 18446744073709551616 ∧ numL n <+: b
  · obtain ⟨n, hn, hp⟩ := hex
    rw [getN_of hn hp]
    obtain ⟨r, rfl⟩ := hp
    exact ⟨hn, rfl, by simp, by simp⟩
  · rw [getN_none hex] at h; exact (h rfl).elim
theorem getN_le (b : List UInt8) : (getN b).2 ≤ b.length ∧ (getN b).2 ≤ 10 := by
  by_cases h : (getN b).2 = 0
  · omega
  · obtain ⟨_, h2, _, h3⟩ := getN_some h
    exact ⟨h3, by rw [h2]; exact numL_length _⟩
theorem getN_lt (b : List UInt8) : (getN b).1 < 18446744073709551616 := by
  by_cases h : ∃ n, n < 18446744073709551616 ∧ numL n <+: b
  · obtain ⟨n, hn, hp⟩ := h; rw [getN_of hn hp]; exact hn
  · rw [getN_none h]; decide
theorem getN_at {b : List UInt8} {k : Nat} (hk : k < b.length) (hg : ∀ c ∈ b.take k, 128 ≤ c.toNat) (hs : b[k].toNat < 128) :
    getN b = if k ≤ 9 ∧ ¬ (0 < k ∧ b[k].toNat = 0) ∧ ¬ (k = 9 ∧ 1 < b[k].toNat) then (numV (b.take (k + 1)), k + 1) else (0, 0) := by
  have htk : b.take (k + 1) = b.take k ++ [b[k]] := List.take_succ_eq_append_getElem hk
  have hlen : (b.take k).length = k := by rw [List.length_take]; omega
  split
  · rename_i h
    obtain ⟨h1, h2, h3⟩ := h
    have hd : Digits (b.take k) b[k] := ⟨hg, hs, fun hne h0 => h2 ⟨by
      rcases Nat.eq_zero_or_pos k with e | e
      · subst e; exact (hne (by simp)).elim
      · exact e, h0⟩⟩
    have hv : numV (b.take (k + 1)) < 18446744073709551616 := by
      rw [htk, numV_append, hlen]
      have h4 := numV_lt (b.take k)
      rw [hlen] at h4
      have h5 : numV [b[k]] = b[k].toNat := by simp only [numV]; omega
      rw [h5]
      by_cases h9 : k = 9
      · subst h9
        have : b[9].toNat ≤ 1 := by omega
        have h6 : (128 : Nat) ^ 9 = 9223372036854775808 := by decide
        rw [h6] at h4 ⊢
        have := Nat.mul_le_mul_left 9223372036854775808 this
        omega
      · have h6 : 128 ^ (k + 1) ≤ 128 ^ 9 := Nat.pow_le_pow_right (by decide) (by omega)
        have h7 : (128 : Nat) ^ 9 = 9223372036854775808 := by decide
        rw [h7, Nat.pow_succ] at h6
        have := Nat.mul_le_mul_left (128 ^ k) (show b[k].toNat ≤ 127 by omega)
        omega
    have hn := numL_of hd (by omega)
    rw [← htk] at hn
    rw [getN_of hv (by rw [hn]; exact List.take_prefix _ _), hn, List.length_take]
    congr 1; omega
  · rename_i h
    refine getN_none ?_
    rintro ⟨n, hn, r, hr⟩
    obtain ⟨h1, i, l, h2, h3⟩ := numL_digits hn
    have hb : b.take k ++ b[k] :: b.drop (k + 1) = b := by
      have := List.take_append_drop k b
      rwa [List.drop_eq_getElem_cons hk] at this
    rw [h2, List.append_assoc, List.singleton_append] at hr
    obtain ⟨e1, e2, _⟩ := digits_same h3.great hg h3.small hs (hr.trans hb.symm)
    have hil : i.length = k := by rw [e1, hlen]
    have h10 := numL_length n
    rw [h2, List.length_append, List.length_singleton, hil] at h10
    apply h
    refine ⟨by omega, fun ⟨h4, h5⟩ => ?_, fun ⟨h4, h5⟩ => ?_⟩
    · exact h3.some (fun e => by rw [e] at hil; simp at hil; omega) (by rw [e2]; exact h5)
    · rw [h2, numV_append, hil, h4] at h1
      have h6 : numV [l] = l.toNat := by simp only [numV]; have := h3.small; omega
      rw [h6, e2] at h1
      have h7 : (128 : Nat) ^ 9 = 9223372036854775808 := by decide
      rw [h7] at h1
      have := Nat.mul_le_mul_left 9223372036854775808 h5
      omega
theorem getN_great {b : List UInt8} (h : ∀ c ∈ b.take 10, 128 ≤ c.toNat) : getN b = (0, 0) := by
  refine getN_none ?_
  rintro ⟨n, hn, r, hr⟩
  obtain ⟨_, i, l, h2, h3⟩ := numL_digits hn
  have h10 := numL_length n
  have : l ∈ b.take 10 := by
    rw [h2] at h10 hr
    rw [← hr, List.take_append, List.take_of_length_le h10]
    simp
  have := h l this
  have := h3.small
  omega
end Ab
end Go.Proofs.YtdgeffphifgflaaGreat
namespace Go.Proofs.YtdgeffphifgflaaGreat
namespace Ab
open Go Go.RowKit
set_option linter.unusedVariables false
set_option linter.unusedSimpArgs false
set_option synthInstance.maxSize 4000
set_option synthInstance.maxHeartbeats 400000
attribute [local irreducible] JC JO JR JQ andThen inBlock OpV Gives retTo JM JS
theorem low7 (c : UInt8) : (c &&& 127).toNat = c.toNat % 128 := by
  have key : ∀ k : Fin 256, (k.1 &&& 127) = k.1 % 128 := by decide +kernel
  rw [UInt8.toNat_and]; exact key ⟨c.toNat, c.toNat_lt⟩
theorem top1 (c : UInt8) : (c &&& 128).toNat = 0 ↔ c.toNat < 128 := by
  have key : ∀ k : Fin 256, (k.1 &&& 128) = 0 ↔ k.1 < 128 := by decide +kernel
  rw [UInt8.toNat_and]; exact key ⟨c.toNat, c.toNat_lt⟩
theorem get_step (N : UInt64) (m i : Nat) (h : N.toNat < 2 ^ (7 * i)) (hm : m * 2 ^ (7 * i) < 18446744073709551616) (hm' : m < 256) : (N ||| shlN64 (UInt64.ofNat m) (7 * i)).toNat = N.toNat + m * 2 ^ (7 * i) := by
  have e1 : (UInt64.ofNat m).toNat = m := by rw [UInt64.toNat_ofNat']; omega
  have e2 : (shlN64 (UInt64.ofNat m) (7 * i)).toNat = m * 2 ^ (7 * i) := by
    rw [shlN64, e1, UInt64.toNat_ofNat']; exact Nat.mod_eq_of_lt hm
  rw [UInt64.toNat_or, e2, Nat.or_comm, ← Nat.shiftLeft_eq, ← Nat.shiftLeft_add_eq_or_of_lt h, Nat.add_comm]
theorem pow7 (i : Nat) : 128 ^ i = 2 ^ (7 * i) := by rw [Nat.pow_mul]
theorem numV_next {B : List UInt8} {i : Nat} (h : i < B.length) : numV (B.take (i + 1)) = numV (B.take i) + B[i].toNat % 128 * 2 ^ (7 * i) := by
  rw [List.take_succ_eq_append_getElem h, numV_append, List.length_take, Nat.min_eq_left (by omega), pow7, Nat.mul_comm]
  simp [numV]
theorem get_next {N : UInt64} {B : List UInt8} {i : Nat} (h : i < B.length) (hN : N.toNat = numV (B.take i)) (h9 : i ≤ 8 ∨ (i = 9 ∧ B[i].toNat ≤ 1)) :
    (N ||| shlN64 (UInt64.ofNat (B[i].toNat % 128)) (7 * i)).toNat = numV (B.take (i + 1)) := by
  have h1 := numV_lt (B.take i)
  rw [List.length_take, Nat.min_eq_left (by omega), pow7] at h1
  rw [get_step N _ i (by rw [hN]; exact h1) ?_ (by omega), hN, numV_next h]
  rcases h9 with h9 | ⟨h9, hc⟩
  · have h3 : 2 ^ (7 * i) ≤ 2 ^ 56 := Nat.pow_le_pow_right (by decide) (by omega)
    have h4 : B[i].toNat % 128 ≤ 127 := by omega
    have := Nat.mul_le_mul h4 h3
    have : (2 : Nat) ^ 56 = 72057594037927936 := by decide
    omega
  · have h4 : B[i].toNat % 128 ≤ 1 := by omega
    have := Nat.mul_le_mul_right (2 ^ (7 * i)) h4
    have e : 2 ^ (7 * i) = 9223372036854775808 := by rw [h9]
    rw [e] at this ⊢
    omega
set_option maxHeartbeats 2000000 in
theorem get_enc (w : World) (F : Nat → Prop) (a : Option Addr) (c : Nat) (b : List UInt8) (h : (sl a c b).holds F w) :
    GivesV Tryz.prog 181 [.slice a b.length c] w F (.tuple ⟨[.int .u64 ((getN b).1 : Int), .int .i64 ((getN b).2 : Int)]⟩) := by
  have hL : b.length < 9223372036854775807 := by have := h.2.2.1; simp only [lim] at this; omega
  refine gives_of Tryz.func181 rfl Tryz.ntmps181 rfl rfl [.st (sl a c b)] (.start1 h) ?_
  repeat (first|refine Wa ?_|refine Wb ?_|refine Wc ?_|refine Wd ?_|refine We rfl ?_|refine Wf (by first|exact Va|exact Vb|exact Vf) rfl ?_)
  refine Wf OpV.min rfl ?_
  refine JO.reslot 10 (.int .i64 ((min b.length 10 : Nat) : Int)) (by congr 1; omega) ?_
  repeat (refine We rfl ?_)
  refine JR.sliceTo (L := b) (k := min b.length 10) rfl rfl (by omega) ?_
  intro a1 c1
  obtain ⟨B, hB⟩ : ∃ B, B = b.take (min b.length 10) := ⟨_, rfl⟩
  have hBl : B.length = min b.length 10 := by rw [hB, List.length_take]; omega
  rw [← hB]
  repeat (first|refine Wa ?_|refine Wd ?_|refine We rfl ?_|refine Wf (by first|exact Va|exact Vf) rfl ?_|refine Wn ?_)
  refine JC.reslot 4 (w64 0) rfl ?_
  refine JC.loop2 (fun (i : Nat) (N : UInt64) => [(4, w64 N), (11, .slice a1 B.length c1), (12, .int .i64 (B.length : Int)), (13, .int .i64 (i : Int))]) (fun i N => [.st (sl a1 c1 B)])
    (fun i N => i ≤ B.length ∧ (∀ c ∈ B.take i, 128 ≤ c.toNat) ∧ (i ≤ 9 → N.toNat = numV (B.take i))) (fun i _ => B.length - i) 0 0 ⟨Nat.zero_le _, by simp, fun _ => by simp [numV]⟩ inferInstance ?_
  intro i N ⟨hi, hg, hN⟩
  repeat (first|refine Wa ?_|refine Wb ?_|refine Wc ?_|refine Wd ?_|refine We rfl ?_|refine Wf (by exact Vg) rfl ?_)
  refine JC.test (fun hlt => ?_) (fun hge => ?_)
  · have hi' : i < B.length := by omega
    have hib : i < b.length := by omega
    have hBi : B[i] = b[i] := by simp only [hB, List.getElem_take]
    have htk : B.take i = b.take i := by rw [hB, List.take_take]; congr 1; omega
    repeat (first|refine Wa ?_|refine Wb ?_|refine Wc ?_|refine We rfl ?_|refine Wf (by exact Va) rfl ?_|refine Wl ?_|refine Wn ?_)
    refine JR.indexByte (L := B) rfl hi' ?_
    intro bb ob
    obtain ⟨x, hx⟩ : ∃ x, x = B[i] := ⟨_, rfl⟩
    have hxl := x.toNat_lt
    rw [← hx]
    repeat (first|refine Wa ?_|refine Wb ?_|refine Wc ?_|refine Wd ?_|refine We rfl ?_|refine Wf (by first|exact Va|exact Vb|exact Vc) rfl ?_)
    refine Wf (OpV.and8 (a := x) (b := 127) (hy := ⟨fun _ _ _ => rfl⟩)) rfl ?_
    repeat (refine We rfl ?_)
    refine Wf OpV.conv rfl ?_
    refine JO.reslot 21 (w64 (UInt64.ofNat (x.toNat % 128))) (by
      have e1 : (UInt64.ofNat (x.toNat % 128)).toNat = x.toNat % 128 := by rw [UInt64.toNat_ofNat']; omega
      rw [w64, e1, low7, wrap64]; congr 2 <;> omega) ?_
    repeat (first|refine We rfl ?_|refine Wf (by exact Va) rfl ?_)
    refine Wf (OpV.mul (by omega)) rfl ?_
    refine JO.reslot 23 (.int .i64 ((7 * i : Nat) : Int)) (by congr 1) ?_
    repeat (refine We rfl ?_)
    refine Wf (OpV.shl64 (by omega)) rfl ?_
    repeat (refine We rfl ?_)
    refine Wf OpV.or64 rfl ?_
    repeat (first|refine Wa ?_|refine Wb ?_|refine Wc ?_|refine Wd ?_|refine We rfl ?_|refine Wf (by first|exact Va|exact Vb) rfl ?_)
    refine Wf (OpV.and8 (a := x) (b := 128) (hy := ⟨fun _ _ _ => rfl⟩)) rfl ?_
    repeat (first|refine Wa ?_|refine Wd ?_|refine We rfl ?_|refine Wf (by exact Vm) rfl ?_)
    refine JC.test (fun hc => ?_) (fun hc => ?_)
    · have hx128 : 128 ≤ x.toNat := by
        apply Classical.byContradiction
        intro hn
        have := (top1 x).2 (by omega)
        exact hc (by rw [this]; rfl)
      repeat (first|refine Wa ?_|refine Wc ?_|refine Wd ?_|refine We rfl ?_|refine Wf (by first|exact Va|exact Vk (by omega)) rfl ?_|refine Wm ?_|refine Wo ?_|refine Wp ?_)
      refine ⟨i + 1, N ||| shlN64 (UInt64.ofNat (x.toNat % 128)) (7 * i), ⟨by omega, fun d hd => ?_, fun h9 => by rw [hx]; exact get_next hi' (hN (by omega)) (.inl (by omega))⟩, by omega, inferInstance⟩
      rw [List.take_succ_eq_append_getElem hi', List.mem_append, List.mem_singleton] at hd
      rcases hd with hd | rfl
      · exact hg d hd
      · rw [← hx]; exact hx128
    · have hx128 : x.toNat < 128 := (top1 x).1 (by
        have : ((x &&& 128).toNat : Int) = 0 := by simpa using hc
        omega)
      have hat := getN_at hib (by rw [← htk]; exact hg) (by rw [← hBi, ← hx]; exact hx128)
      rw [← hBi, ← hx] at hat
      by_cases h0 : i = 0
      · rw [if_pos ⟨by omega, by omega, by omega⟩] at hat
        have hv := get_next hi' (hN (by omega)) (.inl (by omega))
        rw [← hx] at hv
        have htk1 : B.take (i + 1) = b.take (i + 1) := by rw [hB, List.take_take]; congr 1; omega
        rw [htk1] at hv
        rw [hat]
        dsimp only
        repeat (first|refine Wa ?_|refine Wb ?_|refine Wc ?_|refine We rfl ?_|refine Wf (by first|exact Va|exact Vo) rfl ?_|refine Wl ?_)
        refine JO.reslot 31 (.bool false) (by simp [h0]) ?_
        repeat (first|refine We rfl ?_|refine Wf (by first|exact Va|exact Vj|exact Vl) rfl ?_|refine Wv rfl rfl ?_)
        refine JO.reslot 38 (.bool false) (by simp [h0]) ?_
        repeat (first|refine Wa ?_|refine Wb ?_|refine Wc ?_|refine Wd ?_|refine We rfl ?_|refine Wf (by first|exact Va|exact Vb|exact Vj|exact Vk (by omega)) rfl ?_|refine Wk ?_|refine Wl ?_|refine Ws ?_|refine Wt ?_|refine Wu ?_|refine Wv rfl rfl ?_)
        refine CT.done () ?_ (fun w ho => ho.ent)
        rw [w64, hv]; rfl
      by_cases hx0 : x.toNat = 0
      · rw [if_neg (fun h => h.2.1 ⟨by omega, hx0⟩)] at hat
        rw [hat]
        repeat (first|refine Wa ?_|refine Wb ?_|refine Wc ?_|refine We rfl ?_|refine Wf (by first|exact Va|exact Vo) rfl ?_|refine Wl ?_)
        refine JO.reslot 31 (.bool true) (by simp; omega) ?_
        repeat (first|refine We rfl ?_|refine Wf (by first|exact Va|exact Vi|exact Vl) rfl ?_)
        refine JO.reslot 35 (.bool true) (by simp [hx0]) ?_
        repeat (first|refine Wa ?_|refine Wb ?_|refine Wc ?_|refine Wd ?_|refine We rfl ?_|refine Wf (by first|exact Vb|exact Vi) rfl ?_|refine Wj ?_|refine Wm ?_|refine Wo ?_|refine Wp ?_|refine Wq rfl ?_|refine Ws ?_|refine Wv rfl rfl ?_|refine Wx rfl rfl ?_)
        exact CT.done () rfl (fun w ho => ho.ent)
      by_cases h9 : i = 9
      · by_cases hx1 : 1 < x.toNat
        · rw [if_neg (fun h => h.2.2 ⟨h9, hx1⟩)] at hat
          rw [hat]
          repeat (first|refine Wa ?_|refine Wb ?_|refine Wc ?_|refine We rfl ?_|refine Wf (by first|exact Va|exact Vo) rfl ?_|refine Wl ?_)
          refine JO.reslot 31 (.bool true) (by simp; omega) ?_
          repeat (first|refine We rfl ?_|refine Wf (by first|exact Va|exact Vi|exact Vl) rfl ?_)
          refine JO.reslot 35 (.bool false) (by simp [hx0]) ?_
          repeat (first|refine We rfl ?_|refine Wf (by first|exact Va|exact Vl) rfl ?_)
          refine JO.reslot 38 (.bool true) (by simp [h9]) ?_
          repeat (first|refine Wa ?_|refine Wd ?_|refine We rfl ?_|refine Wf (by first|exact Va|exact Vi|exact Vj|exact Vo) rfl ?_)
          refine JC.reslot 42 (.bool true) (by simp; omega) ?_
          repeat (first|refine Wa ?_|refine Wb ?_|refine Wc ?_|refine Wd ?_|refine We rfl ?_|refine Wf (by exact Vb) rfl ?_|refine Wj ?_|refine Wm ?_|refine Wo ?_|refine Wp ?_|refine Wq rfl ?_|refine Ws ?_)
          exact CT.done () rfl (fun w ho => ho.ent)
        · rw [if_pos ⟨by omega, by omega, by omega⟩] at hat
          have hv := get_next hi' (hN (by omega)) (.inr ⟨h9, by rw [← hx]; omega⟩)
          rw [← hx] at hv
          have htk1 : B.take (i + 1) = b.take (i + 1) := by rw [hB, List.take_take]; congr 1; omega
          rw [htk1] at hv
          rw [hat]
          dsimp only
          repeat (first|refine Wa ?_|refine Wb ?_|refine Wc ?_|refine We rfl ?_|refine Wf (by first|exact Va|exact Vo) rfl ?_|refine Wl ?_)
          refine JO.reslot 31 (.bool true) (by simp; omega) ?_
          repeat (first|refine We rfl ?_|refine Wf (by first|exact Va|exact Vi|exact Vl) rfl ?_)
          refine JO.reslot 35 (.bool false) (by simp [hx0]) ?_
          repeat (first|refine We rfl ?_|refine Wf (by first|exact Va|exact Vl) rfl ?_)
          refine JO.reslot 38 (.bool true) (by simp [h9]) ?_
          repeat (first|refine Wa ?_|refine Wd ?_|refine We rfl ?_|refine Wf (by first|exact Va|exact Vi|exact Vj|exact Vo) rfl ?_)
          refine JC.reslot 42 (.bool false) (by simp; omega) ?_
          repeat (first|refine Wa ?_|refine Wb ?_|refine Wc ?_|refine Wd ?_|refine We rfl ?_|refine Wf (by first|exact Va|exact Vb|exact Vk (by omega)) rfl ?_|refine Wk ?_|refine Wl ?_|refine Ws ?_|refine Wt ?_|refine Wu ?_)
          refine CT.done () ?_ (fun w ho => ho.ent)
          rw [w64, hv]; rfl
      · rw [if_pos ⟨by omega, by omega, by omega⟩] at hat
        have hv := get_next hi' (hN (by omega)) (.inl (by omega))
        rw [← hx] at hv
        have htk1 : B.take (i + 1) = b.take (i + 1) := by rw [hB, List.take_take]; congr 1; omega
        rw [htk1] at hv
        rw [hat]
        dsimp only
        repeat (first|refine Wa ?_|refine Wb ?_|refine Wc ?_|refine We rfl ?_|refine Wf (by first|exact Va|exact Vo) rfl ?_|refine Wl ?_)
        refine JO.reslot 31 (.bool true) (by simp; omega) ?_
        repeat (first|refine We rfl ?_|refine Wf (by first|exact Va|exact Vi|exact Vl) rfl ?_)
        refine JO.reslot 35 (.bool false) (by simp [hx0]) ?_
        repeat (first|refine We rfl ?_|refine Wf (by first|exact Va|exact Vl) rfl ?_)
        refine JO.reslot 38 (.bool false) (by simp; omega) ?_
        repeat (first|refine Wa ?_|refine Wb ?_|refine Wc ?_|refine Wd ?_|refine We rfl ?_|refine Wf (by first|exact Va|exact Vb|exact Vj|exact Vk (by omega)) rfl ?_|refine Wk ?_|refine Wl ?_|refine Ws ?_|refine Wt ?_|refine Wu ?_|refine Wv rfl rfl ?_)
        refine CT.done () ?_ (fun w ho => ho.ent)
        rw [w64, hv]; rfl
  · obtain rfl : i = B.length := by omega
    rw [List.take_length] at hg
    have hnone : getN b = (0, 0) := by
      by_cases h10 : 10 ≤ b.length
      · exact getN_great (by rw [hB, Nat.min_eq_right h10] at hg; exact hg)
      · refine getN_none ?_
        rintro ⟨n, hn, r, hr⟩
        obtain ⟨_, i, l, h2, h3⟩ := numL_digits hn
        have hl : l ∈ B := by
          rw [hB, Nat.min_eq_left (by omega), List.take_length, ← hr, h2]; simp
        have := hg l hl
        have := h3.small
        omega
    rw [hnone]
    repeat (first|refine Wa ?_|refine Wb ?_|refine Wc ?_|refine Wd ?_|refine We rfl ?_|refine Wf (by exact Vb) rfl ?_|refine Wm ?_|refine Wo ?_|refine Wp ?_|refine Ws ?_)
    exact CT.done () rfl (fun w ho => ho.ent)
end Ab
end Go.Proofs.YtdgeffphifgflaaGreat
namespace Go.Proofs.YtdgeffphifgflaaGreat
namespace Ab
open Go Go.RowKit
set_option linter.unusedVariables false
set_option linter.unusedSimpArgs false
section
variable {P : Program} {ops : Array Oper} {C : World → Prop} {R X : Exit → Act → World → Prop}
def pOp (P : Program) (ops : Array Oper) (X : Exit → Act → World → Prop) (Rel : World → World → Prop) (i : Nat) (K : Act → World → Prop) (a : Act) (w : World) : Prop :=
  match ops[i]? with
  | none => K a w
  | some o => if Region.wanted o (yielded ops a.tmps) then o.wp P a w (fun a' w' => Rel w w' ∧ K a' w') X else K (a.put o.dst undef) w
theorem wp_exits {o : Oper} {a : Act} {w : World} {K K' : Act → World → Prop} {Q Q' : Exit → Act → World → Prop} (hk : ∀ a w, K a w → K' a w) (hq : ∀ c w, Q (.panic c) a w → Q' (.panic c) a w) (hl : LetsOut Q → LetsOut Q') (h : o.wp P a w K Q) : o.wp P a w K' Q' := by
  have h' := Oper.wp_mono (P := P) hk h
  clear h
  unfold Oper.wp at *
  generalize (execOp a.eval o).run P w = r at *
  cases r with
  | ok n w' =>
    cases n <;> simp only [Oper.upon] at h' ⊢ <;> first | exact h' | skip
    refine Calls.mono h' fun e w'' he => ?_
    cases e with
    | returned v => exact he
    | panicked c => exact hq _ _ he
    | outgrown => exact hl he
  | halt x w' => cases x <;> simp only [Oper.upon] at h' ⊢ <;> first | exact h' | exact hq _ _ h'
theorem pOp_wp {Rel : World → World → Prop} {i : Nat} {K K' : Act → World → Prop} {a : Act} {w : World} (hx : ∀ x a w, X x a w → R x a w) (hk : ∀ a w, K a w → K' a w) (h : pOp P ops X Rel i K a w) : wpOp P ops R i K' a w := by
  unfold pOp at h
  unfold wpOp
  split
  · rename_i ho; simp only [ho] at h; exact hk _ _ h
  · rename_i o ho
    simp only [ho] at h
    split
    · rename_i hw; simp only [hw, if_true] at h; exact .inl (wp_exits (fun a w h => hk a w h.2) (fun c w h => hx _ a w h) (fun ⟨a, w, h⟩ => ⟨a, w, hx _ _ _ h⟩) h)
    · rename_i hw; simp only [hw] at h; exact hk _ _ h
theorem pOp_mono {Rel Rel' : World → World → Prop} {i : Nat} {K K' : Act → World → Prop} {a : Act} {w : World} (hr : ∀ w w', Rel w w' → Rel' w w') (hk : ∀ a w, K a w → K' a w) (h : pOp P ops X Rel i K a w) : pOp P ops X Rel' i K' a w := by
  unfold pOp at *
  split
  · rename_i ho; simp only [ho] at h; exact hk _ _ h
  · rename_i o ho
    simp only [ho] at h
    split
    · rename_i hw; simp only [hw, if_true] at h; exact Oper.wp_mono (fun a w h => ⟨hr _ _ h.1, hk _ _ h.2⟩) h
    · rename_i hw; simp only [hw] at h; exact hk _ _ h
end
section
variable {P : Program} {ops : Array Oper} {C : World → Prop} {R X : Exit → Act → World → Prop} [Dr]
def pAny (P : Program) (ops : Array Oper) (X : Exit → Act → World → Prop) (Rel : Nat → World → World → Prop) (R : Exit → Act → World → Prop) : Nat → Array Bool → Act → World → Prop
  | 0, listed, a, w => Region.ready .any ops listed = [] ∧ R .normal a w
  | fuel + 1, listed, a, w =>
    (Region.ready .any ops listed = [] → R .normal a w) ∧
    ∀ i ∈ Region.ready .any ops listed, pOp P ops X (Rel i) i (fun a' w' => ∀ w'', Bel w'.heap.size w' w'' → pAny P ops X Rel R fuel (listed.setIfInBounds i true) a' w'') a w
theorem pAny_wp {Rel : Nat → World → World → Prop} (hx : ∀ x a w, X x a w → R x a w) : ∀ (fuel : Nat) (listed : Array Bool) (a : Act) (w : World), pAny P ops X Rel R fuel listed a w → wpAny P .any ops R fuel listed a w
  | 0, _, _, _, h => h
  | fuel + 1, listed, a, w, h => ⟨h.1, fun i hi => pOp_wp hx (fun a w h => pAny_wp hx fuel _ a w (h w (Bel.refl _ _))) (h.2 i hi)⟩
theorem pAny_mono {Rel Rel' : Nat → World → World → Prop} (hr : ∀ i w w', Rel i w w' → Rel' i w w') : ∀ (fuel : Nat) (listed : Array Bool) (a : Act) (w : World), pAny P ops X Rel R fuel listed a w → pAny P ops X Rel' R fuel listed a w
  | 0, _, _, _, h => h
  | fuel + 1, listed, a, w, h => ⟨h.1, fun i hi => pOp_mono (hr i) (fun a w h w'' hb => pAny_mono hr fuel _ a w'' (h w'' hb)) (h.2 i hi)⟩
theorem YieldsC.pOp {Rel : World → World → Prop} {i : Nat} {o : Oper} {v : Value} {a : Act} (hi : ops[i]? = some o) (hy : YieldsC P ops C o v a) {K : Act → World → Prop} {w : World} (hR : ∀ w', Bel w.heap.size w w' → Rel w w') (hC : C w)
    (h : ∀ w', Bel w.heap.size w w' → K (a.put o.dst v) w') : pOp P ops X Rel i K a w := by
  unfold Ab.pOp
  simp only [hi]
  rcases hy with ⟨hw, hv⟩ | ⟨hw, rfl⟩
  · simp only [hw, if_true]
    have h1 := hv w hC
    unfold YieldsAt at h1
    unfold Oper.wp
    generalize (execOp a.eval o).run P w = r at *
    cases r with
    | ok n w' =>
      cases n <;> simp only [Oper.upon] at h1 ⊢ <;> first | exact h1.elim | skip
      case value u =>
        obtain ⟨rfl, rfl⟩ := h1
        exact ⟨hR _ (Bel.refl _ _), h _ (Bel.refl _ _)⟩
      case enter f args =>
        refine Calls.mono h1 fun x w'' hx => ?_
        obtain ⟨rfl, hb⟩ := hx
        exact ⟨hR _ hb, h _ hb⟩
    | halt x w' => exact h1.elim
  · simp only [hw, Bool.false_eq_true, if_false]; exact h w (Bel.refl _ _)
theorem pOp_put {Rel : World → World → Prop} {j : Nat} {oi oj : Oper} {v : Value} (hj : ops[j]? = some oj) (hap : oi.apart ops oj = true)
    (hsi : ∀ cs b, oi.op ≠ .select cs b) (hsj : ∀ cs b, oj.op ≠ .select cs b) {K : Act → World → Prop} {a : Act} {w : World}
    (hX : ∀ x a d v w, X x (a.put d v) w → X x a w) (hw0 : C w) (hy : YieldsC P ops C oi v a) (h : pOp P ops X (fun w w' => Rel w w' ∧ (C w → C w')) j K (a.put oi.dst v) w) :
    pOp P ops X Rel j (fun a' w' => (C w' ∧ YieldsC P ops C oi v a') ∧ K (a'.put oi.dst v) w') a w := by
  obtain ⟨h1, h2, h3⟩ := Oper.apart_spec hap
  have keep : ∀ u, YieldsC P ops C oi v (a.put oj.dst u) := fun u => hy.same (execOp_put oi hsi a oj.dst u h3) (wanted_put oi a oj.dst u h3)
  unfold pOp at *
  simp only [hj] at *
  rw [wanted_put oj a oi.dst v h1] at h
  split
  · rename_i hw
    simp only [hw, if_true] at h
    unfold Oper.wp at *
    rw [execOp_put oj hsj a oi.dst v h1] at h
    generalize (execOp a.eval oj).run P w = r at *
    have put : ∀ u w', ((Rel w w' ∧ (C w → C w')) ∧ K ((a.put oi.dst v).put oj.dst u) w') → (Rel w w' ∧ (C w' ∧ YieldsC P ops C oi v (a.put oj.dst u)) ∧ K ((a.put oj.dst u).put oi.dst v) w') :=
      fun u w' hh => ⟨hh.1.1, ⟨hh.1.2 hw0, keep u⟩, by rw [← Act.put_comm a v u h2]; exact hh.2⟩
    cases r with
    | ok n w' =>
      cases n <;> simp only [Oper.upon] at h ⊢
      case value u => exact put u _ h
      case skip => exact put undef _ h
      case defer d =>
        have hd : YieldsC P ops C oi v ({ a with defers := d :: a.defers } : Act) := hy.same rfl rfl
        refine ⟨h.1.1, ⟨h.1.2 hw0, hd.same (execOp_put oi hsi _ oj.dst undef h3) (wanted_put oi _ oj.dst undef h3)⟩, ?_⟩
        rw [← Act.put_comm _ v undef h2, ← Act.put_defers]
        exact h.2
      case enter f args =>
        refine Calls.mono h fun e w'' he => ?_
        cases e with
        | returned u => exact put u _ he
        | panicked c => exact hX _ _ _ _ _ he
        | outgrown => exact he
      case row row args => exact Rows.mono h fun u w'' he => put u _ he
    | halt x w' =>
      cases x <;> simp only [Oper.upon] at h ⊢
      case panic u => exact hX _ _ _ _ _ h
  · rename_i hw
    simp only [hw] at h
    exact ⟨⟨hw0, keep _⟩, by rw [← Act.put_comm a v undef h2]; exact h⟩
theorem pAny_first {Rel : Nat → World → World → Prop} {i : Nat} {oi : Oper} {v : Value} (hX : ∀ x a d v w, X x (a.put d v) w → X x a w) (hi : ops[i]? = some oi) (hsel : ∀ (j : Nat) (o : Oper) cs b, ops[j]? = some o → o.op ≠ .select cs b)
    (hC : ∀ w w', C w → Bel w.heap.size w w' → C w') (hR : ∀ j w w', Bel w.heap.size w w' → Rel j w w') (dep : Nat → Bool) (hdep : ∀ k o, ops[k]? = some o → dep k = true → ∃ e ∈ o.after, Region.binds .any e = true ∧ (e.on = i ∨ dep e.on = true)) :
    ∀ (fuel : Nat) (listed : Array Bool) (a : Act) (w : World),
      (∀ j oj, ops[j]? = some oj → j ≠ i → listed.getD j true = false → (∀ e ∈ oj.after, Region.binds .any e = true → e.on ≠ i) → oi.apart ops oj = true) →
      (∀ k, dep k = true → listed.getD k false = false) → i ∈ Region.ready .any ops listed → C w → YieldsC P ops C oi v a →
      (∀ w', Bel w.heap.size w w' → pAny P ops X (fun j w w' => Rel j w w' ∧ (dep j = false → C w → C w')) R fuel (listed.setIfInBounds i true) (a.put oi.dst v) w') → pAny P ops X Rel R (fuel + 1) listed a w := by
  have hmono : ∀ fuel listed a w, pAny P ops X (fun j w w' => Rel j w w' ∧ (dep j = false → C w → C w')) R fuel listed a w → pAny P ops X Rel R fuel listed a w := pAny_mono fun _ _ _ h => h.1
  intro fuel
  induction fuel with
  | zero =>
    intro listed a w _ _ hr hw hy H
    refine ⟨fun h => (by rw [h] at hr; cases hr), fun j hj => ?_⟩
    by_cases hji : j = i
    · subst hji; exact hy.pOp hi (hR j w) hw (fun w' hb w'' hb' => hmono _ _ _ _ (H w'' (hb.trans (hb'.mono hb.size))))
    · have := ready_mono hj hji
      rw [(H w (Bel.refl _ _)).1] at this
      cases this
  | succ fuel ih =>
    intro listed a w hfree hcl hr hw hy H
    refine ⟨fun h => (by rw [h] at hr; cases hr), fun j hj => ?_⟩
    by_cases hji : j = i
    · subst hji; exact hy.pOp hi (hR j w) hw (fun w' hb w'' hb' => hmono _ _ _ _ (H w'' (hb.trans (hb'.mono hb.size))))
    · have h1 := (H w (Bel.refl _ _)).2 j (ready_mono hj hji)
      obtain ⟨hjun, oj, hoj, hall⟩ := mem_ready.1 hj
      have hnot : ∀ e ∈ oj.after, Region.binds .any e = true → e.on ≠ i := fun e he hb heq => by
        have h1 := hall e he hb
        have h0 := (mem_ready.1 hr).1
        rw [heq] at h1
        rcases Nat.lt_or_ge i listed.size with h' | h'
        · simp [h'] at h0 h1; rw [h0] at h1; cases h1
        · simp [Array.getElem?_eq_none h'] at h1
      have hjd : dep j = false := by
        rw [← Bool.not_eq_true]
        intro hd
        obtain ⟨e, he, hb, hon⟩ := hdep j oj hoj hd
        rcases hon with hon | hon
        · exact hnot e he hb hon
        · have := hall e he hb
          rw [hcl _ hon] at this
          cases this
      have hcl' : ∀ k, dep k = true → (listed.setIfInBounds j true).getD k false = false := fun k hk => by
        have hjk : j ≠ k := fun e => by subst e; rw [hk] at hjd; cases hjd
        rw [getD_set_ne false hjk]
        exact hcl k hk
      have h1' := pOp_mono (Rel' := fun w w' => Rel j w w' ∧ (C w → C w')) (fun w w' h => ⟨h.1, h.2 hjd⟩) (fun _ _ h => h) h1
      have h2 := pOp_put hoj (hfree j oj hoj hji hjun hnot) (fun cs b => hsel i oi cs b hi) (fun cs b => hsel j oj cs b hoj) hX hw hy h1'
      have hfree' : ∀ k ok, ops[k]? = some ok → k ≠ i → (listed.setIfInBounds j true).getD k true = false →
          (∀ e ∈ ok.after, Region.binds .any e = true → e.on ≠ i) → oi.apart ops ok = true := fun k ok hk hki hun hno => by
        refine hfree k ok hk hki ?_ hno
        by_cases hjk : j = k
        · subst hjk; exact hjun
        · rw [getD_set_ne true hjk] at hun; exact hun
      refine pOp_mono (fun _ _ h => h) (fun a' w' h3 w2 hb2 => ih (listed.setIfInBounds j true) a' w2 hfree' hcl' (ready_mono hr (Ne.symm hji)) (hC _ _ h3.1.1 hb2) h3.1.2 (fun w3 hb3 => ?_)) h2
      rw [Array.setIfInBounds_comm _ _ hji]
      exact h3.2 w3 (hb2.trans (hb3.mono hb2.size))
end
abbrev Obl := List (List Bool × List Fact)
def relOf [Dr] (w0 : World) (F : Nat → Prop) (Ob : Obl) (j : Nat) (w w' : World) : Prop := ∀ p ∈ Ob, p.1.getD j false = false → Hold w0 F p.2 w → Hold w0 F p.2 w'
def Obs (Ob : Obl) (j : Nat) (Γ : List Fact) : Prop := ∀ p ∈ Ob, p.1.getD j false = false → Sub Γ p.2
theorem Obs.nil {j : Nat} {Γ : List Fact} : Obs [] j Γ := fun p hp => by cases hp
theorem Obs.skip {j : Nat} {Γ : List Fact} {p : List Bool × List Fact} {Ob : Obl} (h : p.1.getD j false = true) (k : Obs Ob j Γ) : Obs (p :: Ob) j Γ := fun q hq => by
  rcases List.mem_cons.1 hq with rfl | hq
  · intro h'; rw [h] at h'; cases h'
  · exact k q hq
theorem Obs.keep {j : Nat} {Γ : List Fact} {p : List Bool × List Fact} {Ob : Obl} [h : Sub Γ p.2] (k : Obs Ob j Γ) : Obs (p :: Ob) j Γ := fun q hq => by
  rcases List.mem_cons.1 hq with rfl | hq
  · exact fun _ => h
  · exact k q hq
def exitP [Dr] (n : Nn) (w0 : World) (F : Nat → Prop) (Q : Cont) : Exit → Act → World → Prop := fun x a w => ∃ c Γ, x = .panic c ∧ Q (.panic c) [] Γ ∧ Fr n [] a ∧ Hold w0 F Γ w
theorem exitP_put [Dr] {n : Nn} {w0 : World} {F : Nat → Prop} {Q : Cont} (x : Exit) (a : Act) (d : Option Nat) (v : Value) (w : World) (h : exitP n w0 F Q x (a.put d v) w) : exitP n w0 F Q x a w := by
  obtain ⟨c, Γ, hx, hq, fr, ho⟩ := h
  refine ⟨c, Γ, hx, hq, ⟨?_, ?_, fun i u hu => by cases hu⟩, ho⟩
  · have := fr.defers; cases d <;> simpa [Act.put] using this
  · have := fr.size; cases d <;> simpa [Act.put] using this
theorem exitP_up [Dr] {n : Nn} {w0 : World} {F : Nat → Prop} {Q : Cont} (x : Exit) (a : Act) (w : World) (h : exitP n w0 F Q x a w) : up n w0 F Q x a w := by
  obtain ⟨c, Γ, rfl, hq, fr, ho⟩ := h
  exact ⟨[], Γ, hq, fr, ho⟩
def JP [Dr] (P : Program) (n : Nn) (w0 : World) (F : Nat → Prop) (ops : List Oper) (Ob : Obl) (fuel : Nat) (done : List Bool) (Q : Cont) (e : E) (Γ : List Fact) : Prop :=
  ∀ a w, Fr n e a → Hold w0 F Γ w → pAny P ⟨ops⟩ (exitP n w0 F Q) (relOf w0 F Ob) (up n w0 F Q) fuel ⟨done⟩ a w
def depsFit (ops : List Oper) (done : List Bool) (i : Nat) (dep : List Bool) : Bool :=
  (List.range ops.length).all fun k => (!dep.getD k false || (!done.getD k false && (match ops[k]? with | some o => o.after.any fun e => Region.binds .any e && (e.on == i || dep.getD e.on false) | none => false)))
def takeOkP (ops : List Oper) (done : List Bool) (i : Nat) : Bool :=
  Region.noSelect ⟨ops⟩ && Region.free .any ⟨ops⟩ ⟨done⟩ i && (Region.ready .any ⟨ops⟩ ⟨done⟩).contains i && (depsFit ops done i (depsOf ops i) && Nat.beq (depsOf ops i).length ops.length)
section
variable {P : Program} {n : Nn} {w0 : World} {F : Nat → Prop} {ops : List Oper} {Ob : Obl} {fuel i d : Nat} {done done' : List Bool} {t : TypeId} {pos : String} {aft : Array Edge} {g : Option (Nat × Bool)} {Q : Cont} {e : E} {Γ : List Fact} [Dr]
theorem JC.drawP {id : Nat} (hm : P.follows .mixedOrders = true) (h : JP P n w0 F ops [] ops.length (List.replicate ops.length false) Q e Γ) : JC P n w0 F (.region id ⟨ops⟩ true) Q e Γ := by
  intro a w fr ho
  refine wp_region_any hm ?_
  have := pAny_wp exitP_up _ _ _ _ (h a w.drew fr ho.drew)
  have e1 : (⟨List.replicate ops.length false⟩ : Array Bool) = Array.replicate (⟨ops⟩ : Array Oper).size false := by apply Array.ext'; simp
  rw [← e1]
  exact this
theorem JP.nil (hr : Region.ready .any ⟨ops⟩ ⟨done⟩ = []) (h : Q .normal e Γ) : JP P n w0 F ops Ob fuel done Q e Γ := by
  intro a w fr ho
  cases fuel with
  | zero => exact ⟨hr, e, Γ, h, fr, ho⟩
  | succ fuel => exact ⟨fun _ => ⟨e, Γ, h, fr, ho⟩, by rw [hr]; simp⟩
theorem relOf_bel {Ob : Obl} (j : Nat) (w w' : World) (hb : Bel w.heap.size w w') : relOf w0 F Ob j w w' := fun p _ _ h => h.of_below hb
theorem takeP_any {o : Oper} {v : Value} {C : World → Prop} (hi : ops[i]? = some o) (hok : takeOkP ops done i = true) (hC : ∀ w w', C w → Bel w.heap.size w w' → C w') (hCw : ∀ w, Hold w0 F Γ w → C w) (hy : ∀ a, Fr n e a → YieldsC P ⟨ops⟩ C o v a)
    (h : ∀ a w, Fr n e a → Hold w0 F Γ w → pAny P ⟨ops⟩ (exitP n w0 F Q) (fun j w w' => relOf w0 F Ob j w w' ∧ ((depsOf ops i).getD j false = false → C w → C w')) (up n w0 F Q) fuel ⟨done.set i true⟩ (a.put o.dst v) w) : JP P n w0 F ops Ob (fuel + 1) done Q e Γ := by
  intro a w fr ho
  simp only [takeOkP, Bool.and_eq_true] at hok
  obtain ⟨⟨⟨h2, h3⟩, h4⟩, h5⟩ := hok
  have hi' : (⟨ops⟩ : Array Oper)[i]? = some o := by simpa using hi
  have h6 : ∀ k, k < ops.length → (depsOf ops i).getD k false = true → done.getD k false = false ∧ ∃ o, ops[k]? = some o ∧ ∃ e ∈ o.after, Region.binds .any e = true ∧ (e.on = i ∨ (depsOf ops i).getD e.on false = true) := by
    intro k hk hd
    have h7 := List.all_eq_true.1 h5.1 k (List.mem_range.2 hk)
    simp only [Bool.and_eq_true, Bool.or_eq_true, Bool.not_eq_true'] at h7
    rcases h7 with h8 | h8
    · rw [hd] at h8; cases h8
    · refine ⟨h8.1, ops[k], List.getElem?_eq_getElem hk, ?_⟩
      have h9 := h8.2
      rw [List.getElem?_eq_getElem hk] at h9
      obtain ⟨e, he, hb⟩ := Array.any_eq_true'.1 h9
      simp only [Bool.and_eq_true, Bool.or_eq_true, beq_iff_eq] at hb
      exact ⟨e, he, hb.1, hb.2⟩
  have hlen : (depsOf ops i).length = ops.length := Nat.eq_of_beq_eq_true h5.2
  have hdl : ∀ k, (depsOf ops i).getD k false = true → k < ops.length := by
    intro k hk
    rcases Nat.lt_or_ge k ops.length with h | h
    · exact h
    · rw [List.getD_eq_getElem?_getD, List.getElem?_eq_none (by omega)] at hk; cases hk
  refine pAny_first (C := C) exitP_put hi' (Region.noSelect_spec h2) hC (fun j w w' hb => relOf_bel j w w' hb) (fun k => (depsOf ops i).getD k false) (fun k o' hk hd => ?_) fuel ⟨done⟩ a w (Region.free_spec hi' h3) (fun k hk => ?_) (by simpa using h4) (hCw w ho) (hy a fr) ?_
  · obtain ⟨o2, ho2, h⟩ := (h6 k (hdl k hd) hd).2
    have : ops[k]? = some o' := by simpa using hk
    rw [this] at ho2
    injection ho2 with ho2
    subst ho2
    exact h
  · have := (h6 k (hdl k hk) hk).1
    simpa using this
  · intro w' hb
    have := h a w' fr (ho.of_below hb)
    simpa using this
theorem JP.take {op : Op} {v : Value} (i : Nat) (Δ : List Fact) (hi : ops[i]? = some ⟨some d, op, t, pos, aft, g⟩) (hok : takeOkP ops done i = true) (hg : gtest ops e g = some true) [hs : Sub Γ Δ] (h : OpV P n w0 F ⟨some d, op, t, pos, aft, g⟩ e Δ v) (hd : Nat.blt d n.s = true)
    (hdone : done.set i true = done') (k : JP P n w0 F ops ((depsOf ops i, Δ) :: Ob) fuel done' Q ((d, v) :: e) Γ) : JP P n w0 F ops Ob (fuel + 1) done Q e Γ :=
  takeP_any (C := Hold w0 F Δ) hi hok (fun w w' h hb => h.of_below hb) (fun w ho => ho.sub hs) (fun a fr => .inl ⟨gtest_ok (o := ⟨some d, op, t, pos, aft, g⟩) hg fr, fun w ho => by unfold YieldsAt; rw [h a w fr ho]; exact ⟨rfl, rfl⟩⟩)
    (fun a w fr ho => by
      subst hdone
      exact pAny_mono (fun j w w' hr => ⟨fun p hp => hr p (List.mem_cons_of_mem _ hp), fun hdj => hr _ (List.mem_cons_self ..) hdj⟩) _ _ _ _ (k _ w (fr.put hd v) ho))
theorem JP.pure {op : Op} {v : Value} (i : Nat) (hi : ops[i]? = some ⟨some d, op, t, pos, aft, g⟩) (hok : takeOkP ops done i = true) (hg : gtest ops e g = some true) (h : ∀ w1, OpV P n w1 F ⟨some d, op, t, pos, aft, g⟩ e [] v) (hd : Nat.blt d n.s = true)
    (hdone : done.set i true = done') (k : JP P n w0 F ops Ob fuel done' Q ((d, v) :: e) Γ) : JP P n w0 F ops Ob (fuel + 1) done Q e Γ :=
  takeP_any (C := fun _ => True) hi hok (fun _ _ _ _ => trivial) (fun _ _ => trivial) (fun a fr => .inl ⟨gtest_ok (o := ⟨some d, op, t, pos, aft, g⟩) hg fr, fun w _ => by unfold YieldsAt; rw [h w a w fr (Hold.start w F)]; exact ⟨rfl, rfl⟩⟩)
    (fun a w fr ho => by
      subst hdone
      exact pAny_mono (fun j w w' hr => ⟨hr, fun _ h => h⟩) _ _ _ _ (k _ w (fr.put hd v) ho))
theorem JP.omit {op : Op} (i : Nat) (hi : ops[i]? = some ⟨some d, op, t, pos, aft, g⟩) (hok : takeOkP ops done i = true) (hg : gtest ops e g = some false) (hd : Nat.blt d n.s = true)
    (hdone : done.set i true = done') (k : JP P n w0 F ops Ob fuel done' Q ((d, undef) :: e) Γ) : JP P n w0 F ops Ob (fuel + 1) done Q e Γ :=
  takeP_any (C := fun _ => True) (v := undef) hi hok (fun _ _ _ _ => trivial) (fun _ _ => trivial) (fun a fr => .inr ⟨gtest_ok (o := ⟨some d, op, t, pos, aft, g⟩) hg fr, rfl⟩)
    (fun a w fr ho => by
      subst hdone
      exact pAny_mono (fun j w w' hr => ⟨hr, fun _ h => h⟩) _ _ _ _ (k _ w (fr.put hd undef) ho))
theorem JP.takeCall {v : Value} {f : Operand} {args : Array Operand} {ats : Array TypeId} {fid : FuncId} {caps vs us : List Value} (i : Nat) (Δ : List Fact) (hi : ops[i]? = some ⟨some d, .call ⟨.value f, args, ats⟩, t, pos, aft, g⟩) (hok : takeOkP ops done i = true) (hg : gtest ops e g = some true) [hs : Sub Γ Δ]
    [hf : Fun e f fid caps] [hv : ArgVs e args.toList vs] [hu : App vs caps us] [hb : Body P fid]
    (hc : ∀ w, Hold w0 F Δ w → GivesV P fid us w (fp w0 F Δ) v) (hd : Nat.blt d n.s = true)
    (hdone : done.set i true = done') (k : JP P n w0 F ops ((depsOf ops i, Δ) :: Ob) fuel done' Q ((d, v) :: e) Γ) : JP P n w0 F ops Ob (fuel + 1) done Q e Γ :=
  takeP_any (C := Hold w0 F Δ) (v := v) hi hok (fun w w' h hb => h.of_below hb) (fun w ho => ho.sub hs) (fun a fr => .inl ⟨gtest_ok (o := ⟨some d, .call ⟨.value f, args, ats⟩, t, pos, aft, g⟩) hg fr, fun w ho => by
      unfold YieldsAt
      rw [run_call fr hf hv hu hb]
      refine Calls.mono (hc w ho) ?_
      rintro x w' ⟨_, rfl, hbel, _⟩
      exact ⟨rfl, hbel⟩⟩)
    (fun a w fr ho => by
      subst hdone
      exact pAny_mono (fun j w w' hr => ⟨fun p hp => hr p (List.mem_cons_of_mem _ hp), fun hdj => hr _ (List.mem_cons_self ..) hdj⟩) _ _ _ _ (k _ w (fr.put hd v) ho))
theorem JP.reslot (s : Nat) {v : Value} (u : Value) [hs : Lk e s v] (h : v = u) (k : JP P n w0 F ops Ob fuel done Q ((s, u) :: e) Γ) : JP P n w0 F ops Ob fuel done Q e Γ :=
  fun a w fr ho => k a w (fr.again (by rw [← h]; exact hs.ok)) ho
theorem JP.more {Γ' : List Fact} (h : ∀ w, Hold w0 F Γ w → Hold w0 F Γ' w) (k : JP P n w0 F ops Ob fuel done Q e Γ') : JP P n w0 F ops Ob fuel done Q e Γ :=
  fun a w fr ho => k a w fr (h w ho)
theorem opP {o : Oper} (i : Nat) (hi : ops[i]? = some o) (hg : gtest ops e o.guard = some true)
    (h : JR P n w0 F ⟨[o]⟩ 0 o [] (fun x e' Γ' => (x = .normal ∧ Obs Ob i Γ' ∧ JP P n w0 F ops Ob fuel (done.set i true) Q e' Γ') ∨ (∃ c, x = .panic c ∧ Q (.panic c) [] Γ')) e Γ) (a : Act) (w : World) (fr : Fr n e a) (ho : Hold w0 F Γ w) :
    pOp P ⟨ops⟩ (exitP n w0 F Q) (relOf w0 F Ob i) i (fun a' w' => ∀ w'', Bel w'.heap.size w' w'' → pAny P ⟨ops⟩ (exitP n w0 F Q) (relOf w0 F Ob) (up n w0 F Q) fuel ((⟨done⟩ : Array Bool).setIfInBounds i true) a' w'') a w := by
  have hi' : (⟨ops⟩ : Array Oper)[i]? = some o := by simpa using hi
  unfold pOp
  simp only [hi']
  rw [if_pos (gtest_ok hg fr)]
  refine wp_exits (fun a' w' hk => ?_) (fun c w hx => ?_) (fun hx => ?_) (h rfl a w fr ho)
  · simp only [List.range'_zero, List.length_nil, wpOps] at hk
    obtain ⟨e', Γ', hk, fr', ho'⟩ := hk
    rcases hk with ⟨_, hs, hj⟩ | ⟨c, hc, _⟩
    · refine ⟨fun p hp hd _ => ho'.sub (hs p hp hd), fun w'' hb => ?_⟩
      have := hj a' w'' fr' (ho'.of_below hb)
      simpa using this
    · cases hc
  · obtain ⟨e', Γ', hk, fr', ho'⟩ := hx
    rcases hk with ⟨hn, hs, hj⟩ | ⟨c', hc, hq⟩
    · cases hn
    · injection hc with hc
      subst hc
      exact ⟨c, Γ', rfl, hq, ⟨fr'.defers, fr'.size, fun i u hu => by cases hu⟩, ho'⟩
  · obtain ⟨a, w, e', Γ', hk, _⟩ := hx
    rcases hk with ⟨hn, _⟩ | ⟨c, hc, _⟩
    · cases hn
    · cases hc
theorem JR.mono0 {o : Oper} {Q' : Cont} (h : JR P n w0 F ⟨[o]⟩ 0 o [] Q e Γ) (hq : ∀ x e Γ, Q x e Γ → Q' x e Γ) : JR P n w0 F ⟨[o]⟩ 0 o [] Q' e Γ := by
  intro hd a w fr ho
  refine wp_exits (fun a' w' hk => ?_) (fun c w hx => ?_) (fun hx => ?_) (h hd a w fr ho)
  · simp only [List.range'_zero, List.length_nil, wpOps] at hk ⊢
    obtain ⟨e', Γ', hk, r⟩ := hk
    exact ⟨e', Γ', hq _ _ _ hk, r⟩
  · obtain ⟨e', Γ', hk, r⟩ := hx
    exact ⟨e', Γ', hq _ _ _ hk, r⟩
  · obtain ⟨a, w, e', Γ', hk, r⟩ := hx
    exact ⟨a, w, e', Γ', hq _ _ _ hk, r⟩
theorem JP.op {o : Oper} (i : Nat) (hr : Region.ready .any ⟨ops⟩ ⟨done⟩ = [i]) (hi : ops[i]? = some o) (hg : gtest ops e o.guard = some true)
    (h : JR P n w0 F ⟨[o]⟩ 0 o [] (fun x e' Γ' => x = .normal ∧ Obs Ob i Γ' ∧ JP P n w0 F ops Ob fuel (done.set i true) Q e' Γ') e Γ) : JP P n w0 F ops Ob (fuel + 1) done Q e Γ := by
  intro a w fr ho
  refine ⟨fun h0 => ?_, fun j hj => ?_⟩
  · rw [h0] at hr; cases hr
  · rw [hr] at hj
    simp only [List.mem_singleton] at hj; subst hj
    exact opP j hi hg (h.mono0 fun _ _ _ h => .inl h) a w fr ho
theorem JP.gone {o : Oper} (i : Nat) (hr : Region.ready .any ⟨ops⟩ ⟨done⟩ = [i]) (hi : ops[i]? = some o) (hg : gtest ops e o.guard = some true)
    (h : JR P n w0 F ⟨[o]⟩ 0 o [] (fun x e' Γ' => ∃ c, x = .panic c ∧ Q (.panic c) [] Γ') e Γ) : JP P n w0 F ops Ob (fuel + 1) done Q e Γ := by
  intro a w fr ho
  refine ⟨fun h0 => ?_, fun j hj => ?_⟩
  · rw [h0] at hr; cases hr
  · rw [hr] at hj
    simp only [List.mem_singleton] at hj; subst hj
    exact opP j hi hg (h.mono0 fun _ _ _ h => .inr h) a w fr ho
theorem JP.both {o o' : Oper} (i j : Nat) (hr : Region.ready .any ⟨ops⟩ ⟨done⟩ = [i, j]) (hi : ops[i]? = some o) (hj : ops[j]? = some o') (hg : gtest ops e o.guard = some true) (hg' : gtest ops e o'.guard = some true)
    (h : JR P n w0 F ⟨[o]⟩ 0 o [] (fun x e' Γ' => x = .normal ∧ Obs Ob i Γ' ∧ JP P n w0 F ops Ob fuel (done.set i true) Q e' Γ') e Γ)
    (h' : JR P n w0 F ⟨[o']⟩ 0 o' [] (fun x e' Γ' => x = .normal ∧ Obs Ob j Γ' ∧ JP P n w0 F ops Ob fuel (done.set j true) Q e' Γ') e Γ) : JP P n w0 F ops Ob (fuel + 1) done Q e Γ := by
  intro a w fr ho
  refine ⟨fun h0 => ?_, fun k hk => ?_⟩
  · rw [h0] at hr; cases hr
  · rw [hr] at hk
    simp only [List.mem_cons, List.not_mem_nil, or_false] at hk
    rcases hk with rfl | rfl
    · exact opP k hi hg (h.mono0 fun _ _ _ h => .inl h) a w fr ho
    · exact opP k hj hg' (h'.mono0 fun _ _ _ h => .inl h) a w fr ho
end
end Ab
end Go.Proofs.YtdgeffphifgflaaGreat
namespace Go.Proofs.YtdgeffphifgflaaGreat
namespace Ab
open Go Go.RowKit
set_option linter.unusedVariables false
set_option linter.unusedSimpArgs false
set_option synthInstance.maxSize 4000
set_option synthInstance.maxHeartbeats 400000
attribute [local irreducible] JC JO JR JQ andThen inBlock OpV Gives retTo JM JS
abbrev wrongV : Value := .iface 203 (.agg ⟨[]⟩)
abbrev wrongP : List PanicEntry := pan wrongV
theorem unless_ok (w : World) (F : Nat → Prop) : GivesV Tryz.prog 230 [.bool true] w F (.tuple ⟨[]⟩) := by
  refine gives_of Tryz.func230 rfl Tryz.ntmps230 rfl rfl [] (.start w F) ?_
  repeat (first|refine Wa ?_|refine Wb ?_|refine Wc ?_|refine Wd ?_|refine We rfl ?_|refine Wf (by first|exact Va|exact Vh) rfl ?_|refine Wk ?_|refine Wl ?_)
  exact CT.doneN () rfl (fun w ho => ho.ent)
theorem unless_bad {w0 w : World} {F : Nat → Prop} {Γ : List Fact} (ho : Hold w0 F Γ w) : Calls Tryz.prog 230 ⟨[.bool false]⟩ w fun x w' => x = .panicked wrongP ∧ Hold w0 F Γ w' := by
  refine panics_of Tryz.func230 rfl Tryz.ntmps230 rfl _ ho ?_
  repeat (first|refine Wa ?_|refine Wb ?_|refine Wc ?_|refine Wd ?_|refine We rfl ?_|refine Wf (by first|exact Va|exact Vh) rfl ?_|refine Wj ?_)
  refine Wf (OpV.build [] (by kernel_rfl)) rfl ?_
  repeat (refine We rfl ?_)
  refine Wf (OpV.makeIface (by kernel_rfl)) rfl ?_
  repeat (refine We rfl ?_)
  refine JR.panic ?_
  repeat (first | refine CT.panic ?_ | refine CT.blockPanic ?_)
  exact CT.gone (fun w ho => ho)
section
variable {w0 w : World} {F : Nat → Prop} {Γ : List Fact} {br : Nat} {a : Option Addr} {c : Nat} {L : List UInt8}
set_option maxHeartbeats 1000000 in
theorem num_ok (hk : (getN L).2 ≠ 0) (ho : Hold w0 F (.own br 207 [.slice a L.length c] :: .st (sl a c L) :: Γ) w) :
    Calls Tryz.prog 226 ⟨[.pointer (some ⟨br, 0, none⟩)]⟩ w fun x w' => ∃ y : Option Addr × Nat, x = .returned (.int .u64 ((getN L).1 : Int)) ∧ Hold w0 F (.own br 207 [.slice y.1 (L.drop (getN L).2).length y.2] :: .st (sl y.1 y.2 (L.drop (getN L).2)) :: Γ) w' := by
  have hkl := (getN_le L).1
  refine calls_of (v := fun y : Option Addr × Nat => .int .u64 ((getN L).1 : Int)) (B := fun y => .own br 207 [.slice y.1 (L.drop (getN L).2).length y.2] :: .st (sl y.1 y.2 (L.drop (getN L).2)) :: Γ) Tryz.func226 rfl Tryz.ntmps226 rfl rfl _ ho ?_
  repeat (first|refine Wa ?_|refine Wb ?_|refine Wc ?_|refine Wd ?_|refine We rfl ?_|refine Wf (by first|exact Va|exact Vb) rfl ?_)
  refine Wf OpV.nilCheck rfl ?_
  repeat (first|refine We rfl ?_|refine Wf (by first|exact Vc|exact Vd) rfl ?_)
  refine JR.callV rfl (fun w1 hw => get_enc w1 _ a c L hw.get) ?_
  repeat (first|refine Wa ?_|refine Wb ?_|refine Wc ?_|refine Wd ?_|refine We rfl ?_|refine Wf (by first|exact Va|exact Vb|exact Vo|exact Vq) rfl ?_)
  refine JR.reslot 14 (.bool true) (by congr 1; exact decide_eq_true (by omega)) ?_
  refine JR.callV rfl (fun w1 hw => unless_ok w1 _) ?_
  repeat (first|refine Wa ?_|refine Wb ?_|refine Wc ?_|refine Wd ?_|refine We rfl ?_|refine Wf (by exact Va) rfl ?_)
  refine Wf OpV.nilCheck rfl ?_
  repeat (first|refine We rfl ?_|refine Wf (by first|exact Va|exact Vc|exact Vd) rfl ?_)
  refine JR.sliceFrom (L := L) (k := (getN L).2) rfl rfl hkl ?_
  intro a2 c2
  repeat (refine We rfl ?_)
  refine Wf OpV.nilCheck rfl ?_
  repeat (first|refine We rfl ?_|refine Wf (by exact Vd) rfl ?_)
  refine JR.reslot 24 (.pointer (some ⟨br, 0, none⟩)) rfl ?_
  refine Wi ?_
  repeat (first|refine Wa ?_|refine Wb ?_|refine Wc ?_|refine Wd ?_|refine We rfl ?_|refine Wf (by first|exact Va|exact Vb) rfl ?_|refine Ws ?_)
  exact CT.done (a2, c2) rfl (fun w ho => ho.ent)
theorem num_bad (hk : (getN L).2 = 0) (ho : Hold w0 F (.own br 207 [.slice a L.length c] :: .st (sl a c L) :: Γ) w) :
    Calls Tryz.prog 226 ⟨[.pointer (some ⟨br, 0, none⟩)]⟩ w fun x w' => x = .panicked wrongP ∧ Hold w0 F Γ w' := by
  refine panics_of Tryz.func226 rfl Tryz.ntmps226 rfl _ ho ?_
  repeat (first|refine Wa ?_|refine Wb ?_|refine Wc ?_|refine Wd ?_|refine We rfl ?_|refine Wf (by first|exact Va|exact Vb) rfl ?_)
  refine Wf OpV.nilCheck rfl ?_
  repeat (first|refine We rfl ?_|refine Wf (by first|exact Vc|exact Vd) rfl ?_)
  refine JR.callV rfl (fun w1 hw => get_enc w1 _ a c L hw.get) ?_
  repeat (first|refine Wa ?_|refine Wb ?_|refine Wc ?_|refine Wd ?_|refine We rfl ?_|refine Wf (by first|exact Va|exact Vb|exact Vo|exact Vq) rfl ?_)
  refine JR.reslot 14 (.bool false) (by congr 1; exact decide_eq_false (by omega)) ?_
  refine JR.callP (fun w1 hw => unless_bad hw) ?_
  repeat (first | refine CT.panic ?_ | refine CT.blockPanic ?_)
  exact CT.gone (fun w ho => ho.ent)
set_option maxHeartbeats 1000000 in
theorem upto_ok (m : Nat) (hm : m ≤ 1048576) (hk : (getN L).2 ≠ 0) (hn : (getN L).1 ≤ m) (ho : Hold w0 F (.own br 207 [.slice a L.length c] :: .st (sl a c L) :: Γ) w) :
    Calls Tryz.prog 227 ⟨[.pointer (some ⟨br, 0, none⟩), .int .i64 (m : Int)]⟩ w fun x w' => ∃ y : Option Addr × Nat, x = .returned (.int .i64 ((getN L).1 : Int)) ∧ Hold w0 F (.own br 207 [.slice y.1 (L.drop (getN L).2).length y.2] :: .st (sl y.1 y.2 (L.drop (getN L).2)) :: Γ) w' := by
  refine calls_of (v := fun y : Option Addr × Nat => .int .i64 ((getN L).1 : Int)) (B := fun y => .own br 207 [.slice y.1 (L.drop (getN L).2).length y.2] :: .st (sl y.1 y.2 (L.drop (getN L).2)) :: Γ) Tryz.func227 rfl Tryz.ntmps227 rfl rfl _ ho ?_
  repeat (first|refine Wa ?_|refine Wb ?_|refine Wc ?_|refine Wd ?_|refine We rfl ?_|refine Wf (by first|exact Va|exact Vb) rfl ?_)
  refine JR.callW (v := fun y : Option Addr × Nat => .int .u64 ((getN L).1 : Int)) (B := fun y => .own br 207 [.slice y.1 (L.drop (getN L).2).length y.2] :: .st (sl y.1 y.2 (L.drop (getN L).2)) :: Γ) rfl (fun w1 hw => num_ok hk hw) ?_
  rintro ⟨a2, c2⟩
  dsimp only
  repeat (first|refine Wa ?_|refine Wb ?_|refine Wc ?_|refine Wd ?_|refine We rfl ?_|refine Wf (by first|exact Va|exact Vb) rfl ?_)
  refine Wf OpV.conv rfl ?_
  refine JO.reslot 10 (.int .u64 (m : Int)) (by rw [wrap64]; congr 2; omega) ?_
  repeat (first|refine We rfl ?_|refine Wf (by exact Vn) rfl ?_)
  refine JR.reslot 11 (.bool true) (by congr 1; exact decide_eq_true (by omega)) ?_
  refine JR.callV rfl (fun w1 hw => unless_ok w1 _) ?_
  repeat (first|refine Wa ?_|refine Wb ?_|refine Wc ?_|refine Wd ?_|refine We rfl ?_|refine Wf (by exact Va) rfl ?_)
  refine Wf OpV.conv rfl ?_
  refine JO.reslot 14 (.int .i64 ((getN L).1 : Int)) (by rw [wrap_in (by omega)]) ?_
  repeat (first|refine Wa ?_|refine Wd ?_|refine We rfl ?_|refine Wf (by exact Vb) rfl ?_|refine Ws ?_)
  exact CT.done (a2, c2) rfl (fun w ho => ho.ent)
theorem upto_bad (m : Nat) (hm : m ≤ 1048576) (hk : (getN L).2 = 0 ∨ m < (getN L).1) (ho : Hold w0 F (.own br 207 [.slice a L.length c] :: .st (sl a c L) :: Γ) w) :
    Calls Tryz.prog 227 ⟨[.pointer (some ⟨br, 0, none⟩), .int .i64 (m : Int)]⟩ w fun x w' => x = .panicked wrongP ∧ Hold w0 F Γ w' := by
  refine panics_of Tryz.func227 rfl Tryz.ntmps227 rfl _ ho ?_
  repeat (first|refine Wa ?_|refine Wb ?_|refine Wc ?_|refine Wd ?_|refine We rfl ?_|refine Wf (by first|exact Va|exact Vb) rfl ?_)
  by_cases h0 : (getN L).2 = 0
  · refine JR.callP (fun w1 hw => num_bad h0 hw) ?_
    repeat (first | refine CT.panic ?_ | refine CT.blockPanic ?_)
    exact CT.gone (fun w ho => ho)
  refine JR.callW (v := fun y : Option Addr × Nat => .int .u64 ((getN L).1 : Int)) (B := fun y => .own br 207 [.slice y.1 (L.drop (getN L).2).length y.2] :: .st (sl y.1 y.2 (L.drop (getN L).2)) :: Γ) rfl (fun w1 hw => num_ok h0 hw) ?_
  rintro ⟨a2, c2⟩
  dsimp only
  repeat (first|refine Wa ?_|refine Wb ?_|refine Wc ?_|refine Wd ?_|refine We rfl ?_|refine Wf (by first|exact Va|exact Vb) rfl ?_)
  refine Wf OpV.conv rfl ?_
  refine JO.reslot 10 (.int .u64 (m : Int)) (by rw [wrap64]; congr 2; omega) ?_
  repeat (first|refine We rfl ?_|refine Wf (by exact Vn) rfl ?_)
  refine JR.reslot 11 (.bool false) (by congr 1; exact decide_eq_false (by omega)) ?_
  refine JR.callP (fun w1 hw => unless_bad hw) ?_
  repeat (first | refine CT.panic ?_ | refine CT.blockPanic ?_)
  exact CT.gone (fun w ho => ho.ent)
def takeID (L : List UInt8) (h : 32 ≤ L.length) : ID := ⟨L.take 32, by rw [List.length_take]; omega⟩
theorem cells_takeID (L : List UInt8) (h : 32 ≤ L.length) : (L.take 32).map byteV = idc (takeID L h) := rfl
set_option maxHeartbeats 1000000 in
theorem id_ok (h : 32 ≤ L.length) (ho : Hold w0 F (.own br 207 [.slice a L.length c] :: .st (sl a c L) :: Γ) w) :
    Calls Tryz.prog 228 ⟨[.pointer (some ⟨br, 0, none⟩)]⟩ w fun x w' => ∃ y : Option Addr × Nat, x = .returned (.agg ⟨idc (takeID L h)⟩) ∧ Hold w0 F (.own br 207 [.slice y.1 (L.drop 32).length y.2] :: .st (sl y.1 y.2 (L.drop 32)) :: Γ) w' := by
  refine calls_of (v := fun y : Option Addr × Nat => .agg ⟨idc (takeID L h)⟩) (B := fun y => .own br 207 [.slice y.1 (L.drop 32).length y.2] :: .st (sl y.1 y.2 (L.drop 32)) :: Γ) Tryz.func228 rfl Tryz.ntmps228 rfl rfl _ ho ?_
  repeat (first|refine Wa ?_|refine Wb ?_|refine Wc ?_|refine Wd ?_|refine We rfl ?_|refine Wf (by exact Va) rfl ?_|(refine Wg rfl ?_; intro _))
  rename_i b2
  refine Wf OpV.nilCheck rfl ?_
  repeat (first|refine We rfl ?_|refine Wf (by first|exact Vc|exact Vd|exact Vf|exact Vp) rfl ?_)
  refine JR.reslot 8 (.bool true) (by congr 1; exact decide_eq_true (by omega)) ?_
  refine JR.callV rfl (fun w1 hw => unless_ok w1 _) ?_
  repeat (first|refine Wa ?_|refine Wb ?_|refine Wd ?_)
  refine JC.drawP mixed ?_
  refine JP.pure 0 rfl (by kernel_rfl) rfl (fun _ => Va) rfl rfl ?_
  refine JP.pure 1 rfl (by kernel_rfl) rfl (fun _ => Va) rfl rfl ?_
  refine JP.pure 2 rfl (by kernel_rfl) rfl (fun _ => OpV.nilCheck) rfl rfl ?_
  refine JP.pure 3 rfl (by kernel_rfl) rfl (fun _ => Vd) rfl rfl ?_
  refine JP.take 4 [.own br 207 [.slice a L.length c]] rfl (by kernel_rfl) rfl Vc rfl rfl ?_
  refine JP.pure 5 rfl (by kernel_rfl) rfl (fun _ => OpV.sliceArrAll) rfl rfl ?_
  refine JP.pure 6 rfl (by kernel_rfl) rfl (fun _ => Va) rfl rfl ?_
  refine JP.pure 7 rfl (by kernel_rfl) rfl (fun _ => OpV.nilCheck) rfl rfl ?_
  refine JP.pure 8 rfl (by kernel_rfl) rfl (fun _ => Vd) rfl rfl ?_
  refine JP.take 9 [.own br 207 [.slice a L.length c]] rfl (by kernel_rfl) rfl Vc rfl rfl ?_
  refine JP.op 10 (by kernel_rfl) rfl rfl (JR.copyFrom (L := L) rfl h (by decide) (by simp) (Wd ⟨rfl, (by repeat (first|exact Obs.nil|refine Obs.keep ?_|refine Obs.skip (by kernel_rfl) ?_)), ?_⟩))
  refine JP.more (Γ' := .st (sl (fromA a c 32 1) (c - 32) (L.drop 32)) :: .own b2 81 ((L.take 32).map byteV) :: .own br 207 [.slice a L.length c] :: .st (sl a c L) :: Γ) (fun w1 ho => ?_) ?_
  · exact ((ho.ent : Hold _ _ (.own b2 81 ((L.take 32).map byteV) :: .own br 207 [.slice a L.length c] :: .st (sl a c L) :: Γ) w1).add (A := sl (fromA a c 32 1) (c - 32) (L.drop 32)) (sl_from (k := 32) (ho.get (A := sl a c L)) h))
  refine JP.take 11 [.st (sl a c L)] rfl (by kernel_rfl) rfl (OpV.sliceFromA (l := 32) (s := 1) rfl (fun w1 ho => ⟨h, (Hold.get (A := sl a c L) ho).1⟩)) rfl rfl ?_
  refine JP.reslot 21 (.slice (fromA a c 32 1) (L.drop 32).length (c - 32)) (by congr 1; simp) ?_
  refine JP.pure 12 rfl (by kernel_rfl) rfl (fun _ => OpV.nilCheck) rfl rfl ?_
  refine JP.pure 13 rfl (by kernel_rfl) rfl (fun _ => Vd) rfl rfl ?_
  refine JP.reslot 23 (.pointer (some ⟨br, 0, none⟩)) rfl ?_
  refine JP.op 14 (by kernel_rfl) rfl rfl (Wi (Wd ⟨rfl, (by repeat (first|exact Obs.nil|refine Obs.keep ?_|refine Obs.skip (by kernel_rfl) ?_)), ?_⟩))
  refine JP.nil (by kernel_rfl) ?_
  rw [cells_takeID L h]
  repeat (first|refine Wa ?_|refine Wb ?_|refine Wc ?_|refine Wd ?_|refine We rfl ?_|refine Wf (by exact Vc) rfl ?_|refine Wi ?_|refine Ws ?_)
  exact CT.done (fromA a c 32 1, c - 32) rfl (fun w ho => ho.ent)
theorem id_bad (h : L.length < 32) (ho : Hold w0 F (.own br 207 [.slice a L.length c] :: .st (sl a c L) :: Γ) w) :
    Calls Tryz.prog 228 ⟨[.pointer (some ⟨br, 0, none⟩)]⟩ w fun x w' => x = .panicked wrongP ∧ Hold w0 F Γ w' := by
  refine panics_of Tryz.func228 rfl Tryz.ntmps228 rfl _ ho ?_
  repeat (first|refine Wa ?_|refine Wb ?_|refine Wc ?_|refine Wd ?_|refine We rfl ?_|refine Wf (by exact Va) rfl ?_|(refine Wg rfl ?_; intro _))
  refine Wf OpV.nilCheck rfl ?_
  repeat (first|refine We rfl ?_|refine Wf (by first|exact Vc|exact Vd|exact Vf|exact Vp) rfl ?_)
  refine JR.reslot 8 (.bool false) (by congr 1; exact decide_eq_false (by omega)) ?_
  refine JR.callP (fun w1 hw => unless_bad hw) ?_
  repeat (first | refine CT.panic ?_ | refine CT.blockPanic ?_)
  exact CT.gone (fun w ho => ho.ent)
end
end Ab
end Go.Proofs.YtdgeffphifgflaaGreat
namespace Go.Proofs.YtdgeffphifgflaaGreat
namespace Ab
open Go Go.RowKit
set_option linter.unusedVariables false
set_option linter.unusedSimpArgs false
def strB (L : List UInt8) : ByteArray := ⟨L.toArray⟩
theorem strOf_bytes (L : List UInt8) : strOfNums (L.map fun b => (b.toNat : Int)) = strB L := by
  simp only [strOfNums, strB, List.map_map]
  congr 2
  conv => rhs; rw [← List.map_id L]
  apply List.map_congr_left
  intro b _
  simp
theorem OpV.bytesStr [Dr] {P : Program} {n : Nn} {w0 : World} {F : Nat → Prop} {d : Option Nat} {t : TypeId} {pos : String} {aft : Array Edge} {g : Option (Nat × Bool)} {e : E} {Γ : List Fact}
    {x : Operand} {src dst el : TypeId} {v : Value} {L : List UInt8} {s1 b1 s2 b2 s3 b3 : Nat} {z1 z2 z3 : Value} [hx : Ev e x v] [hL : HasSl Γ v UInt8 inferInstance L]
    [hs : Ty P src (.slice el) s1 b1 z1] [hE : Ty P el (.int .u8) s2 b2 z2] [hD : Ty P dst .string s3 b3 z3] : OpV P n w0 F ⟨d, .convert src dst x, t, pos, aft, g⟩ e Γ (.string (strB L)) :=
  fun a w fr ho => by
    obtain ⟨a0, c, rfl, hsl⟩ := hL.holds ho
    have key : (convert src dst (.slice a0 L.length c)).run P w = .ok (.string (strB L)) w := by
      by_cases hne : L = []
      · subst hne
        cases a0 with
        | none => exact run_convert_bytes_nil w src el hs.und hE.und _ _ dst hD.und
        | some a0 =>
          obtain ⟨b, off, sp⟩ := a0
          rw [run_convert_bytes_string w src dst el _ _ _ hs.und hE.und hD.und]
          have hl : (loadCells ⟨b, off, sp⟩ ([] : List UInt8).length).run P w = .ok (([] : List Int).map (Value.int .u8)).toArray w := by
            have := run_loadCells_list (P := P) w ⟨b, off, sp⟩ ([] : List Value) (fun j v hj => by simp at hj)
            simpa using this
          rw [run_bytesToString w _ _ c [] hl]; rfl
      · obtain ⟨b, off, rfl, _, _, hr⟩ := hsl.2.2.2 hne
        have := run_convert_bytes_arg w src el hs.und hE.und b off L.length c (L.map fun b => (b.toNat : Int)) (by simp) (fun i hi => by
          obtain ⟨y, h1, _⟩ := hr i hi
          have h2 := h1 0 (byteV L[i]) rfl
          have e : off + i * Cell.sz UInt8 + 0 = off + i := by show off + i * 1 + 0 = off + i; omega
          rw [e] at h2
          rw [h2]
          simp [byteV, List.getD_eq_getElem?_getD, hi]) dst hD.und
        rw [strOf_bytes] at this
        exact this
    simp [execOp, hx.ok n a fr, key]
end Ab
end Go.Proofs.YtdgeffphifgflaaGreat
namespace Go.Proofs.YtdgeffphifgflaaGreat
namespace Ab
open Go Go.RowKit
set_option linter.unusedVariables false
set_option linter.unusedSimpArgs false
set_option synthInstance.maxSize 4000
set_option synthInstance.maxHeartbeats 400000
attribute [local irreducible] JC JO JR JQ andThen inBlock OpV Gives retTo JM JS
def unfoldN (m : Nat) : Int := if m % 2 = 0 then ((m / 2 : Nat) : Int) else -1 - ((m / 2 : Nat) : Int)
theorem and_one (m : Nat) : (BitVec.ofInt 64 (m : Int) &&& BitVec.ofInt 64 1).toNat = m % 2 := by
  rw [BitVec.toNat_and]
  have e1 : (BitVec.ofInt 64 (m : Int)).toNat = m % 18446744073709551616 := by
    rw [BitVec.toNat_ofInt]; omega
  have e2 : (BitVec.ofInt 64 1).toNat = 1 := by decide
  rw [e1, e2, Nat.and_one_is_mod]; omega
theorem unfold_val (m : Nat) (h : m < 18446744073709551616) : IntKind.i64.wrap ((BitVec.ofInt 64 ((m / 2 : Nat) : Int) ^^^ BitVec.ofInt 64 (IntKind.i64.wrap (0 - ((m % 2 : Nat) : Int)))).toNat : Int) = unfoldN m := by
  have e1 : (BitVec.ofInt 64 ((m / 2 : Nat) : Int)).toNat = m / 2 := by rw [BitVec.toNat_ofInt]; omega
  rcases Nat.mod_two_eq_zero_or_one m with h0 | h0
  · rw [h0]
    have e2 : BitVec.ofInt 64 (IntKind.i64.wrap (0 - ((0 : Nat) : Int))) = 0#64 := by rw [wrap_in (by omega)]; decide
    rw [e2, BitVec.xor_zero, e1, wrap_in (by omega), unfoldN, if_pos h0]
  · rw [h0]
    have e2 : BitVec.ofInt 64 (IntKind.i64.wrap (0 - ((1 : Nat) : Int))) = BitVec.allOnes 64 := by rw [wrap_in (by omega)]; decide
    rw [e2, BitVec.xor_allOnes, BitVec.toNat_not, e1, unfoldN, if_neg (by omega)]
    have e3 : ((2 ^ 64 - 1 - m / 2 : Nat) : Int) = 18446744073709551615 - ((m / 2 : Nat) : Int) := by omega
    rw [e3, IntKind.wrap_i64]
    omega
set_option maxHeartbeats 1000000 in
theorem unfold_enc (w : World) (F : Nat → Prop) (m : Nat) (h : m < 18446744073709551616) : GivesV Tryz.prog 220 [.int .u64 (m : Int)] w F (.int .i64 (unfoldN m)) := by
  refine gives_of Tryz.func220 rfl Tryz.ntmps220 rfl rfl [] (.start w F) ?_
  repeat (first|refine Wa ?_|refine Wb ?_|refine Wc ?_|refine Wd ?_|refine We rfl ?_|refine Wf (by first|exact Va|exact Vb) rfl ?_)
  refine Wf (OpV.shr (by decide)) rfl ?_
  refine JO.reslot 4 (.int .u64 ((m / 2 : Nat) : Int)) (by
    congr 1
    show (m : Int).fdiv 2 = _
    rw [Int.fdiv_eq_ediv_of_nonneg _ (by decide)]; omega) ?_
  refine We rfl ?_
  refine Wf OpV.conv rfl ?_
  refine JO.reslot 5 (.int .i64 ((m / 2 : Nat) : Int)) (by rw [wrap_in (by omega)]) ?_
  repeat (first|refine We rfl ?_|refine Wf (by exact Va) rfl ?_)
  refine Wf OpV.and rfl ?_
  refine JO.reslot 7 (.int .u64 ((m % 2 : Nat) : Int)) (by
    show Value.int .u64 (IntKind.u64.wrap ((BitVec.ofInt 64 (m : Int) &&& BitVec.ofInt 64 1).toNat : Int)) = _
    rw [and_one, wrap64]; congr 2; omega) ?_
  refine We rfl ?_
  refine Wf OpV.conv rfl ?_
  refine JO.reslot 8 (.int .i64 ((m % 2 : Nat) : Int)) (by rw [wrap_in (by omega)]) ?_
  refine We rfl ?_
  refine Wf OpV.neg rfl ?_
  refine We rfl ?_
  refine Wf OpV.xor rfl ?_
  refine JO.reslot 10 (.int .i64 (unfoldN m)) (by rw [← unfold_val m h]; rfl) ?_
  repeat (first|refine Wa ?_|refine Wd ?_|refine We rfl ?_|refine Wf (by exact Vb) rfl ?_|refine Ws ?_)
  exact CT.done () rfl (fun w ho => ho.ent)
theorem clone_bytes (w : World) (F : Nat → Prop) (a : Option Addr) (c : Nat) (L : List UInt8) (h : (sl a c L).holds F w) (hl : L.length ≤ 34359738368) :
    GivesBuf Tryz.prog 67 [.slice a L.length c] w F 5 L := by
  refine gives_of Tryz.func67 rfl Tryz.ntmps67 rfl rfl [.st (sl a c L)] (.start1 h) ?_
  repeat (first|refine Wa ?_|refine Wb ?_|refine Wc ?_|refine Wd ?_|refine We rfl ?_|refine Wf (by first|exact Va|exact Vb|exact VD) rfl ?_)
  refine JC.test (fun ha => ?_) (fun ha => ?_)
  · cases a with
    | some a => cases ha
    | none =>
      obtain rfl := nil_of_none h
      repeat (first|refine Wa ?_|refine Wb ?_|refine Wc ?_|refine Wd ?_|refine We rfl ?_|refine Wf (by exact Vb) rfl ?_|refine Ws ?_|refine Wt ?_)
      exact CT.done (none, 0) rfl (fun w ho => ho.bufNil)
  · repeat (first|refine Wa ?_|refine Wb ?_|refine Wc ?_|refine We rfl ?_|refine Wl ?_)
    refine JR.lit0 (α := UInt8) rfl ?_
    intro a2
    repeat (first|refine We rfl ?_|refine Wf (by exact Va) rfl ?_)
    refine JR.appendSl rfl (by exact ⟨rfl, rfl, by decide⟩) (by simpa using hl) ?_
    intro a3 c3
    rw [List.nil_append]
    repeat (first|refine Wa ?_|refine Wd ?_|refine We rfl ?_|refine Wf (by exact Vb) rfl ?_|refine Ws ?_)
    exact CT.done (a3, c3) rfl (fun w ho => ho.ent)
noncomputable def cutT (b : List UInt8) (m : Nat) : ByteArray × List UInt8 × Bool :=
  if (getN b).2 = 0 ∨ m < (getN b).1 ∨ b.length - (getN b).2 < (getN b).1 then (.empty, [], false) else (strB ((b.drop (getN b).2).take (getN b).1), (b.drop (getN b).2).drop (getN b).1, true)
theorem cutT_size (b : List UInt8) (m : Nat) : (cutT b m).1.size ≤ m := by
  unfold cutT
  split
  · exact Nat.zero_le _
  · rename_i h
    simp only [strB, ByteArray.size, List.size_toArray, List.length_take]
    omega
set_option maxHeartbeats 2000000 in
theorem cut_enc (w : World) (F : Nat → Prop) (a : Option Addr) (c : Nat) (b : List UInt8) (m : Nat) (h : (sl a c b).holds F w) (hl : b.length ≤ 34359738368) (hm : m ≤ 1048576) :
    Gives Tryz.prog 224 [.slice a b.length c, .int .i64 (m : Int)] w F (fun y : Option Addr × Nat => .tuple ⟨[.string (cutT b m).1, .slice y.1 (cutT b m).2.1.length y.2, .bool (cutT b m).2.2]⟩) (fun y => [.st (sl y.1 y.2 (cutT b m).2.1)]) := by
  have hkl := (getN_le b).1
  have hn64 := getN_lt b
  refine gives_of Tryz.func224 rfl Tryz.ntmps224 rfl rfl [.st (sl a c b)] (.start1 h) ?_
  repeat (first|refine Wa ?_|refine Wb ?_|refine Wc ?_|refine Wd ?_|refine We rfl ?_|refine Wf (by first|exact Va|exact Vb) rfl ?_)
  refine JR.callV rfl (fun w1 hw => get_enc w1 _ a c b hw.get) ?_
  repeat (first|refine Wa ?_|refine Wb ?_|refine Wc ?_|refine Wd ?_|refine We rfl ?_|refine Wf (by first|exact Va|exact Vb|exact Vl|exact Vq) rfl ?_)
  refine JO.test 16 (fun h0 => ?_) (fun h0 => ?_)
  · have e : cutT b m = (.empty, [], false) := by unfold cutT; rw [if_pos (.inl (by omega))]
    rw [e]
    repeat (first|refine Wa ?_|refine Wb ?_|refine Wc ?_|refine Wd ?_|refine We rfl ?_|refine Wf (by first|exact Va|exact Vb|exact Vi) rfl ?_|refine Wj ?_|refine Ws ?_|refine Wt ?_|refine Wv rfl rfl ?_)
    exact CT.done (none, 0) rfl (fun w ho => (ho.ent : Hold _ _ [] w).add sl_nil)
  repeat (first|refine We rfl ?_|refine Wf (by first|exact Va|exact Vg|exact Vj) rfl ?_)
  refine Wf OpV.conv rfl ?_
  refine JO.reslot 23 (.int .u64 (m : Int)) (by rw [wrap64]; congr 2; omega) ?_
  repeat (first|refine We rfl ?_|refine Wf (by first|exact Va|exact Vj|exact Vo) rfl ?_)
  refine JO.test 26 (fun h1 => ?_) (fun h1 => ?_)
  · have e : cutT b m = (.empty, [], false) := by unfold cutT; rw [if_pos (.inr (.inl (by omega)))]
    rw [e]
    repeat (first|refine Wa ?_|refine Wb ?_|refine Wc ?_|refine Wd ?_|refine We rfl ?_|refine Wf (by first|exact Vb|exact Vi) rfl ?_|refine Wj ?_|refine Ws ?_|refine Wt ?_|refine Wv rfl rfl ?_)
    exact CT.done (none, 0) rfl (fun w ho => (ho.ent : Hold _ _ [] w).add sl_nil)
  repeat (first|refine We rfl ?_|refine Wf (by first|exact Va|exact Vf|exact Vu (by omega)) rfl ?_)
  refine Wf OpV.conv rfl ?_
  refine JO.reslot 32 (.int .u64 ((b.length - (getN b).2 : Nat) : Int)) (by
    rw [wrap64]; congr 2; omega) ?_
  repeat (first|refine Wa ?_|refine Wd ?_|refine We rfl ?_|refine Wf (by first|exact Vj|exact Vo) rfl ?_)
  refine JC.test (fun h2 => ?_) (fun h2 => ?_)
  · have e : cutT b m = (.empty, [], false) := by unfold cutT; rw [if_pos (.inr (.inr (by omega)))]
    rw [e]
    repeat (first|refine Wa ?_|refine Wb ?_|refine Wc ?_|refine Wd ?_|refine We rfl ?_|refine Wf (by exact Vb) rfl ?_|refine Ws ?_|refine Wt ?_)
    exact CT.done (none, 0) rfl (fun w ho => (ho.ent : Hold _ _ [] w).add sl_nil)
  obtain ⟨B, hB⟩ : ∃ B, B = b.drop (getN b).2 := ⟨_, rfl⟩
  have hBl : B.length = b.length - (getN b).2 := by rw [hB, List.length_drop]
  have e : cutT b m = (strB (B.take (getN b).1), B.drop (getN b).1, true) := by unfold cutT; rw [if_neg (by omega), hB]
  rw [e]
  obtain ⟨n, hn⟩ : ∃ n, n = (getN b).1 := ⟨_, rfl⟩
  rw [← hn] at h1 h2 ⊢
  repeat (first|refine Wa ?_|refine Wb ?_|refine Wc ?_|refine We rfl ?_|refine Wf (by exact Va) rfl ?_|refine Wl ?_)
  refine JR.sliceFrom (L := b) (k := (getN b).2) rfl rfl hkl ?_
  rw [← hB]
  intro a1 c1
  repeat (first|refine Wa ?_|refine Wb ?_|refine Wd ?_|refine We rfl ?_|refine Wf (by exact Vb) rfl ?_)
  refine JC.more (Γ' := [.st (sl a1 c1 (B.take n)), .st (sl (fromA a1 c1 n 1) (c1 - n) (B.drop n)), .st (sl a1 c1 B)]) (fun w1 ho => ?_) ?_
  · have h1 := ho.add (A := sl (fromA a1 c1 n 1) (c1 - n) (B.drop n)) (sl_from (k := n) (ho.get (A := sl a1 c1 B)) (by omega))
    have h2 := h1.add (A := sl a1 c1 (B.take n)) (sl_take (k := n) (c' := c1) (h1.get (A := sl a1 c1 B)) (by omega) ⟨by have := (h1.get (A := sl a1 c1 B)).1; omega, Nat.le_refl _⟩)
    exact h2.ent
  refine JC.draw 11 mixed ?_
  refine JM.take 0 rfl (by kernel_rfl) rfl Va rfl rfl ?_
  refine JM.take 1 rfl (by kernel_rfl) rfl Va rfl rfl ?_
  refine JM.take 2 rfl (by kernel_rfl) rfl (OpV.sliceToV (k := n) (fun w1 ho => by have := (Hold.get (A := sl a1 c1 B) ho).1; omega)) rfl rfl ?_
  refine JM.reslot 40 (.slice a1 (B.take n).length c1) (by congr 1; rw [List.length_take]; omega) ?_
  refine JM.take 3 rfl (by kernel_rfl) rfl (OpV.bytesStr (L := B.take n)) rfl rfl ?_
  refine JM.take 4 rfl (by kernel_rfl) rfl Va rfl rfl ?_
  refine JM.take 5 rfl (by kernel_rfl) rfl Va rfl rfl ?_
  refine JM.take 6 rfl (by kernel_rfl) rfl (OpV.sliceFromA (l := n) (s := 1) rfl (fun w1 ho => ⟨by omega, (Hold.get (A := sl a1 c1 B) ho).1⟩)) rfl rfl ?_
  refine JM.reslot 44 (.slice (fromA a1 c1 n 1) (B.drop n).length (c1 - n)) (by congr 1; rw [List.length_drop]) ?_
  refine JM.one 7 (by kernel_rfl) rfl rfl rfl rfl (JS.callBuf rfl (fun w1 hw => clone_bytes w1 _ (fromA a1 c1 n 1) (c1 - n) (B.drop n) hw.get (by rw [List.length_drop]; omega)) fun a2 c2 => ?_)
  refine JM.more (fun w1 ho => ho.pub) ?_
  refine JM.one 8 (by kernel_rfl) rfl rfl rfl rfl (JS.val Vb rfl ?_)
  refine JM.one 9 (by kernel_rfl) rfl rfl rfl rfl (JS.val Vb rfl ?_)
  refine JM.one 10 (by kernel_rfl) rfl rfl rfl rfl (JS.val Vb rfl ?_)
  refine JM.nil (by kernel_rfl) ?_
  repeat (first|refine Wa ?_|refine Ws ?_)
  exact CT.done (a2, c2) rfl (fun w ho => ho.ent)
end Ab
end Go.Proofs.YtdgeffphifgflaaGreat
