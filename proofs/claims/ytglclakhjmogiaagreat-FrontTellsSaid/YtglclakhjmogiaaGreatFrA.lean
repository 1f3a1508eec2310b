/- The statement FrontTellsSaid: for every input FrontTells returns true and leaves its arguments as they were. -/
import Derived.Test.YtglclakhjmogiaaGreatFr5
import Derived.Test.YtglclakhjmogiaaGreatFr4
import Derived.Test.YtglclakhjmogiaaGreatFr3
/- Contracts of the document's layer 12: Front, Join, Head, Base. -/
namespace Go.Proofs.YtglclakhjmogiaaGreat
namespace Ab
open Go Go.RowKit
set_option linter.unusedVariables false
set_option linter.unusedSimpArgs false
set_option synthInstance.maxSize 4000
set_option synthInstance.maxHeartbeats 400000
attribute [local irreducible] JC JO JR JQ andThen inBlock OpV Gives retTo JM JS

attribute [local irreducible] hashC idA l0 l1 ents
theorem common_ref (w : World) (F : Nat → Prop) (a b : Option Addr) (c k : Nat) (L M : List ID) (h : (sl a c L).holds F w) (h' : (sl b k M).holds F w) (hl : L.length ≤ 34359738360) :
    GivesSl Tryz.prog 59 [.slice a L.length c, .slice b M.length k] w F (someIds L M true) := by
  refine gives_of Tryz.func59 rfl Tryz.ntmps59 rfl rfl [.st (sl a c L), .st (sl b k M)] (.start2 h h') ?_
  repeat (first|refine Wa ?_|refine Wb ?_|refine Wc ?_|refine Wd ?_|refine We rfl ?_|refine Wf (by first|exact Va|exact Vb) rfl ?_)
  refine JR.callSl rfl (fun w1 hw => some_ref w1 _ a b c k L M true hw.get hw.get hl) ?_
  intro a2 c2
  repeat (first|refine Wa ?_|refine Wd ?_|refine We rfl ?_|refine Wf (by exact Vb) rfl ?_|refine Ws ?_)
  exact CT.done (a2, c2) rfl (fun w ho => ho.ent)
theorem frontF_of {L : List Commit} (hc : Closed L) {out : List ID} (h : ∀ x, x ∈ out ↔ ∃ y, ∃ hy : y < L.length, y < L.length ∧ x = idC L[y] ∧ ∀ c ∈ L, x ∉ c.parents) : sortL (setOf out) = frontF L := by
  refine sorted_unique ((List.perm_ext_iff_of_nodup ((sortL_perm' _).nodup_iff.2 (setOf_nodup _)) (front_nodup L)).2 fun x => ?_) (sortL_pairwise _) (front_sorted L)
  rw [mem_sortL, mem_setOf, h, mem_front hc]
  constructor
  · rintro ⟨y, hy, _, rfl, h1⟩; exact ⟨List.mem_map_of_mem (List.getElem_mem hy), h1⟩
  · rintro ⟨h1, h2⟩
    obtain ⟨i, hi, hie⟩ := List.getElem_of_mem h1
    have hi' : i < L.length := by rw [← cids_length]; exact hi
    exact ⟨i, hi', hi', by rw [← hie, cids_get L i hi], h2⟩
set_option maxHeartbeats 4000000 in
theorem front_ref (w : World) (F : Nat → Prop) (a : Option Addr) (k : Nat) (L : List Commit) (h : (sl a k L).holds F w) (hl : L.length ≤ 1000) (hf : ∀ x ∈ L, fine x) (hq : ∀ x ∈ L, x.parents.length ≤ 1000) :
    GivesSl Tryz.prog 19 [.slice a L.length k] w F (frontF L) := by
  refine gives_of Tryz.func19 rfl Tryz.ntmps19 rfl rfl [.st (sl a k L)] (.start1 h) ?_
  repeat (first|refine Wa ?_|refine Wb ?_|refine Wc ?_|refine Wd ?_|refine We rfl ?_|refine Wf (by first|exact Va|exact Vb) rfl ?_)
  refine JR.callV rfl (fun w1 hw => closed_refV w1 _ a k L (closedB L) hw.get hl hf hq closedB_iff) ?_
  cases hb : closedB L with
  | false =>
    repeat (first|refine Wa ?_|refine Wb ?_|refine Wc ?_|refine Wd ?_|refine We rfl ?_|refine Wf (by first|exact Va|exact Vb|exact Vh) rfl ?_|refine Wj ?_|refine Ws ?_|refine Wt ?_)
    rw [front_not (fun hc => by rw [closedB_yes hc] at hb; cases hb)]
    exact CT.done (none, 0) rfl (fun w ho => (ho.ent : Hold _ _ [] w).add sl_nil)
  | true =>
  have hc := closedB_iff.1 hb
  have hcl := cids_length L
  repeat (first|refine Wa ?_|refine Wb ?_|refine Wc ?_|refine Wd ?_|refine We rfl ?_|refine Wf (by first|exact Va|exact Vb|exact Vh) rfl ?_|refine Wk ?_|refine Wl ?_)
  refine JR.callSl (L := cids L) rfl (fun w1 hw => by have := ids_ref w1 _ a k L hw.get (by omega) hf; rwa [idsP_all hc.may] at this) ?_
  intro e n
  repeat (first|refine Wa ?_|refine Wb ?_|refine Wc ?_|refine Wd ?_|refine We rfl ?_|refine Wf (by exact Vb) rfl ?_|refine Wn ?_)
  refine JC.buf_nil (α := ID) 47 ?_
  refine JC.loop4 (fun (i : Nat) (out : List ID) r s => [(0, .slice a L.length k), (4, .slice e (cids L).length n), (5, .slice r out.length s), (6, .int .i64 (i : Int))])
    (fun i out r s => [.res (buf r s 47 out), .st (sl e n (cids L)), .st (sl a k L)])
    (fun i out r s => i ≤ L.length ∧ out.length ≤ i ∧ ∀ x, x ∈ out ↔ ∃ y, ∃ hy : y < L.length, y < i ∧ x = idC L[y] ∧ ∀ c ∈ L, x ∉ c.parents) (fun i _ _ _ => L.length - i) 0 [] none 0 ⟨Nat.zero_le _, by simp, fun x => by simp⟩ inferInstance ?_
  intro i out r s ⟨hi, hol, hom⟩
  repeat (first|refine Wa ?_|refine Wb ?_|refine Wc ?_|refine Wd ?_|refine We rfl ?_|refine Wf (by first|exact Va|exact Vf|exact Vg) rfl ?_)
  refine JC.test (fun hlt => ?_) (fun hge => ?_)
  · have hlt' : i < L.length := by omega
    have hxe : (cids L)[i]'(by omega) = idC L[i] := cids_get L i (by omega)
    have hnx : ∀ x, (∃ y, ∃ hy : y < L.length, y < i + 1 ∧ x = idC L[y] ∧ ∀ c ∈ L, x ∉ c.parents) ↔ x ∈ out ∨ (x = idC L[i] ∧ ∀ c ∈ L, x ∉ c.parents) := fun x => by
      rw [hom]
      constructor
      · rintro ⟨y, hy, hyi, h⟩
        by_cases e : y = i
        · subst e; exact .inr h
        · exact .inl ⟨y, hy, by omega, h⟩
      · rintro (⟨y, hy, hyi, h⟩ | h)
        · exact ⟨y, hy, by omega, h⟩
        · exact ⟨i, hlt', by omega, h⟩
    repeat (first|refine Wa ?_|refine Wb ?_|refine Wc ?_|refine Wd ?_|refine We rfl ?_|refine Wf (by exact Vb) rfl ?_|refine Wl ?_|refine Wn ?_)
    refine JC.loop2 (fun (j : Nat) (b : Bool) => [(0, .slice a L.length k), (4, .slice e (cids L).length n), (5, .slice r out.length s), (6, .int .i64 (i : Int)), (7, .bool b), (8, .int .i64 (j : Int))]) (fun j b => [.res (buf r s 47 out), .st (sl e n (cids L)), .st (sl a k L)])
      (fun j b => j ≤ L.length ∧ (b = true ↔ ∃ c ∈ L.take j, idC L[i] ∈ c.parents)) (fun j _ => L.length - j) 0 false ⟨Nat.zero_le _, by simp⟩ inferInstance ?_
    intro j b ⟨hj, hbj⟩
    repeat (first|refine Wa ?_|refine Wb ?_|refine Wc ?_|refine Wd ?_|refine We rfl ?_|refine Wf (by first|exact Va|exact Vf|exact Vg) rfl ?_)
    refine JC.test (fun hltj => ?_) (fun hgej => ?_)
    · have hj' : j < L.length := by omega
      have hsx : (∃ c ∈ L.take (j + 1), idC L[i] ∈ c.parents) ↔ (∃ c ∈ L.take j, idC L[i] ∈ c.parents) ∨ idC L[i] ∈ L[j].parents := by
        simp only [List.take_succ_eq_append_getElem hj', List.mem_append, List.mem_singleton]
        constructor
        · rintro ⟨c, hc | rfl, h⟩
          · exact .inl ⟨c, hc, h⟩
          · exact .inr h
        · rintro (⟨c, hc, h⟩ | h)
          · exact ⟨c, .inl hc, h⟩
          · exact ⟨_, .inr rfl, h⟩
      repeat (first|refine Wa ?_|refine Wb ?_|refine Wl ?_|refine Wn ?_)
      refine JC.openCommit (L := L) (.slice a L.length k) j hj' ?_
      intro b1 o1 p1 q1
      refine JC.openID (L := cids L) (.slice e (cids L).length n) i (by omega) ?_
      intro b2 o2
      rw [hxe]
      refine JC.quiet mixed (by kernel_rfl) ?_
      repeat (refine Wy rfl (by first|exact Va|exact Vc|exact Vd|exact Ve) rfl ?_)
      refine JQ.call rfl rfl (fun w1 hw => hasid_ref w1 _ p1 q1 L[j].parents (idC L[i]) hw.get) ?_
      repeat (first|refine Wy rfl (by exact Vb) rfl ?_|refine WB ?_)
      cases b with
      | true =>
        repeat (first|refine Wa ?_|refine Wc ?_|refine Wd ?_|refine We rfl ?_|refine Wf (by first|exact Va|exact Vb|exact Vi|exact Vk (by omega)) rfl ?_|refine Wr ?_|refine Wv rfl rfl ?_)
        exact ⟨j + 1, true, ⟨by omega, ⟨fun _ => hsx.2 (.inl (hbj.1 rfl)), fun _ => rfl⟩⟩, by omega, inferInstance⟩
      | false =>
        repeat (first|refine Wa ?_|refine Wc ?_|refine Wd ?_|refine We rfl ?_|refine Wf (by first|exact Va|exact Vb|exact Vj|exact Vk (by omega)) rfl ?_|refine Wr ?_)
        refine ⟨j + 1, decide (idC L[i] ∈ L[j].parents), ⟨by omega, ?_⟩, by omega, inferInstance⟩
        rw [hsx, decide_eq_true_iff]
        refine ⟨.inr, fun h => h.elim (fun h => ?_) id⟩
        have := hbj.2 h; cases this
    · obtain rfl : j = L.length := by omega
      rw [List.take_length] at hbj
      repeat (first|refine Wa ?_|refine Wb ?_|refine Wc ?_|refine Wd ?_|refine We rfl ?_|refine Wf (by first|exact Va|exact Vh) rfl ?_|refine Wm ?_|refine Wo ?_|refine Wp ?_)
      cases b with
      | true =>
        repeat (first|refine Wa ?_|refine Wc ?_|refine Wd ?_|refine We rfl ?_|refine Wf (by first|exact Va|exact Vb|exact Vk (by omega)) rfl ?_|refine Wk ?_|refine Wl ?_|refine Wr ?_)
        refine ⟨i + 1, out, r, s, ⟨by omega, by omega, fun x => ?_⟩, by omega, inferInstance⟩
        rw [hnx]
        refine ⟨.inl, fun h => h.elim id fun h => ?_⟩
        obtain ⟨c, hcm, hcp⟩ := hbj.1 rfl
        exact (h.2 c hcm (h.1 ▸ hcp)).elim
      | false =>
        repeat (first|refine Wc ?_|refine We rfl ?_|refine Wf (by exact Va) rfl ?_|refine Wj ?_)
        refine JR.indexID (L := cids L) (k := i) rfl (by omega) ?_
        intro b3 o3
        rw [hxe]
        repeat (first|refine We rfl ?_|refine Wf (by exact Vc) rfl ?_|(refine Ww rfl ⟨rfl, by decide, by decide, by decide⟩ ?_; intro _))
        refine JR.append1 (u := idC L[i]) rfl (by exact ⟨rfl, rfl, by decide⟩) (by omega) ?_
        intro r2 s2
        repeat (first|refine Wa ?_|refine Wc ?_|refine Wd ?_|refine We rfl ?_|refine Wf (by first|exact Va|exact Vb|exact Vk (by omega)) rfl ?_|refine Wr ?_)
        refine ⟨i + 1, out ++ [idC L[i]], r2, s2, ⟨by omega, by simp; omega, fun x => ?_⟩, by omega, inferInstance⟩
        rw [hnx, List.mem_append, List.mem_singleton]
        refine or_congr_right ⟨fun h => ⟨h, fun c hcm hp => ?_⟩, fun h => h.1⟩
        have := hbj.2 ⟨c, hcm, h ▸ hp⟩
        cases this
  · obtain rfl : i = L.length := by omega
    refine JC.more (fun w1 ho => ho.pub) ?_
    repeat (first|refine Wa ?_|refine Wb ?_|refine Wc ?_|refine We rfl ?_|refine Wf (by exact Va) rfl ?_|refine Wm ?_|refine Wo ?_|refine Wp ?_)
    refine JR.callSl rfl (fun w1 hw => sort_ref w1 _ r s out hw.get (by omega)) ?_
    intro p2 q2
    repeat (first|refine Wa ?_|refine Wd ?_|refine We rfl ?_|refine Wf (by exact Vb) rfl ?_|refine Ws ?_)
    rw [← frontF_of hc hom]
    exact CT.done (p2, q2) rfl (fun w ho => ho.ent)
theorem top_max {L : List Commit} (hc : Closed L) {f : List ID} (hf : ∀ x ∈ f, x ∈ cids L) : topL (partF L f) = maxGen L f := by
  rw [(partF_ok L f).part hc]
  have h1 : ∀ c ∈ L.filter (fun c => decide (idC c ∈ f)), c.gen ≤ maxGen L f := fun c hm => by
    obtain ⟨h1, h2⟩ := List.mem_filter.1 hm
    have := maxGen_mem L f (idC c) (by simpa using h2)
    rwa [genAt_of hc.nodup h1] at this
  have h2 := maxGen_ge L f
  by_cases h0 : maxGen L f = 0
  · rcases (topL_key (L.filter fun c => decide (idC c ∈ f)) 0).2.2 with h3 | ⟨d, hd, h3⟩
    · rw [h0]; exact h3
    · have h4 := h1 d hd
      have h5 : d.gen = topL (L.filter fun c => decide (idC c ∈ f)) := h3
      have h6 := topL_pos (L.filter fun c => decide (idC c ∈ f))
      omega
  · obtain ⟨p, hp, hpg⟩ := maxGen_at L f (by omega)
    obtain ⟨c, hm, rfl⟩ := mem_cids.1 (hf p hp)
    rw [genAt_of hc.nodup hm] at hpg
    have := topL_eq (List.mem_filter.2 ⟨hm, by simpa using hp⟩ : c ∈ L.filter fun c => decide (idC c ∈ f)) (by omega) (fun d hd => by rw [hpg]; exact h1 d hd)
    rw [this, hpg]
theorem merge_headC (g : Int) (f : List ID) : merge (headC g f) = may (headC g f) := by simp [merge, headC]
theorem joinF_not1 {L : List Commit} {A f : List ID} (hc : Closed L) (h : frontF (partF L (ancF L A)) = f) (hf : ∀ x ∈ f, x ∈ cids L) (h1 : f.length ≠ 1) : joinF L A = mergeR (maxGen L f + 1) f := by
  cases f with
  | nil =>
    rw [joinF_nil h]
    have : mergeR (maxGen L [] + 1) [] = (commit0, false) := by
      show mergeR (0 + 1) [] = (commit0, false)
      decide
    rw [this]
  | cons x l =>
    cases l with
    | nil => simp at h1
    | cons y l => rw [joinF_more h, top_max hc hf]
set_option maxHeartbeats 4000000 in
theorem join_ref (w : World) (F : Nat → Prop) (a d : Option Addr) (k m : Nat) (L : List Commit) (A : List ID) (h : (sl a k L).holds F w) (h' : (sl d m A).holds F w) (hl : L.length ≤ 1000) (hf : ∀ x ∈ L, fine x) (hq : ∀ x ∈ L, x.parents.length ≤ 1000) :
    Gives Tryz.prog 23 [.slice a L.length k, .slice d A.length m] w F (fun y : Option Addr × Nat => .tuple ⟨[commitV (joinF L A).1 y.1 y.2, .bool (joinF L A).2]⟩) (fun y => [.st (sl y.1 y.2 (joinF L A).1.parents)]) := by
  refine gives_of Tryz.func23 rfl Tryz.ntmps23 rfl rfl [.st (sl a k L), .st (sl d m A)] (.start2 h h') ?_
  repeat (first|refine Wa ?_|refine Wb ?_|refine Wc ?_|refine Wd ?_|refine We rfl ?_|refine Wf (by first|exact Va|exact Vb) rfl ?_|(refine Wg rfl ?_; intro _))
  rename_i b4
  refine JR.callSl (L := ancF L A) rfl (fun w1 hw => anc_refS w1 _ a d k m L A _ hw.get hw.get hl hf hq (ancF_ok L A)) ?_
  intro a1 k1
  obtain ⟨X, hX⟩ : ∃ X, X = ancF L A := ⟨_, rfl⟩
  rw [← hX]
  repeat (first|refine Wa ?_|refine Wb ?_|refine Wc ?_|refine Wd ?_|refine We rfl ?_|refine Wf (by first|exact Va|exact Vb|exact Vf|exact Vl) rfl ?_)
  refine JC.test (fun h0 => ?_) (fun h0 => ?_)
  · have hX0 : X = [] := List.eq_nil_of_length_eq_zero (by omega)
    have hj : joinF L A = (commit0, false) := by
      refine joinF_nil ?_
      rw [← hX, hX0]
      by_cases hc : Closed L
      · have : partF L [] = [] := by rw [(partF_ok L []).part hc]; simp
        rw [this]; exact (front_nil closed_nil).2 rfl
      · have : partF L [] = [] := (partF_ok L []).not hc
        rw [this]; exact (front_nil closed_nil).2 rfl
    rw [hj]
    repeat (first|refine Wb ?_|refine Wc ?_|refine We rfl ?_)
    refine Wf (OpV.build [.int .i64 0, .int .i64 0, .int .i64 0, .slice none 0 0, .int .i64 0, .string .empty, .string .empty, .int .i64 0] (by kernel_rfl)) rfl ?_
    repeat (first|refine Wa ?_|refine Wd ?_|refine We rfl ?_|refine Wf (by exact Vb) rfl ?_|refine Wi ?_|refine Ws ?_|refine Wt ?_)
    exact CT.done (none, 0) rfl (fun w ho => (ho.ent : Hold _ _ [] w).add sl_nil)
  have hc : Closed L := by
    apply Classical.byContradiction
    intro hc
    rw [hX, (ancF_ok L A).not hc] at h0
    exact h0 rfl
  obtain ⟨P1, hP1⟩ : ∃ P1, P1 = partF L X := ⟨_, rfl⟩
  have hPs : P1.Sublist L := hP1 ▸ partF_sub
  have hPl := hPs.length_le
  have hPf : ∀ x ∈ P1, fine x := fun x hx => hf x (hPs.mem hx)
  obtain ⟨f, hfr⟩ : ∃ f, f = frontF P1 := ⟨_, rfl⟩
  have hjf := hfr
  rw [hP1, hX] at hjf
  have hPc : Closed P1 := by rw [hP1, hX]; exact part_closedF hc A
  have hfm : ∀ x ∈ f, x ∈ cids L := fun x hx => by
    rw [hfr] at hx
    obtain ⟨c, hm, rfl⟩ := mem_cids.1 ((mem_front hPc).1 hx).1
    exact mem_cids.2 ⟨c, hPs.mem hm, rfl⟩
  have hfl : f.length ≤ 8 := hfr ▸ front_few hPc
  have hmx : maxGen L f ≤ 1000 := by rw [← top_max hc hfm]; exact topL_part f hl
  have hmg : ∀ i, maxGen L (f.take i) ≤ 1000 := fun i => by
    rw [← top_max hc fun x hx => hfm x (List.mem_of_mem_take hx)]; exact topL_part _ hl
  have hmp : ∀ i, 0 ≤ maxGen L (f.take i) := fun i => maxGen_ge _ _
  repeat (first|refine Wa ?_|refine Wb ?_|refine Wc ?_|refine We rfl ?_|refine Wf (by exact Va) rfl ?_|refine Wl ?_)
  refine JR.callSl (L := P1) rfl (fun w1 hw => part_refS w1 _ a a1 k k1 L P1 X hw.get hw.get hl hf hq (hP1 ▸ partF_ok L _)) ?_
  intro a2 k2
  repeat (refine We rfl ?_)
  refine JR.callSl (L := f) rfl (fun w1 hw => hfr ▸ front_ref w1 _ a2 k2 P1 hw.get (by omega) hPf (fun x hx => hq x (hPs.mem hx))) ?_
  intro a3 k3
  repeat (first|refine Wa ?_|refine Wb ?_|refine Wc ?_|refine Wd ?_|refine We rfl ?_|refine Wf (by exact Vb) rfl ?_|refine Wn ?_)
  refine JC.loop2 (fun (i : Nat) (g : Int) => [(0, .slice a L.length k), (4, .pointer (some ⟨b4, 0, none⟩)), (7, .slice a3 f.length k3), (8, .int .i64 g), (9, .int .i64 (i : Int))])
    (fun i g => [.own b4 34 [.int .i64 0, .int .i64 0, .int .i64 0, .slice none 0 0, .int .i64 0, .string .empty, .string .empty, .int .i64 0], .st (sl a3 k3 f), .st (sl a k L)])
    (fun i g => i ≤ f.length ∧ g = maxGen L (f.take i) ∧ (i = 0 ∨ f.length ≠ 1)) (fun i _ => f.length - i) 0 0 ⟨Nat.zero_le _, rfl, .inl rfl⟩ inferInstance ?_
  intro i g ⟨hi, hg, h01⟩
  have hg1 := hmg i
  have hg0 := hmp i
  rw [← hg] at hg1 hg0
  repeat (first|refine Wa ?_|refine Wb ?_|refine Wc ?_|refine Wd ?_|refine We rfl ?_|refine Wf (by first|exact Va|exact Vf|exact Vg) rfl ?_)
  refine JC.test (fun hlt => ?_) (fun hge => ?_)
  · have hi' : i < f.length := by omega
    obtain ⟨c, hcm, hce⟩ := mem_cids.1 (hfm f[i] (List.getElem_mem hi'))
    have hfd : findR L f[i] = (c, true) := by rw [← hce]; exact find_mem hc hcm
    have hnx : maxGen L (f.take (i + 1)) = max g c.gen := by
      rw [List.take_succ_eq_append_getElem hi', maxGen_snoc, ← hg, ← hce, genAt_of hc.nodup hcm]
    repeat (first|refine Wa ?_|refine Wb ?_|refine Wc ?_|refine We rfl ?_|refine Wf (by exact Va) rfl ?_|refine Wl ?_|refine Wn ?_)
    refine JR.indexID (L := f) (k := i) rfl hi' ?_
    intro b1 o1
    repeat (first|refine We rfl ?_|refine Wf (by exact Vc) rfl ?_)
    refine JR.call1 (v := fun y : Option Addr × Nat => .tuple ⟨[commitV c y.1 y.2, .bool true]⟩) (B := fun y => .st (sl y.1 y.2 c.parents)) rfl (fun w1 hw => by have := find_ref w1 _ a k L f[i] hw.get hf; rwa [hfd] at this) ?_
    rintro ⟨p2, q2⟩
    dsimp only
    repeat (first|refine Wa ?_|refine Wb ?_|refine Wc ?_|refine Wd ?_|refine We rfl ?_|refine Wf (by first|exact Va|exact Vb|exact Vf|exact Vl|exact Vq) rfl ?_|(refine Wg rfl ?_; intro _)|refine Wi ?_)
    refine JC.test (fun h1 => ?_) (fun h1 => ?_)
    · have hj : joinF L A = (c, true) := by
        obtain ⟨x, hx⟩ := List.length_eq_one_iff.1 (show f.length = 1 by omega)
        subst hx
        obtain rfl : i = 0 := by simp at hi'; omega
        rw [joinF_one hjf.symm]; exact hfd
      rw [hj]
      repeat (first|refine Wa ?_|refine Wb ?_|refine Wc ?_|refine Wd ?_|refine We rfl ?_|refine Wf (by first|exact Vb|exact Vc) rfl ?_|refine Wi ?_|refine Ws ?_|refine Wt ?_|refine Wu ?_)
      exact CT.done (p2, q2) rfl (fun w ho => ho.ent)
    · repeat (first|refine Wa ?_|refine Wb ?_|refine Wc ?_|refine Wd ?_|refine We rfl ?_|refine Wf (by first|exact Va|exact Vc|exact Vd|exact Vo) rfl ?_|refine Wl ?_)
      refine JC.test (fun h2 => ?_) (fun h2 => ?_)
      · repeat (first|refine Wa ?_|refine Wc ?_|refine Wd ?_|refine We rfl ?_|refine Wf (by first|exact Va|exact Vb|exact Vc|exact Vd|exact Vk (by omega)) rfl ?_|refine Wr ?_)
        exact ⟨i + 1, c.gen, ⟨by omega, by rw [hnx]; omega, .inr (by omega)⟩, by omega, inferInstance⟩
      · repeat (first|refine Wa ?_|refine Wc ?_|refine Wd ?_|refine We rfl ?_|refine Wf (by first|exact Va|exact Vb|exact Vk (by omega)) rfl ?_|refine Wl ?_|refine Wr ?_)
        exact ⟨i + 1, g, ⟨by omega, by rw [hnx]; omega, .inr (by omega)⟩, by omega, inferInstance⟩
  · obtain rfl : i = f.length := by omega
    rw [List.take_length] at hg
    have h1 : f.length ≠ 1 := by omega
    have hj := joinF_not1 hc hjf.symm hfm h1
    rw [← hg] at hj
    rw [hj]
    repeat (first|refine Wa ?_|refine Wb ?_|refine Wc ?_|refine We rfl ?_|refine Wm ?_|refine Wo ?_|refine Wp ?_)
    refine Wf (OpV.build [.int .i64 (-1), .int .i64 0] (by kernel_rfl)) rfl ?_
    repeat (first|refine We rfl ?_|refine Wf (by first|exact Va|exact Vt (by omega)) rfl ?_)
    refine Wf (OpV.build [.int .i64 (-1), .int .i64 0, .int .i64 (g + 1), .slice a3 f.length k3, .int .i64 0, .string .empty, .string .empty, .int .i64 0] (by kernel_rfl)) rfl ?_
    repeat (first|refine Wa ?_|refine Wb ?_|refine Wc ?_|refine Wd ?_|refine We rfl ?_|refine Wf (by exact Vc) rfl ?_|(refine Wg rfl ?_; intro _)|refine Wi ?_)
    refine JR.callV rfl (fun w1 hw => maycom_ref w1 _ (headC (g + 1) f) a3 k3 (hw.get (A := sl a3 k3 f)) (show texts ⟨⟨-1, 0⟩, _, _, op0⟩ from ⟨(by decide : ByteArray.empty.size < 4611686018427387904), (by decide : ByteArray.empty.size < 4611686018427387904)⟩)) ?_
    cases hm : may (headC (g + 1) f) with
    | false =>
      rw [show mergeR (g + 1) f = (commit0, false) by rw [mergeR, merge_headC, hm]; rfl]
      repeat (first|refine Wa ?_|refine Wb ?_|refine Wc ?_|refine Wd ?_|refine We rfl ?_|refine Wf (by first|exact Va|exact Vb|exact Vh) rfl ?_|refine Wj ?_)
      refine Wf (OpV.build [.int .i64 0, .int .i64 0, .int .i64 0, .slice none 0 0, .int .i64 0, .string .empty, .string .empty, .int .i64 0] (by kernel_rfl)) rfl ?_
      repeat (first|refine Wa ?_|refine Wd ?_|refine We rfl ?_|refine Wf (by exact Vb) rfl ?_|refine Wi ?_|refine Ws ?_|refine Wt ?_)
      exact CT.done (none, 0) rfl (fun w ho => (ho.ent : Hold _ _ [] w).add sl_nil)
    | true =>
      rw [show mergeR (g + 1) f = (headC (g + 1) f, true) by rw [mergeR, merge_headC, hm]; rfl]
      repeat (first|refine Wa ?_|refine Wb ?_|refine Wc ?_|refine Wd ?_|refine We rfl ?_|refine Wf (by first|exact Va|exact Vb|exact Vc|exact Vh) rfl ?_|refine Wi ?_|refine Wk ?_|refine Wl ?_|refine Ws ?_)
      exact CT.done (a3, k3) rfl (fun w ho => (ho.ent : Hold _ _ [.st (sl a3 k3 f)] w))
theorem head_ref (w : World) (F : Nat → Prop) (a : Option Addr) (k : Nat) (L : List Commit) (h : (sl a k L).holds F w) (hl : L.length ≤ 1000) (hf : ∀ x ∈ L, fine x) (hq : ∀ x ∈ L, x.parents.length ≤ 1000) :
    Gives Tryz.prog 25 [.slice a L.length k] w F (fun y : Option Addr × Nat => .tuple ⟨[commitV (headF L).1 y.1 y.2, .bool (headF L).2]⟩) (fun y => [.st (sl y.1 y.2 (headF L).1.parents)]) := by
  have hil := idsP_length L
  refine gives_of Tryz.func25 rfl Tryz.ntmps25 rfl rfl [.st (sl a k L)] (.start1 h) ?_
  repeat (first|refine Wa ?_|refine Wb ?_|refine Wc ?_|refine Wd ?_|refine We rfl ?_|refine Wf (by first|exact Va|exact Vb) rfl ?_|(refine Wg rfl ?_; intro _))
  refine JR.callSl rfl (fun w1 hw => ids_ref w1 _ a k L hw.get (by omega) hf) ?_
  intro a1 k1
  repeat (refine We rfl ?_)
  refine JR.call1 rfl (fun w1 hw => join_ref w1 _ a a1 k k1 L (idsP L) hw.get hw.get hl hf hq) ?_
  rintro ⟨p2, q2⟩
  dsimp only
  repeat (first|refine Wa ?_|refine Wb ?_|refine Wc ?_|refine Wd ?_|refine We rfl ?_|refine Wf (by first|exact Va|exact Vb|exact Vc|exact Vq) rfl ?_|(refine Wg rfl ?_; intro _)|refine Wi ?_|refine Ws ?_)
  exact CT.done (p2, q2) rfl (fun w ho => (ho.ent : Hold _ _ [.st (sl p2 q2 (joinF L (idsP L)).1.parents)] w))
theorem base_ref (w : World) (F : Nat → Prop) (a b d : Option Addr) (k m n : Nat) (L : List Commit) (A B : List ID) (h : (sl a k L).holds F w) (h' : (sl b m A).holds F w) (h2 : (sl d n B).holds F w) (hl : L.length ≤ 1000) (hf : ∀ x ∈ L, fine x) (hq : ∀ x ∈ L, x.parents.length ≤ 1000) :
    GivesSl Tryz.prog 21 [.slice a L.length k, .slice b A.length m, .slice d B.length n] w F (baseF L A B) := by
  have hx := anc_len (ancF_ok L A)
  refine gives_of Tryz.func21 rfl Tryz.ntmps21 rfl rfl [.st (sl a k L), .st (sl b m A), .st (sl d n B)] (.start3 h h' h2) ?_
  repeat (first|refine Wa ?_|refine Wb ?_|refine Wc ?_|refine Wd ?_|refine We rfl ?_|refine Wf (by first|exact Va|exact Vb) rfl ?_)
  refine JR.callSl (L := ancF L A) rfl (fun w1 hw => anc_refS w1 _ a b k m L A _ hw.get hw.get hl hf hq (ancF_ok L A)) ?_
  intro a1 k1
  repeat (first|refine We rfl ?_|refine Wf (by exact Va) rfl ?_)
  refine JR.callSl (L := ancF L B) rfl (fun w1 hw => anc_refS w1 _ a d k n L B _ hw.get hw.get hl hf hq (ancF_ok L B)) ?_
  intro a2 k2
  repeat (refine We rfl ?_)
  refine JR.callSl rfl (fun w1 hw => common_ref w1 _ a1 a2 k1 k2 (ancF L A) (ancF L B) hw.get hw.get (by omega)) ?_
  intro a4 k4
  repeat (first|refine Wa ?_|refine Wd ?_|refine We rfl ?_|refine Wf (by exact Vb) rfl ?_|refine Ws ?_)
  exact CT.done (a4, k4) rfl (fun w ho => (ho.ent : Hold _ _ [.st (sl a4 k4 (someIds (ancF L A) (ancF L B) true))] w))
end Ab
end Go.Proofs.YtglclakhjmogiaaGreat

/- Contract of the document's layer 12: Next. -/
namespace Go.Proofs.YtglclakhjmogiaaGreat
namespace Ab
open Go Go.RowKit
set_option linter.unusedVariables false
set_option linter.unusedSimpArgs false
set_option synthInstance.maxSize 4000
set_option synthInstance.maxHeartbeats 400000
attribute [local irreducible] JC JO JR JQ andThen inBlock OpV Gives retTo JM JS

attribute [local irreducible] hashC idA l0 l1 ents
set_option maxHeartbeats 4000000 in
theorem nxt_ref (w : World) (F : Nat → Prop) (a : Option Addr) (k : Nat) (L : List Commit) (ev : Ev_) (o : Op_) (h : (sl a k L).holds F w) (hl : L.length ≤ 900) (hf : ∀ x ∈ L, fine x) (hq : ∀ x ∈ L, x.parents.length ≤ 1000) (hot : o.key.size < 4611686018427387904 ∧ o.elem.size < 4611686018427387904) :
    Gives Tryz.prog 27 [.slice a L.length k, .agg ⟨[.int .i64 ev.node, .int .i64 ev.seq]⟩, opV o] w F (fun y : Option Addr × Nat => .tuple ⟨[commitV (nextF L ev o).1 y.1 y.2, .bool (nextF L ev o).2]⟩) (fun y => [.st (sl y.1 y.2 (nextF L ev o).1.parents)]) := by
  obtain ⟨gw, hg⟩ : ∃ gw, gw = IntKind.i64.wrap (topL L + 1) := ⟨_, rfl⟩
  have hfl : (frontF L).length ≤ 8 := by
    by_cases hc : Closed L
    · exact front_few hc
    · rw [front_not hc]; decide
  obtain ⟨C, hC⟩ : ∃ C, C = (⟨ev, gw, frontF L, o⟩ : Commit) := ⟨_, rfl⟩
  have hfc : fine C := by subst hC; exact ⟨hot, by show (frontF L).length ≤ _; omega⟩
  have hqc : C.parents.length ≤ 1000 := by subst hC; show (frontF L).length ≤ _; omega
  have hfn : ∀ x ∈ L ++ [C], fine x := fun x hx => by
    rcases List.mem_append.1 hx with hx | hx
    · exact hf x hx
    · rw [List.mem_singleton] at hx; subst hx; exact hfc
  have hqn : ∀ x ∈ L ++ [C], x.parents.length ≤ 1000 := fun x hx => by
    rcases List.mem_append.1 hx with hx | hx
    · exact hq x hx
    · rw [List.mem_singleton] at hx; subst hx; exact hqc
  have hCn : Closed L → C = nextC L ev o := fun hc => by
    have h1 := topL_few hc
    have h2 := topL_pos L
    rw [hC, hg, wrap_in (by omega)]; rfl
  refine gives_of Tryz.func27 rfl Tryz.ntmps27 rfl rfl [.st (sl a k L)] (.start1 h) ?_
  repeat (first|refine Wa ?_|refine Wb ?_|refine Wc ?_|refine Wd ?_|refine We rfl ?_|refine Wf (by first|exact Va|exact Vb) rfl ?_|(refine Wg rfl ?_; intro _)|(refine Wh rfl ?_; intro _))
  rename_i b4 b5 b6
  refine JR.callV rfl (fun w1 hw => closed_refV w1 _ a k L (closedB L) hw.get (by omega) hf hq closedB_iff) ?_
  repeat (first|refine Wa ?_|refine Wb ?_|refine Wc ?_|refine Wd ?_|refine We rfl ?_|refine Wf (by exact Vb) rfl ?_|refine Wn ?_)
  refine JC.loop1 (fun (i : Nat) => [(0, .slice a L.length k), (4, .pointer (some ⟨b4, 0, none⟩)), (5, .pointer (some ⟨b5, 0, none⟩)), (6, .pointer (some ⟨b6, 0, none⟩)), (7, .bool false), (8, .bool (closedB L)), (9, .int .i64 (topL (L.take i))), (10, .int .i64 (i : Int))])
    (fun i => [.own b4 25 [.int .i64 ev.node, .int .i64 ev.seq], .own b5 27 [.int .i64 o.kind, .string o.key, .string o.elem, .int .i64 o.n], .own b6 34 [.int .i64 0, .int .i64 0, .int .i64 0, .slice none 0 0, .int .i64 0, .string .empty, .string .empty, .int .i64 0], .st (sl a k L)]) (fun i => i ≤ L.length) (fun i => L.length - i) 0 (Nat.zero_le _) (by rw [List.take_zero, show topL [] = 0 from rfl]; infer_instance) ?_
  intro i hi
  repeat (first|refine Wa ?_|refine Wb ?_|refine Wc ?_|refine Wd ?_|refine We rfl ?_|refine Wf (by first|exact Va|exact Vf|exact Vg) rfl ?_)
  refine JC.test (fun hlt => ?_) (fun hge => ?_)
  · have hlt' : i < L.length := by omega
    have hnx := topL_next hlt'
    repeat (first|refine Wa ?_|refine Wb ?_|refine Wc ?_|refine We rfl ?_|refine Wf (by exact Va) rfl ?_|refine Wl ?_|refine Wn ?_)
    refine JR.indexCommit rfl hlt' ?_
    intro b1 o1 p1 q1
    repeat (first|refine Wa ?_|refine Wd ?_|refine We rfl ?_|refine Wf (by first|exact Va|exact Vc|exact Vd|exact Vo) rfl ?_)
    refine JC.test (fun h2 => ?_) (fun h2 => ?_)
    · repeat (first|refine Wc ?_|refine We rfl ?_|refine Wf (by exact Va) rfl ?_)
      refine JR.indexCommit rfl hlt' ?_
      intro b2 o2 p2 q2
      repeat (first|refine Wa ?_|refine Wc ?_|refine Wd ?_|refine We rfl ?_|refine Wf (by first|exact Va|exact Vb|exact Vc|exact Vd|exact Vk (by omega)) rfl ?_|refine Wr ?_)
      exact ⟨i + 1, by omega, by omega, by rw [hnx, show max (topL (L.take i)) L[i].gen = L[i].gen by omega]; infer_instance⟩
    · repeat (first|refine Wa ?_|refine Wc ?_|refine Wd ?_|refine We rfl ?_|refine Wf (by first|exact Va|exact Vb|exact Vk (by omega)) rfl ?_|refine Wl ?_|refine Wr ?_)
      exact ⟨i + 1, by omega, by omega, by rw [hnx, show max (topL (L.take i)) L[i].gen = topL (L.take i) by omega]; infer_instance⟩
  obtain rfl : i = L.length := by omega
  rw [List.take_length]
  repeat (first | refine Wa ?_ | refine Wo ?_ | refine Wp ?_ | refine Wq rfl ?_ | refine Wr ?_ | refine Wm ?_ | refine Wb ?_)
  refine JC.cut (fun y : (Option Addr × Nat) × Nat => [(0, .slice a L.length k), (6, .pointer (some ⟨b6, 0, none⟩)), (7, .bool false), (8, .bool (closedB L)), (11, .pointer (some ⟨y.2, 0, none⟩))])
    (fun y => [.own y.2 34 [.int .i64 ev.node, .int .i64 ev.seq, .int .i64 gw, .slice y.1.1 (frontF L).length y.1.2, .int .i64 o.kind, .string o.key, .string o.elem, .int .i64 o.n], .st (sl y.1.1 y.1.2 (frontF L)), .own b6 34 [.int .i64 0, .int .i64 0, .int .i64 0, .slice none 0 0, .int .i64 0, .string .empty, .string .empty, .int .i64 0], .st (sl a k L)]) ?_ ?_
  · refine JC.draw 8 mixed ?_
    refine JM.take 0 rfl (by kernel_rfl) rfl Vc rfl rfl ?_
    refine JM.take 1 rfl (by kernel_rfl) rfl Va rfl rfl ?_
    refine JM.take 2 rfl (by kernel_rfl) rfl OpV.addw rfl rfl ?_
    refine JM.reslot 36 (.int .i64 gw) (by rw [hg]) ?_
    refine JM.take 3 rfl (by kernel_rfl) rfl Va rfl rfl ?_
    refine JM.take 5 rfl (by kernel_rfl) rfl Vc rfl rfl ?_
    refine JM.two 4 7 (by kernel_rfl) rfl rfl rfl rfl rfl rfl rfl rfl (JS.callSl rfl (fun w1 hw => front_ref w1 _ a k L hw.get (by omega) hf hq) fun af kf => ?_) (JS.alloc rfl fun b8 => ?_)
    · refine JM.take 6 rfl (by kernel_rfl) rfl (OpV.build [.int .i64 ev.node, .int .i64 ev.seq, .int .i64 gw, .slice af (frontF L).length kf, .int .i64 o.kind, .string o.key, .string o.elem, .int .i64 o.n] (by kernel_rfl)) rfl rfl ?_
      refine JM.one 7 (by kernel_rfl) rfl rfl rfl rfl (JS.alloc rfl fun b8 => ?_)
      refine JM.last 8 (by kernel_rfl) rfl rfl rfl (Wi (Wd ⟨rfl, ?_⟩))
      exact JM.nil (by kernel_rfl) ⟨rfl, ((af, kf), b8), inferInstance⟩
    · refine JM.one 4 (by kernel_rfl) rfl rfl rfl rfl (JS.callSl rfl (fun w1 hw => front_ref w1 _ a k L hw.get (by omega) hf hq) fun af kf => ?_)
      refine JM.take 6 rfl (by kernel_rfl) rfl (OpV.build [.int .i64 ev.node, .int .i64 ev.seq, .int .i64 gw, .slice af (frontF L).length kf, .int .i64 o.kind, .string o.key, .string o.elem, .int .i64 o.n] (by kernel_rfl)) rfl rfl ?_
      refine JM.last 8 (by kernel_rfl) rfl rfl rfl (Wi (Wd ⟨rfl, ?_⟩))
      exact JM.nil (by kernel_rfl) ⟨rfl, ((af, kf), b8), inferInstance⟩
  rintro ⟨⟨af, kf⟩, b8⟩
  dsimp only
  repeat (first|refine Wb ?_|refine Wc ?_|refine We rfl ?_|refine Wf (by exact Vc) rfl ?_)
  refine JR.callV (v := .bool (may C)) rfl (fun w1 hw => hC ▸ maycom_ref w1 _ ⟨ev, gw, frontF L, o⟩ af kf (hw.get (A := sl af kf (frontF L))) hot) ?_
  refine We rfl ?_
  refine Wf Vb rfl ?_
  refine Wd ?_
  refine Wa ?_
  refine Wb ?_
  refine JC.cut (fun _ : Unit => [(6, .pointer (some ⟨b6, 0, none⟩)), (7, .bool false), (8, .bool (closedB L)), (11, .pointer (some ⟨b8, 0, none⟩)), (12, .bool (may C)), (13, .bool (closedB (L ++ [C])))])
    (fun _ => [.own b8 34 [.int .i64 ev.node, .int .i64 ev.seq, .int .i64 gw, .slice af (frontF L).length kf, .int .i64 o.kind, .string o.key, .string o.elem, .int .i64 o.n], .st (sl af kf (frontF L)), .own b6 34 [.int .i64 0, .int .i64 0, .int .i64 0, .slice none 0 0, .int .i64 0, .string .empty, .string .empty, .int .i64 0], .st (sl a k L)]) ?_ ?_
  · refine JC.draw 4 mixed ?_
    refine JM.take 0 rfl (by kernel_rfl) rfl Va rfl rfl ?_
    refine JM.take 2 rfl (by kernel_rfl) rfl Vc rfl rfl ?_
    refine JM.two 1 3 (by kernel_rfl) rfl rfl rfl rfl rfl rfl rfl rfl (JS.appendNil (L' := L) rfl (by exact ⟨rfl, rfl, by decide⟩) (by omega) fun a9 k9 => ?_) (JS.lit rfl ⟨rfl, by decide, by decide, by decide⟩ fun lb => ?_)
    · refine JM.one 3 (by kernel_rfl) rfl rfl rfl rfl (JS.lit rfl ⟨rfl, by decide, by decide, by decide⟩ fun lb => ?_)
      refine JM.last 4 (by kernel_rfl) rfl rfl rfl (JR.append1 (L := L) (u := ⟨ev, gw, frontF L, o⟩) rfl (by exact ⟨rfl, rfl, by decide⟩) (by omega) (fun r s => Wd ⟨rfl, ?_⟩))
      rw [← hC]
      refine JM.more (Γ' := .st (sl r s (L ++ [C])) :: [.own b8 34 [.int .i64 ev.node, .int .i64 ev.seq, .int .i64 gw, .slice af (frontF L).length kf, .int .i64 o.kind, .string o.key, .string o.elem, .int .i64 o.n], .st (sl af kf (frontF L)), .own b6 34 [.int .i64 0, .int .i64 0, .int .i64 0, .slice none 0 0, .int .i64 0, .string .empty, .string .empty, .int .i64 0], .st (sl a k L)]) (fun w1 ho => (ho.ent : Hold _ _ (.res (buf r s 34 (L ++ [C])) :: [.own b8 34 [.int .i64 ev.node, .int .i64 ev.seq, .int .i64 gw, .slice af (frontF L).length kf, .int .i64 o.kind, .string o.key, .string o.elem, .int .i64 o.n], .st (sl af kf (frontF L)), .own b6 34 [.int .i64 0, .int .i64 0, .int .i64 0, .slice none 0 0, .int .i64 0, .string .empty, .string .empty, .int .i64 0], .st (sl a k L)]) w1).pub) ?_
      refine JM.last 5 (by kernel_rfl) rfl rfl rfl (JR.callV rfl (fun w1 hw => closed_refV w1 _ r s (L ++ [C]) (closedB (L ++ [C])) (hw.get (A := sl r s (L ++ [C]))) (by simp; omega) hfn hqn closedB_iff) (Wd ⟨rfl, ?_⟩))
      refine JM.last 6 (by kernel_rfl) rfl rfl rfl (Wf Vb rfl (Wd ⟨rfl, ?_⟩))
      exact JM.nil (by kernel_rfl) ⟨rfl, (), inferInstance⟩
    · refine JM.one 1 (by kernel_rfl) rfl rfl rfl rfl (JS.appendNil (L' := L) rfl (by exact ⟨rfl, rfl, by decide⟩) (by omega) fun a9 k9 => ?_)
      refine JM.last 4 (by kernel_rfl) rfl rfl rfl (JR.append1 (L := L) (u := ⟨ev, gw, frontF L, o⟩) rfl (by exact ⟨rfl, rfl, by decide⟩) (by omega) (fun r s => Wd ⟨rfl, ?_⟩))
      rw [← hC]
      refine JM.more (Γ' := .st (sl r s (L ++ [C])) :: [.own b8 34 [.int .i64 ev.node, .int .i64 ev.seq, .int .i64 gw, .slice af (frontF L).length kf, .int .i64 o.kind, .string o.key, .string o.elem, .int .i64 o.n], .st (sl af kf (frontF L)), .own b6 34 [.int .i64 0, .int .i64 0, .int .i64 0, .slice none 0 0, .int .i64 0, .string .empty, .string .empty, .int .i64 0], .st (sl a k L)]) (fun w1 ho => (ho.ent : Hold _ _ (.res (buf r s 34 (L ++ [C])) :: [.own b8 34 [.int .i64 ev.node, .int .i64 ev.seq, .int .i64 gw, .slice af (frontF L).length kf, .int .i64 o.kind, .string o.key, .string o.elem, .int .i64 o.n], .st (sl af kf (frontF L)), .own b6 34 [.int .i64 0, .int .i64 0, .int .i64 0, .slice none 0 0, .int .i64 0, .string .empty, .string .empty, .int .i64 0], .st (sl a k L)]) w1).pub) ?_
      refine JM.last 5 (by kernel_rfl) rfl rfl rfl (JR.callV rfl (fun w1 hw => closed_refV w1 _ r s (L ++ [C]) (closedB (L ++ [C])) (hw.get (A := sl r s (L ++ [C]))) (by simp; omega) hfn hqn closedB_iff) (Wd ⟨rfl, ?_⟩))
      refine JM.last 6 (by kernel_rfl) rfl rfl rfl (Wf Vb rfl (Wd ⟨rfl, ?_⟩))
      exact JM.nil (by kernel_rfl) ⟨rfl, (), inferInstance⟩
  intro _
  cases hb : closedB L with
  | false =>
    rw [nextF_not (fun hc => by rw [closedB_yes hc] at hb; cases hb)]
    repeat (first|refine Wa ?_|refine Wb ?_|refine Wc ?_|refine Wd ?_|refine We rfl ?_|refine Wf (by first|exact Va|exact Vh|exact Vi) rfl ?_|refine Wj ?_|refine Wv rfl rfl ?_)
    refine Wf (OpV.build [.int .i64 0, .int .i64 0, .int .i64 0, .slice none 0 0, .int .i64 0, .string .empty, .string .empty, .int .i64 0] (by kernel_rfl)) rfl ?_
    repeat (first|refine Wa ?_|refine Wd ?_|refine We rfl ?_|refine Wf (by exact Vb) rfl ?_|refine Wi ?_|refine Ws ?_|refine Wt ?_)
    exact CT.done (none, 0) rfl (fun w ho => (ho.ent : Hold _ _ [] w).add sl_nil)
  | true =>
    have hc := closedB_iff.1 hb
    have hCN := hCn hc
    cases hm : may C with
    | false =>
      rw [nextF_may (hCN ▸ hm)]
      repeat (first|refine Wa ?_|refine Wb ?_|refine Wc ?_|refine Wd ?_|refine We rfl ?_|refine Wf (by first|exact Va|exact Vh|exact Vi|exact Vj) rfl ?_|refine Wj ?_|refine Wv rfl rfl ?_)
      refine Wf (OpV.build [.int .i64 0, .int .i64 0, .int .i64 0, .slice none 0 0, .int .i64 0, .string .empty, .string .empty, .int .i64 0] (by kernel_rfl)) rfl ?_
      repeat (first|refine Wa ?_|refine Wd ?_|refine We rfl ?_|refine Wf (by exact Vb) rfl ?_|refine Wi ?_|refine Ws ?_|refine Wt ?_)
      exact CT.done (none, 0) rfl (fun w ho => (ho.ent : Hold _ _ [] w).add sl_nil)
    | true =>
      cases hcn : closedB (L ++ [C]) with
      | false =>
        rw [nextF_no (hCN ▸ fun h => by rw [closedB_yes h] at hcn; cases hcn)]
        repeat (first|refine Wa ?_|refine Wb ?_|refine Wc ?_|refine Wd ?_|refine We rfl ?_|refine Wf (by first|exact Va|exact Vh|exact Vj) rfl ?_|refine Wj ?_)
        refine Wf (OpV.build [.int .i64 0, .int .i64 0, .int .i64 0, .slice none 0 0, .int .i64 0, .string .empty, .string .empty, .int .i64 0] (by kernel_rfl)) rfl ?_
        repeat (first|refine Wa ?_|refine Wd ?_|refine We rfl ?_|refine Wf (by exact Vb) rfl ?_|refine Wi ?_|refine Ws ?_|refine Wt ?_)
        exact CT.done (none, 0) rfl (fun w ho => (ho.ent : Hold _ _ [] w).add sl_nil)
      | true =>
        rw [nextF_yes hc (hCN ▸ hm) (hCN ▸ closedB_iff.1 hcn), ← hCN, hC]
        repeat (first|refine Wa ?_|refine Wb ?_|refine Wc ?_|refine Wd ?_|refine We rfl ?_|refine Wf (by first|exact Va|exact Vb|exact Vc|exact Vh|exact Vj) rfl ?_|refine Wi ?_|refine Wk ?_|refine Wl ?_|refine Ws ?_)
        exact CT.done (af, kf) rfl (fun w ho => (ho.ent : Hold _ _ [.st (sl af kf (frontF L))] w))
end Ab
end Go.Proofs.YtglclakhjmogiaaGreat

/- The law FrontTells returns true. -/
namespace Go.Proofs.YtglclakhjmogiaaGreat
namespace Ab
open Go Go.RowKit
set_option linter.unusedVariables false
set_option linter.unusedSimpArgs false
set_option synthInstance.maxSize 4000
set_option synthInstance.maxHeartbeats 400000
attribute [local irreducible] JC JO JR JQ andThen inBlock OpV Gives retTo JM JS

attribute [local irreducible] hashC idA l0 l1 ents
set_option maxHeartbeats 4000000 in
theorem law_fronttells (w : World) (F : Nat → Prop) (a b d : Option Addr) (k m n : Nat) (L : List Commit) (A B : List ID) (ev : Ev_) (o : Op_) (h : (sl a k L).holds F w) (h1 : (sl b m A).holds F w) (h2 : (sl d n B).holds F w) :
    GivesV Tryz.prog 3 [.slice a L.length k, .slice b A.length m, .slice d B.length n, .agg ⟨[.int .i64 ev.node, .int .i64 ev.seq]⟩, opV o] w F (.bool true) := by
  refine gives_of Tryz.func3 rfl Tryz.ntmps3 rfl rfl [.st (sl a k L), .st (sl b m A), .st (sl d n B)] (.start3 h h1 h2) ?_
  repeat (first|refine Wa ?_|refine Wb ?_|refine Wc ?_|refine Wd ?_|refine We rfl ?_|refine Wf (by exact Vb) rfl ?_|(refine Wh rfl ?_; intro _))
  refine JR.callV rfl (fun w1 hw => awake_front w1 _) ?_
  repeat (first|refine Wa ?_|refine Wb ?_|refine Wc ?_|refine Wd ?_|refine We rfl ?_|refine Wf (by first|exact Va|exact Vb) rfl ?_)
  refine JR.callV rfl (fun w1 hw => few_all w1 _ a k L 10 hw.get) ?_
  cases hfew : fewL L 10 with
  | false =>
    repeat (first|refine Wa ?_|refine Wb ?_|refine Wc ?_|refine Wd ?_|refine We rfl ?_|refine Wf (by first|exact Va|exact Vb|exact Vh|exact Vi|exact Vj) rfl ?_|refine Wj ?_|refine Ws ?_|refine Wt ?_|refine Wv rfl rfl ?_)
    exact CT.done () rfl (fun w ho => ho.ent)
  | true =>
  obtain ⟨hL, hf⟩ := few_fine hfew
  have hq : ∀ x ∈ L, x.parents.length ≤ 1000 := fun x hx => by have := few_parents hfew x hx; omega
  obtain ⟨cj, bj, hj⟩ : ∃ c b, joinF L A = (c, b) := ⟨_, _, rfl⟩
  obtain ⟨ch, bh, hh⟩ : ∃ c b, headF L = (c, b) := ⟨_, _, rfl⟩
  obtain ⟨cn, bn, hn⟩ : ∃ c b, nextF L ev o = (c, b) := ⟨_, _, rfl⟩
  repeat (first|refine Wa ?_|refine Wb ?_|refine Wc ?_|refine Wd ?_|refine We rfl ?_|refine Wf (by first|exact Va|exact Vb|exact Vf|exact Vh|exact Vj|exact Vo) rfl ?_)
  refine JO.test 44 (fun hA => ?_) (fun hA => ?_)
  · repeat (first|refine Wa ?_|refine Wb ?_|refine Wc ?_|refine Wd ?_|refine We rfl ?_|refine Wf (by first|exact Va|exact Vb|exact Vi) rfl ?_|refine Wj ?_|refine Ws ?_|refine Wt ?_|refine Wv rfl rfl ?_)
    exact CT.done () rfl (fun w ho => ho.ent)
  repeat (first|refine We rfl ?_|refine Wf (by first|exact Va|exact Vf|exact Vj|exact Vo) rfl ?_)
  refine JO.test 49 (fun hB => ?_) (fun hB => ?_)
  · repeat (first|refine Wa ?_|refine Wb ?_|refine Wc ?_|refine Wd ?_|refine We rfl ?_|refine Wf (by first|exact Va|exact Vb|exact Vi) rfl ?_|refine Wj ?_|refine Ws ?_|refine Wt ?_|refine Wv rfl rfl ?_)
    exact CT.done () rfl (fun w ho => ho.ent)
  repeat (first|refine We rfl ?_|refine Wf (by first|exact Va|exact Vc|exact Vd|exact Vj|exact Vo|exact Vw) rfl ?_)
  refine JO.test 55 (fun hk => ?_) (fun hk => ?_)
  · repeat (first|refine Wa ?_|refine Wb ?_|refine Wc ?_|refine Wd ?_|refine We rfl ?_|refine Wf (by first|exact Va|exact Vb|exact Vi) rfl ?_|refine Wj ?_|refine Ws ?_|refine Wt ?_|refine Wv rfl rfl ?_)
    exact CT.done () rfl (fun w ho => ho.ent)
  repeat (first|refine Wa ?_|refine Wd ?_|refine We rfl ?_|refine Wf (by first|exact Vc|exact Vd|exact Vj|exact Vo|exact Vw) rfl ?_)
  refine JC.test (fun he => ?_) (fun he => ?_)
  · repeat (first|refine Wa ?_|refine Wb ?_|refine Wc ?_|refine Wd ?_|refine We rfl ?_|refine Wf (by first|exact Va|exact Vb) rfl ?_|refine Ws ?_|refine Wt ?_)
    exact CT.done () rfl (fun w ho => ho.ent)
  have hot : o.key.size < 4611686018427387904 ∧ o.elem.size < 4611686018427387904 := ⟨by omega, by omega⟩
  repeat (first|refine Wa ?_|refine Wb ?_|refine Wc ?_|refine We rfl ?_|refine Wf (by exact Va) rfl ?_|refine Wl ?_)
  refine JR.callSl rfl (fun w1 hw => front_front w1 _ a k L hw.get (by omega) hf) ?_
  intro a1 k1
  repeat (first|refine We rfl ?_|refine Wf (by exact Va) rfl ?_)
  refine JR.callSl rfl (fun w1 hw => front_ref w1 _ a k L hw.get (by omega) hf hq) ?_
  intro a2 k2
  repeat (refine We rfl ?_)
  refine JR.callV rfl (fun w1 hw => sameIds_ref w1 _ a1 a2 k1 k2 (frontF L) (frontF L) hw.get hw.get) ?_
  refine JO.reslot 66 (.bool true) (by simp) ?_
  repeat (first|refine Wa ?_|refine Wb ?_|refine Wc ?_|refine Wd ?_|refine We rfl ?_|refine Wf (by first|exact Va|exact Vb) rfl ?_)
  refine JR.callSl rfl (fun w1 hw => base_front w1 _ a b d k m n L A B hw.get hw.get hw.get (by omega) (by omega) (by omega) hf) ?_
  intro a3 k3
  repeat (first|refine We rfl ?_|refine Wf (by exact Va) rfl ?_)
  refine JR.callSl rfl (fun w1 hw => base_ref w1 _ a b d k m n L A B hw.get hw.get hw.get (by omega) hf hq) ?_
  intro a4 k4
  repeat (refine We rfl ?_)
  refine JR.callV rfl (fun w1 hw => sameIds_ref w1 _ a3 a4 k3 k4 (baseF L A B) (baseF L A B) hw.get hw.get) ?_
  refine JO.reslot 75 (.bool true) (by simp) ?_
  repeat (first|refine Wa ?_|refine Wb ?_|refine Wc ?_|refine Wd ?_|refine We rfl ?_|refine Wf (by first|exact Va|exact Vb) rfl ?_)
  refine JR.call1 (v := fun y : Option Addr × Nat => .tuple ⟨[commitV cj y.1 y.2, .bool bj]⟩) (B := fun y => .st (sl y.1 y.2 cj.parents)) rfl (fun w1 hw => by have := join_front w1 _ a b k m L A hw.get hw.get (by omega) (by omega) hf; rwa [hj] at this) ?_
  rintro ⟨p1, q1⟩
  dsimp only
  repeat (first|refine Wa ?_|refine Wb ?_|refine Wc ?_|refine Wd ?_|refine We rfl ?_|refine Wf (by first|exact Va|exact Vb|exact Vq) rfl ?_|(refine Wg rfl ?_; intro _)|refine Wi ?_)
  refine JR.call1 (v := fun y : Option Addr × Nat => .tuple ⟨[commitV cj y.1 y.2, .bool bj]⟩) (B := fun y => .st (sl y.1 y.2 cj.parents)) rfl (fun w1 hw => by have := join_ref w1 _ a b k m L A hw.get hw.get (by omega) hf hq; rwa [hj] at this) ?_
  rintro ⟨p2, q2⟩
  dsimp only
  repeat (first|refine Wa ?_|refine Wb ?_|refine Wc ?_|refine Wd ?_|refine We rfl ?_|refine Wf (by first|exact Va|exact Vb|exact Vq) rfl ?_|(refine Wg rfl ?_; intro _)|refine Wi ?_)
  refine JR.call1 (v := fun y : Option Addr × Nat => .tuple ⟨[commitV ch y.1 y.2, .bool bh]⟩) (B := fun y => .st (sl y.1 y.2 ch.parents)) rfl (fun w1 hw => by have := head_front w1 _ a k L hw.get (by omega) hf; rwa [hh] at this) ?_
  rintro ⟨p3, q3⟩
  dsimp only
  repeat (first|refine Wa ?_|refine Wb ?_|refine Wc ?_|refine Wd ?_|refine We rfl ?_|refine Wf (by first|exact Va|exact Vb|exact Vq) rfl ?_|(refine Wg rfl ?_; intro _)|refine Wi ?_)
  refine JR.call1 (v := fun y : Option Addr × Nat => .tuple ⟨[commitV ch y.1 y.2, .bool bh]⟩) (B := fun y => .st (sl y.1 y.2 ch.parents)) rfl (fun w1 hw => by have := head_ref w1 _ a k L hw.get (by omega) hf hq; rwa [hh] at this) ?_
  rintro ⟨p4, q4⟩
  dsimp only
  repeat (first|refine Wa ?_|refine Wb ?_|refine Wc ?_|refine Wd ?_|refine We rfl ?_|refine Wf (by first|exact Va|exact Vb|exact Vc|exact Vq) rfl ?_|(refine Wg rfl ?_; intro _)|refine Wi ?_)
  refine JR.call1 (v := fun y : Option Addr × Nat => .tuple ⟨[commitV cn y.1 y.2, .bool bn]⟩) (B := fun y => .st (sl y.1 y.2 cn.parents)) rfl (fun w1 hw => by have := nxt_front w1 _ a k L ev o hw.get (by omega) hf hot; rwa [hn] at this) ?_
  rintro ⟨p5, q5⟩
  dsimp only
  repeat (first|refine Wa ?_|refine Wb ?_|refine Wc ?_|refine Wd ?_|refine We rfl ?_|refine Wf (by first|exact Va|exact Vb|exact Vc|exact Vq) rfl ?_|(refine Wg rfl ?_; intro _)|refine Wi ?_)
  refine JR.call1 (v := fun y : Option Addr × Nat => .tuple ⟨[commitV cn y.1 y.2, .bool bn]⟩) (B := fun y => .st (sl y.1 y.2 cn.parents)) rfl (fun w1 hw => by have := nxt_ref w1 _ a k L ev o hw.get (by omega) hf hq hot; rwa [hn] at this) ?_
  rintro ⟨p6, q6⟩
  dsimp only
  repeat (first|refine Wa ?_|refine Wb ?_|refine Wc ?_|refine Wd ?_|refine We rfl ?_|refine Wf (by first|exact Va|exact Vb|exact Vc|exact Vq) rfl ?_|(refine Wg rfl ?_; intro _)|refine Wi ?_)
  refine JR.callV rfl (fun w1 hw => same_ref w1 _ cj cj p1 p2 q1 q2 hw.get hw.get) ?_
  refine JO.reslot 114 (.bool true) (by simp) ?_
  repeat (first|refine Wa ?_|refine Wb ?_|refine Wc ?_|refine Wd ?_|refine We rfl ?_|refine Wf (by first|exact Vb|exact Vc) rfl ?_)
  refine JR.callV rfl (fun w1 hw => same_ref w1 _ ch ch p3 p4 q3 q4 hw.get hw.get) ?_
  refine JO.reslot 117 (.bool true) (by simp) ?_
  repeat (first|refine Wa ?_|refine Wb ?_|refine Wc ?_|refine Wd ?_|refine We rfl ?_|refine Wf (by first|exact Vb|exact Vc) rfl ?_)
  refine JR.callV rfl (fun w1 hw => same_ref w1 _ cn cn p5 p6 q5 q6 hw.get hw.get) ?_
  refine JO.reslot 120 (.bool true) (by simp) ?_
  repeat (first|refine Wa ?_|refine Wb ?_|refine Wc ?_|refine Wd ?_|refine We rfl ?_|refine Wf (by first|exact Va|exact Vb|exact Vi|exact VE) rfl ?_)
  refine JO.reslot 133 (.bool true) (by simp) ?_
  repeat (first|refine We rfl ?_|refine Wf (by first|exact Va|exact Vi|exact VE) rfl ?_)
  refine JO.reslot 141 (.bool true) (by simp) ?_
  repeat (first|refine Wa ?_|refine Wd ?_|refine We rfl ?_|refine Wf (by first|exact Va|exact Vb|exact Vi|exact VE) rfl ?_|refine Ws ?_)
  refine CT.done () ?_ (fun w ho => ho.ent)
  simp [packed]
end Ab
end Go.Proofs.YtglclakhjmogiaaGreat

/- The statement FrontTellsSaid: for every input FrontTells returns true and leaves its arguments as they were. -/
namespace Go.Proofs.YtglclakhjmogiaaGreat
open Go Go.ChangeShapes Go.WideShapes Go.ChangeAt Go.RowKit
set_option linter.unusedVariables false

set_option maxRecDepth 100000 in
theorem frontTells_contract (H : Type) (enc : TypeId × Value → H) (W : World) (base : Nat) (args : Array Value) (ds gs : List (DataW H)) (before : List MemPlace)
    (hval : ∀ (j : Nat) t v, Tryz.f3.params[j]? = some t → args[j]? = some v → Value.okWide Tryz.prog W .any base t v)
    (hW : DataW.Whole enc Tryz.prog Tryz.f3.params.toList Rows.frontTellsSpec.vars false W args.toList ds gs before)
    (hsz : (DataW.weightsEach Tryz.prog (Tryz.f3.params.toList ++ Rows.frontTellsSpec.plain.varTypes Tryz.prog) (ds ++ gs)).all (· ≤ reachBytes) = true) :
    Calls Tryz.prog 3 args W fun e W' => ∃ v, e = .returned v ∧ Rows.frontTellsSpec.post enc Tryz.prog Tryz.f3 false true false false W args v W' := by
  have hW' := hW
  obtain ⟨p, q, hA0, hV, rfl, _, _⟩ := hW
  have hA : DataW.TrodAll enc Tryz.prog W 0 (fun _ => true) true Tryz.f3.params.toList args.toList ds p := hA0
  rw [Tryz.params3] at hA hval hsz
  obtain ⟨v0, v1, v2, v3, v4, d0, d1, d2, d3, d4, p0, p1, p2, p3, p4, rfl, rfl, rfl, h0, h1, h2, h3, h4⟩ := trodAll_five hA
  obtain ⟨rfl, rfl⟩ := trodVars_none hV
  have hall := List.all_eq_true.1 hsz
  have w0 : ∀ n ∈ d0.weights Tryz.prog 22, n ≤ reachBytes := fun n hn => by simpa using hall n (DataW.weights_mem_each (j := 0) rfl rfl n hn)
  have w1 : ∀ n ∈ d1.weights Tryz.prog 23, n ≤ reachBytes := fun n hn => by simpa using hall n (DataW.weights_mem_each (j := 1) rfl rfl n hn)
  have w2 : ∀ n ∈ d2.weights Tryz.prog 23, n ≤ reachBytes := fun n hn => by simpa using hall n (DataW.weights_mem_each (j := 2) rfl rfl n hn)
  have w3 : ∀ n ∈ d3.weights Tryz.prog 25, n ≤ reachBytes := fun n hn => by simpa using hall n (DataW.weights_mem_each (j := 3) rfl rfl n hn)
  have w4 : ∀ n ∈ d4.weights Tryz.prog 27, n ≤ reachBytes := fun n hn => by simpa using hall n (DataW.weights_mem_each (j := 4) rfl rfl n hn)
  obtain ⟨a0, k0, x0, rfl, s0⟩ := arg_commits (hval 0 _ v0 rfl rfl) h0 w0
  obtain ⟨a1, k1, x1, rfl, s1⟩ := arg_ids (hval 1 _ v1 rfl rfl) h1 w1
  obtain ⟨a2, k2, x2, rfl, s2⟩ := arg_ids (hval 2 _ v2 rfl rfl) h2 w2
  obtain ⟨x3, rfl⟩ := arg_event (hval 3 _ v3 rfl rfl) h3
  obtain ⟨x4, rfl⟩ := arg_op (hval 4 _ v4 rfl rfl) h4
  clear hA0
  simp only [List.append_nil] at hW'
  have hlt : ∀ x ∈ p0 ++ p1 ++ p2 ++ p3 ++ p4, x.block < W.heap.size := fun x hx => by simpa using hW'.lt x (by simpa using hx)
  refine Calls.mono (Ab.law_fronttells W (fun _ => True) a0 a1 a2 k0 k1 k2 x0 x1 x2 x3 x4 s0 s1 s2) ?_
  rintro e W' ⟨y, he, hbel, _⟩
  subst he
  have hB := hbel.below
  refine ⟨_, rfl, _, _, _, [], _, [], hW', ?_, trodAll_mk5 (Below.trod laid (by kernel_rfl) (of_decide_eq_true (by kernel_rfl)) h0 hB (fun x hx => hlt x (List.mem_append_left _ (List.mem_append_left _ (List.mem_append_left _ (List.mem_append_left _ hx)))))) (Below.trod laid (by kernel_rfl) (of_decide_eq_true (by kernel_rfl)) h1 hB (fun x hx => hlt x (List.mem_append_left _ (List.mem_append_left _ (List.mem_append_left _ (List.mem_append_right _ hx)))))) (Below.trod laid (by kernel_rfl) (of_decide_eq_true (by kernel_rfl)) h2 hB (fun x hx => hlt x (List.mem_append_left _ (List.mem_append_left _ (List.mem_append_right _ hx))))) (Below.trod laid (by kernel_rfl) (of_decide_eq_true (by kernel_rfl)) h3 hB (fun x hx => hlt x (List.mem_append_left _ (List.mem_append_right _ hx)))) (Below.trod laid (by kernel_rfl) (of_decide_eq_true (by kernel_rfl)) h4 hB (fun x hx => hlt x (List.mem_append_right _ hx))), rfl, hB.frame _, fun h => by cases h⟩
  exact trodAll_cons_mk (shut_bool Tryz.underlying4 _) trodAll_mk0

set_option maxRecDepth 100000 in
theorem frontTells_lifted (os : Os) (started : os.Started) (H : Type) (enc : TypeId × Value → H) :
    ReturnsInHanded {} Tryz.checked os 3 .any (Rows.frontTellsSpec.pre6 enc Tryz.prog Tryz.f3 Rows.frontTellsRow.domain false) (Rows.frontTellsSpec.post enc Tryz.prog Tryz.f3 false true false false) := by
  refine returnsInHanded_of_change_sized (C := Tryz.checked) knobs started (by kernel_rfl) Tryz.func3
    (ChangeSpec.witness6 (enc := enc) (C := Tryz.checked) false ⟨#[], #[.slice none 0 0, .slice none 0 0, .slice none 0 0, .agg #[.int .i64 0, .int .i64 0], .agg #[.int .i64 0, .string .empty, .string .empty, .int .i64 0]], []⟩ 8 (by kernel_rfl) (by kernel_rfl) (by kernel_rfl) (by kernel_rfl)) ?_
  intro W base args ds gs before hval hW _ hsz _
  exact frontTells_contract H enc W base args ds gs before hval hW hsz

theorem frontTells_holds : Rows.FrontTellsSaid :=
  OpenClaim.holds_of_wide 3 Tryz.f3 rfl rfl rfl rfl rfl rfl rfl ⟨rfl, rfl, rfl, rfl, rfl⟩ rfl rfl rfl rfl rfl (by kernel_rfl) Tryz.func3 (by kernel_rfl)
    (of_decide_eq_true (by kernel_rfl)) (by unfold Func.isWrapper; first | (rw [if_pos (by decide +kernel)]; kernel_rfl) | (rw [if_neg (by decide +kernel)]; exact ⟨rfl, rfl⟩))
    (fun os started H enc _ => frontTells_lifted os started H enc)
end Go.Proofs.YtglclakhjmogiaaGreat
