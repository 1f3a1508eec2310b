/- The statement GossipGivesSaid: for every input GossipGives returns true and leaves its arguments as they were. -/
import Derived.Test.YtdgeffphifgflaaGreatSg6
namespace Go.Proofs.YtdgeffphifgflaaGreat
namespace Ab
open Go Go.RowKit
set_option linter.unusedVariables false
set_option linter.unusedSimpArgs false
set_option synthInstance.maxSize 4000
set_option synthInstance.maxHeartbeats 400000
attribute [local irreducible] JC JO JR JQ andThen inBlock OpV Gives retTo JM JS
attribute [local irreducible] hashC
theorem part_all {L : List Commit} (hc : Closed L) {A : List ID} (h : ∀ x ∈ cids L, x ∈ A) : partF L A = L := by
  rw [partF, closedB_yes hc, if_pos rfl, List.filter_eq_self]
  intro c hm
  rw [decide_eq_true_eq]
  exact h _ (mem_cids.2 ⟨c, hm, rfl⟩)
set_option maxHeartbeats 8000000 in
theorem law_gives (w : World) (F : Nat → Prop) (y : Na) (b : Option Addr) (k : Nat) (n : Nd) (A : List ID) (h1 : (sl y.d y.dk n.disk).holds F w) (h2 : (sl y.l y.lk n.l).holds F w) (h3 : (sl y.w y.wk n.wait).holds F w) (h4 : (sl y.p y.pk n.peers).holds F w) (h5 : (sl b k A).holds F w) :
    GivesV Tryz.prog 10 [ndV n y, .slice b A.length k] w F (.bool true) := by
  have hdl : n.disk.length < 9223372036854775807 := by have := h1.2.2.1; simp only [lim] at this; omega
  have hpl : n.peers.length < 9223372036854775807 := by have := h4.2.2.1; simp only [lim] at this; omega
  have hst := (Hold.start4 h1 h2 h3 h4).add (A := sl b k A) (Asn.mono _ _ _ _ (fun k hk => ⟨.inl hk, by simp [free, Fact.owns]⟩) h5)
  obtain ⟨no, disk, room, l, wait, seq, up, peers, next, miss⟩ := n
  obtain ⟨ad, kd, al, kl, aw, kw, ap, kp⟩ := y
  dsimp only [ndV, ndC] at *
  refine gives_of Tryz.func10 rfl Tryz.ntmps10 rfl rfl _ hst ?_
  repeat (first|refine Wa ?_|refine Wb ?_|refine Wc ?_|refine Wd ?_|refine We rfl ?_|refine Wf (by exact Vb) rfl ?_|(refine Wh rfl ?_; intro _))
  rename_i b2
  refine JR.callV rfl (fun w1 hw => awake_gossip w1 _) ?_
  repeat (first|refine Wa ?_|refine Wb ?_|refine Wc ?_|refine Wd ?_|refine We rfl ?_|refine Wf (by first|exact Vb|exact Vc) rfl ?_)
  refine JR.callV rfl (fun w1 hw => few_node w1 _ ⟨no, disk, room, l, wait, seq, up, peers, next, miss⟩ ⟨ad, kd, al, kl, aw, kw, ap, kp⟩ (hw.get (A := sl al kl l)) (hw.get (A := sl aw kw wait)) hdl hpl) ?_
  cases hfew : fewNd ⟨no, disk, room, l, wait, seq, up, peers, next, miss⟩ with
  | false =>
    repeat (first|refine Wa ?_|refine Wb ?_|refine Wc ?_|refine Wd ?_|refine We rfl ?_|refine Wf (by first|exact Va|exact Vb|exact Vh|exact Vi|exact Vj) rfl ?_|refine Wj ?_|refine Ws ?_|refine Wt ?_|refine Wv rfl rfl ?_)
    exact CT.done () rfl (fun w ho => ho.ent)
  | true =>
  have hs := fewNd_small hfew
  have hl8 : l.length ≤ 8 := hs.l
  repeat (first|refine Wa ?_|refine Wb ?_|refine Wc ?_|refine Wd ?_|refine We rfl ?_|refine Wf (by first|exact Va|exact Vb|exact Vf|exact Vh|exact Vj|exact Vo) rfl ?_)
  by_cases g1 : A.length > 16
  · refine JO.reslot 26 (.bool true) (by congr 1; exact decide_eq_true (by omega)) ?_
    repeat (first|refine Wa ?_|refine Wb ?_|refine Wc ?_|refine Wd ?_|refine We rfl ?_|refine Wf (by first|exact Va|exact Vb|exact Vi) rfl ?_|refine Wj ?_|refine Ws ?_|refine Wt ?_|refine Wv rfl rfl ?_)
    exact CT.done () rfl (fun w ho => ho.ent)
  refine JO.reslot 26 (.bool false) (by congr 1; exact decide_eq_false (by omega)) ?_
  repeat (first|refine We rfl ?_|refine Wf (by exact Vc) rfl ?_)
  refine JR.callV rfl (fun w1 hw => may_branch w1 _ ⟨no, disk, room, l, wait, seq, up, peers, next, miss⟩ ⟨ad, kd, al, kl, aw, kw, ap, kp⟩ (hw.get (A := sl ad kd disk)) (hw.get (A := sl al kl l)) (hw.get (A := sl aw kw wait)) hs.few.fw) ?_
  cases hm : ndMay ⟨no, disk, room, l, wait, seq, up, peers, next, miss⟩ with
  | false =>
    repeat (first|refine Wa ?_|refine Wb ?_|refine Wc ?_|refine Wd ?_|refine We rfl ?_|refine Wf (by first|exact Va|exact Vb|exact Vh|exact Vi|exact Vj) rfl ?_|refine Wj ?_|refine Ws ?_|refine Wt ?_|refine Wv rfl rfl ?_)
    exact CT.done () rfl (fun w ho => ho.ent)
  | true =>
  cases up with
  | false =>
    repeat (first|refine Wa ?_|refine Wb ?_|refine Wc ?_|refine Wd ?_|refine We rfl ?_|refine Wf (by first|exact Va|exact Vb|exact Vc|exact Vd|exact Vh|exact Vi|exact Vj) rfl ?_|refine Wj ?_|refine Ws ?_|refine Wt ?_|refine Wv rfl rfl ?_)
    exact CT.done () rfl (fun w ho => ho.ent)
  | true =>
  have hc : Closed l := ndMay_closed hm rfl
  repeat (first|refine We rfl ?_|refine Wf (by first|exact Va|exact Vc|exact Vd|exact Vh|exact Vj) rfl ?_)
  refine JR.callV rfl (fun w1 hw => rises_ids w1 _ b k A (hw.get (A := sl b k A))) ?_
  cases hr : rises A with
  | false =>
    repeat (first|refine Wa ?_|refine Wb ?_|refine Wc ?_|refine Wd ?_|refine We rfl ?_|refine Wf (by first|exact Va|exact Vb|exact Vh|exact Vi|exact Vj) rfl ?_|refine Wj ?_|refine Ws ?_|refine Wt ?_|refine Wv rfl rfl ?_)
    exact CT.done () rfl (fun w ho => ho.ent)
  | true =>
  repeat (first|refine We rfl ?_|refine Wf (by first|exact Va|exact Vc|exact Vd|exact Vh|exact Vj) rfl ?_)
  refine JR.callBuf rfl (fun w1 hw => ids_buf w1 _ al kl l (hw.get (A := sl al kl l)) (by omega) hs.few.fl) ?_
  intro p1 q1
  refine JO.more (fun w1 ho => ho.pub) ?_
  repeat (refine We rfl ?_)
  refine JR.callBuf rfl (fun w1 hw => without_ids w1 _ b p1 k q1 A (idsP l) (hw.get (A := sl b k A)) (hw.get (A := sl p1 q1 (idsP l))) (by omega)) ?_
  intro p2 q2
  repeat (first|refine Wa ?_|refine Wd ?_|refine We rfl ?_|refine Wf (by first|exact Vf|exact Vj|exact Vo) rfl ?_)
  refine JC.test (fun g2 => ?_) (fun g2 => ?_)
  · repeat (first|refine Wa ?_|refine Wb ?_|refine Wc ?_|refine Wd ?_|refine We rfl ?_|refine Wf (by first|exact Va|exact Vb) rfl ?_|refine Ws ?_|refine Wt ?_)
    exact CT.done () rfl (fun w ho => ho.ent)
  have hleft : someIds A (idsP l) false = [] := List.eq_nil_of_length_eq_zero (by omega)
  have hmg : mgMay ⟨0, A, []⟩ = true := by
    unfold mgMay
    rw [if_pos (.inl rfl), hr]
    simp; omega
  have e1 : hearN ⟨no, disk, room, l, wait, seq, true, peers, next, miss⟩ ⟨0, A, []⟩ = (⟨no, disk, room, l, wait, seq, true, peers, next, 0⟩, giveM (partF (sortF l) (someIds (idsP l) (ancF l A) false))) := by
    rw [hear_yes hm rfl hmg, if_pos rfl]
    show (_, digestM l A) = _
    rw [digestM, if_pos hleft]
  have hgc := gives_closed hc A 6
  have hPe := part_empty (A := someIds (idsP l) (ancF l A) false) hc
  have hPm : ∀ c ∈ partF (sortF l) (someIds (idsP l) (ancF l A) false), c ∈ l := fun c hcm => ((mem_part_sort hc).1 hcm).1
  have hPl : (partF (sortF l) (someIds (idsP l) (ancF l A) false)).length ≤ 8 := by
    have h6 := partF_le (sortF l) (someIds (idsP l) (ancF l A) false)
    have h7 := sortF_le l
    omega
  generalize hP : partF (sortF l) (someIds (idsP l) (ancF l A) false) = P at hgc hPe hPm hPl
  rw [hP] at e1
  repeat (first|refine Wa ?_|refine Wb ?_|refine Wc ?_|refine We rfl ?_|refine Wf (by first|exact Va|exact Vc) rfl ?_|refine Wl ?_)
  refine Wf (OpV.build [.int .i64 0, .slice b A.length k, .slice none 0 0] (by kernel_rfl)) rfl ?_
  repeat (refine We rfl ?_)
  refine JR.call (v := hearV ⟨no, disk, room, l, wait, seq, true, peers, next, miss⟩ ⟨0, A, []⟩) (B := hearB ⟨no, disk, room, l, wait, seq, true, peers, next, miss⟩ ⟨0, A, []⟩) rfl (fun w1 hw => hear_gossip w1 _ ⟨no, disk, room, l, wait, seq, true, peers, next, miss⟩ ⟨ad, kd, al, kl, aw, kw, ap, kp⟩ ⟨0, A, []⟩ ⟨b, k, none, 0⟩ (hw.get (A := sl ad kd disk)) (hw.get (A := sl al kl l)) (hw.get (A := sl aw kw wait)) (hw.get (A := sl ap kp peers)) (hw.get (A := sl b k A)) sl_nil hs.few (by simp) (by simp) hs.qw (by simp)) ?_
  rintro ⟨⟨c4, r4, c5, r5, c6, r6, c7, r7⟩, ⟨c8, r8, c9, r9⟩⟩
  dsimp only [hearV, hearB]
  rw [e1]
  by_cases hP0 : P = []
  · have e4 : giveM P = (mg0, false) := if_pos hP0
    have hall : partF l (ancF l A) = l := part_all hc (fun x hx => Classical.byContradiction fun hn => hPe.1 hP0 x hx (mem_someF.2 ⟨by rw [idsP_of hc]; exact hx, hn⟩))
    rw [e4]
    dsimp only [mg0, ndV, ndC, mgV, mgC, List.cons_append, List.nil_append, List.length_nil]
    repeat (first|refine Wa ?_|refine Wb ?_|refine Wd ?_|refine We rfl ?_|refine Wf (by first|exact Va|exact Vb|exact Vq) rfl ?_|(refine Wg rfl ?_; intro _)|refine Wi ?_)
    refine JC.drawP mixed ?_
    refine JP.pure 0 rfl (by kernel_rfl) rfl (fun _ => Vd) rfl rfl ?_
    refine JP.take 1 [.own b2 50 [.int .i64 no, .slice ad disk.length kd, .int .i64 room, .slice al l.length kl, .slice aw wait.length kw, .int .i64 seq, .bool true, .slice ap peers.length kp, .int .i64 next, .int .i64 miss]] rfl (by kernel_rfl) rfl Vc rfl rfl ?_
    refine JP.pure 2 rfl (by kernel_rfl) rfl (fun _ => Vd) rfl rfl ?_
    refine JP.take 3 [.own b2 50 [.int .i64 no, .slice ad disk.length kd, .int .i64 room, .slice al l.length kl, .slice aw wait.length kw, .int .i64 seq, .bool true, .slice ap peers.length kp, .int .i64 next, .int .i64 miss]] rfl (by kernel_rfl) rfl Vc rfl rfl ?_
    refine JP.pure 4 rfl (by kernel_rfl) rfl (fun _ => Va) rfl rfl ?_
    refine JP.op 5 (by kernel_rfl) rfl rfl (JR.callSl rfl (fun w1 hw => anc_sl w1 _ al b kl k l A (ancF l A) (hw.get (A := sl al kl l)) (hw.get (A := sl b k A)) (by omega) (by omega) hs.few.fl (ancF_ok l A)) (fun p5 q5 => Wd ⟨rfl, (by repeat (first|exact Obs.nil|refine Obs.keep ?_|refine Obs.skip (by kernel_rfl) ?_)), ?_⟩))
    refine JP.op 6 (by kernel_rfl) rfl rfl (JR.callSl rfl (fun w1 hw => part_dagS w1 _ al p5 kl q5 l (partF l (ancF l A)) (ancF l A) (hw.get (A := sl al kl l)) (hw.get (A := sl p5 q5 (ancF l A))) (by omega) hs.few.fl (partF_ok l (ancF l A))) (fun p6 q6 => Wd ⟨rfl, (by repeat (first|exact Obs.nil|refine Obs.keep ?_|refine Obs.skip (by kernel_rfl) ?_)), ?_⟩))
    refine JP.pure 7 rfl (by kernel_rfl) rfl (fun _ => Vb) rfl rfl ?_
    refine JP.nil (by kernel_rfl) ?_
    rw [hall]
    repeat (first|refine Wa ?_|refine Wb ?_|refine Wc ?_|refine Wd ?_|refine We rfl ?_|refine Wf (by first|exact Va|exact Vb|exact Vc|exact Vd|exact Vf|exact Vh|exact Vl) rfl ?_|refine Wj ?_|refine Ws ?_|refine Wt ?_)
    exact CT.done () (by simp [packed]) (fun w ho => ho.ent)
  · have e4 : giveM P = (⟨2, [], P.take 6⟩, true) := if_neg hP0
    have hpos := List.length_pos_iff.2 hP0
    rw [e4]
    have hT : (P.take 6).length ≤ 6 ∧ 0 < (P.take 6).length := by rw [List.length_take]; omega
    have htm : ∀ c ∈ P.take 6, c ∈ l := fun c hcm => hPm c (List.mem_of_mem_take hcm)
    generalize P.take 6 = T at hT htm hgc
    have hK := partF_le l (ancF l A)
    have hkm : ∀ c ∈ partF l (ancF l A), c ∈ l := fun c hcm => part_sub hcm
    dsimp only [ndV, ndC, mgV, mgC, List.cons_append, List.nil_append, List.length_nil]
    repeat (first|refine Wa ?_|refine Wb ?_|refine Wd ?_|refine We rfl ?_|refine Wf (by first|exact Va|exact Vb|exact Vq) rfl ?_|(refine Wg rfl ?_; intro _)|refine Wi ?_)
    rename_i b7 b8
    refine JC.drawP mixed ?_
    refine JP.pure 0 rfl (by kernel_rfl) rfl (fun _ => Vd) rfl rfl ?_
    refine JP.take 1 [.own b2 50 [.int .i64 no, .slice ad disk.length kd, .int .i64 room, .slice al l.length kl, .slice aw wait.length kw, .int .i64 seq, .bool true, .slice ap peers.length kp, .int .i64 next, .int .i64 miss]] rfl (by kernel_rfl) rfl Vc rfl rfl ?_
    refine JP.pure 2 rfl (by kernel_rfl) rfl (fun _ => Vd) rfl rfl ?_
    refine JP.take 3 [.own b2 50 [.int .i64 no, .slice ad disk.length kd, .int .i64 room, .slice al l.length kl, .slice aw wait.length kw, .int .i64 seq, .bool true, .slice ap peers.length kp, .int .i64 next, .int .i64 miss]] rfl (by kernel_rfl) rfl Vc rfl rfl ?_
    refine JP.pure 4 rfl (by kernel_rfl) rfl (fun _ => Va) rfl rfl ?_
    refine JP.op 5 (by kernel_rfl) rfl rfl (JR.callSl rfl (fun w1 hw => anc_sl w1 _ al b kl k l A (ancF l A) (hw.get (A := sl al kl l)) (hw.get (A := sl b k A)) (by omega) (by omega) hs.few.fl (ancF_ok l A)) (fun p5 q5 => Wd ⟨rfl, (by repeat (first|exact Obs.nil|refine Obs.keep ?_|refine Obs.skip (by kernel_rfl) ?_)), ?_⟩))
    refine JP.op 6 (by kernel_rfl) rfl rfl (JR.callSl rfl (fun w1 hw => part_dagS w1 _ al p5 kl q5 l (partF l (ancF l A)) (ancF l A) (hw.get (A := sl al kl l)) (hw.get (A := sl p5 q5 (ancF l A))) (by omega) hs.few.fl (partF_ok l (ancF l A))) (fun p6 q6 => Wd ⟨rfl, (by repeat (first|exact Obs.nil|refine Obs.keep ?_|refine Obs.skip (by kernel_rfl) ?_)), ?_⟩))
    refine JP.pure 7 rfl (by kernel_rfl) rfl (fun _ => Vb) rfl rfl ?_
    refine JP.nil (by kernel_rfl) ?_
    generalize partF l (ancF l A) = K at hgc hK hkm
    have hcl : Closed (K ++ T) := hgc
    have hkt : ∀ x ∈ K ++ T, fine x := fun x hx => by
      rcases List.mem_append.1 hx with hx | hx
      · exact hs.few.fl x (hkm x hx)
      · exact hs.few.fl x (htm x hx)
    have htf : ∀ x ∈ T, fine x := fun x hx => hs.few.fl x (htm x hx)
    have hwo : someIds (idsP T) (idsP l) false = [] := some_empty.2 fun x hx => by
      rw [idsP_of hc]
      unfold idsP at hx
      split at hx
      · obtain ⟨c, h8, rfl⟩ := mem_cids.1 hx
        exact mem_cids.2 ⟨c, htm c h8, rfl⟩
      · cases hx
    have hfr : 0 < (frontF (K ++ T)).length := List.length_pos_iff.2 fun h => by
      have := (front_nil hcl).1 h
      have h9 := congrArg List.length this
      rw [List.length_append, List.length_nil] at h9
      omega
    repeat (first|refine Wa ?_|refine Wb ?_|refine Wc ?_|refine Wd ?_|refine We rfl ?_|refine Wf (by first|exact Va|exact Vh) rfl ?_|refine Wk ?_|refine Wl ?_)
    refine JC.drawP mixed ?_
    refine JP.pure 0 rfl (by kernel_rfl) rfl (fun _ => Va) rfl rfl ?_
    refine JP.pure 2 rfl (by kernel_rfl) rfl (fun _ => Vd) rfl rfl ?_
    refine JP.take 3 [.own b8 52 [.int .i64 2, .slice c8 0 r8, .slice c9 T.length r9]] rfl (by kernel_rfl) rfl Vc rfl rfl ?_
    refine JP.op 1 (by kernel_rfl) rfl rfl (JR.appendNil (L' := K) rfl (by exact ⟨rfl, rfl, by decide⟩) (by omega) (fun p7 q7 => Wd ⟨rfl, (by repeat (first|exact Obs.nil|refine Obs.keep ?_|refine Obs.skip (by kernel_rfl) ?_)), ?_⟩))
    refine JP.op 4 (by kernel_rfl) rfl rfl (JR.appendSl (L := K) (L' := T) rfl (by exact ⟨rfl, rfl, by decide⟩) (by omega) (fun p8 q8 => Wd ⟨rfl, (by repeat (first|exact Obs.nil|refine Obs.keep ?_|refine Obs.skip (by kernel_rfl) ?_)), ?_⟩))
    refine JP.pure 5 rfl (by kernel_rfl) rfl (fun _ => Vb) rfl rfl ?_
    refine JP.nil (by kernel_rfl) ?_
    refine Wa ?_
    refine JC.more (fun w1 ho => ho.pub) ?_
    repeat (refine Wb ?_)
    refine JC.drawP mixed ?_
    refine JP.pure 0 rfl (by kernel_rfl) rfl (fun _ => Vd) rfl rfl ?_
    refine JP.take 1 [.own b8 52 [.int .i64 2, .slice c8 0 r8, .slice c9 T.length r9]] rfl (by kernel_rfl) rfl Vc rfl rfl ?_
    refine JP.pure 2 rfl (by kernel_rfl) rfl (fun _ => Vl) rfl rfl ?_
    refine JP.pure 3 rfl (by kernel_rfl) rfl (fun _ => Va) rfl rfl ?_
    refine JP.pure 4 rfl (by kernel_rfl) rfl (fun _ => Vd) rfl rfl ?_
    refine JP.take 5 [.own b8 52 [.int .i64 2, .slice c8 0 r8, .slice c9 T.length r9]] rfl (by kernel_rfl) rfl Vc rfl rfl ?_
    refine JP.pure 6 rfl (by kernel_rfl) rfl (fun _ => Vf) rfl rfl ?_
    refine JP.pure 7 rfl (by kernel_rfl) rfl (fun _ => Vo) rfl rfl ?_
    refine JP.pure 8 rfl (by kernel_rfl) rfl (fun _ => (by first | exact Vi | exact Vj)) rfl rfl ?_
    refine JP.pure 9 rfl (by kernel_rfl) rfl (fun _ => Va) rfl rfl ?_
    refine JP.reslot 88 (.bool true) (by congr 1; exact decide_eq_true (by omega)) ?_
    refine JP.pure 10 rfl (by kernel_rfl) rfl (fun _ => Va) rfl rfl ?_
    refine JP.op 11 (by kernel_rfl) rfl rfl (JR.callV rfl (fun w1 hw => closed_yes w1 _ p8 q8 (K ++ T) (hw.get (A := sl p8 q8 (K ++ T))) (by rw [List.length_append]; omega) hkt hcl) (Wd ⟨rfl, (by repeat (first|exact Obs.nil|refine Obs.keep ?_|refine Obs.skip (by kernel_rfl) ?_)), ?_⟩))
    refine JP.pure 12 rfl (by kernel_rfl) rfl (fun _ => (by first | exact Vi | exact Vj)) rfl rfl ?_
    refine JP.pure 13 rfl (by kernel_rfl) rfl (fun _ => Va) rfl rfl ?_
    refine JP.pure 14 rfl (by kernel_rfl) rfl (fun _ => Vd) rfl rfl ?_
    refine JP.take 15 [.own b8 52 [.int .i64 2, .slice c8 0 r8, .slice c9 T.length r9]] rfl (by kernel_rfl) rfl Vc rfl rfl ?_
    refine JP.pure 17 rfl (by kernel_rfl) rfl (fun _ => Vd) rfl rfl ?_
    refine JP.take 18 [.own b2 50 [.int .i64 no, .slice ad disk.length kd, .int .i64 room, .slice al l.length kl, .slice aw wait.length kw, .int .i64 seq, .bool true, .slice ap peers.length kp, .int .i64 next, .int .i64 miss]] rfl (by kernel_rfl) rfl Vc rfl rfl ?_
    refine JP.op 16 (by kernel_rfl) rfl rfl (JR.callBuf rfl (fun w1 hw => ids_buf w1 _ c9 r9 T (hw.get (A := sl c9 r9 T)) (by omega) htf) (fun i1 j1 => Wd ⟨rfl, (by repeat (first|exact Obs.nil|refine Obs.keep ?_|refine Obs.skip (by kernel_rfl) ?_)), ?_⟩))
    refine JP.more (fun w1 ho => ho.pub) ?_
    refine JP.op 19 (by kernel_rfl) rfl rfl (JR.callBuf rfl (fun w1 hw => ids_buf w1 _ al kl l (hw.get (A := sl al kl l)) (by omega) hs.few.fl) (fun i2 j2 => Wd ⟨rfl, (by repeat (first|exact Obs.nil|refine Obs.keep ?_|refine Obs.skip (by kernel_rfl) ?_)), ?_⟩))
    refine JP.more (fun w1 ho => ho.pub) ?_
    refine JP.op 20 (by kernel_rfl) rfl rfl (JR.callBuf rfl (fun w1 hw => without_ids w1 _ i1 i2 j1 j2 (idsP T) (idsP l) (hw.get (A := sl i1 j1 (idsP T))) (hw.get (A := sl i2 j2 (idsP l))) (by have := idsP_le T; omega)) (fun i3 j3 => Wd ⟨rfl, (by repeat (first|exact Obs.nil|refine Obs.keep ?_|refine Obs.skip (by kernel_rfl) ?_)), ?_⟩))
    rw [hwo]
    refine JP.pure 21 rfl (by kernel_rfl) rfl (fun _ => Vf) rfl rfl ?_
    refine JP.pure 22 rfl (by kernel_rfl) rfl (fun _ => Vl) rfl rfl ?_
    refine JP.pure 23 rfl (by kernel_rfl) rfl (fun _ => (by first | exact Vi | exact Vj)) rfl rfl ?_
    refine JP.pure 24 rfl (by kernel_rfl) rfl (fun _ => Va) rfl rfl ?_
    refine JP.reslot 103 (.bool true) rfl ?_
    refine JP.pure 25 rfl (by kernel_rfl) rfl (fun _ => Va) rfl rfl ?_
    refine JP.op 26 (by kernel_rfl) rfl rfl (JR.callSl rfl (fun w1 hw => front_front w1 _ p8 q8 (K ++ T) (hw.get (A := sl p8 q8 (K ++ T))) (by rw [List.length_append]; omega) hkt) (fun i4 j4 => Wd ⟨rfl, (by repeat (first|exact Obs.nil|refine Obs.keep ?_|refine Obs.skip (by kernel_rfl) ?_)), ?_⟩))
    refine JP.pure 27 rfl (by kernel_rfl) rfl (fun _ => Vf) rfl rfl ?_
    refine JP.pure 28 rfl (by kernel_rfl) rfl (fun _ => Vo) rfl rfl ?_
    refine JP.pure 29 rfl (by kernel_rfl) rfl (fun _ => (by first | exact Vi | exact Vj)) rfl rfl ?_
    refine JP.reslot 108 (.bool true) (by congr 1; exact decide_eq_true (by omega)) ?_
    refine JP.pure 30 rfl (by kernel_rfl) rfl (fun _ => Vb) rfl rfl ?_
    refine JP.nil (by kernel_rfl) ?_
    repeat (first|refine Wa ?_|refine Ws ?_)
    exact CT.done () rfl (fun w ho => ho.ent)
end Ab
end Go.Proofs.YtdgeffphifgflaaGreat
namespace Go.Proofs.YtdgeffphifgflaaGreat
open Go Go.ChangeShapes Go.WideShapes Go.ChangeAt Go.RowKit
set_option linter.unusedVariables false
set_option maxRecDepth 100000 in
theorem gossipGives_contract (H : Type) (enc : TypeId × Value → H) (W : World) (base : Nat) (args : Array Value) (ds gs : List (DataW H)) (before : List MemPlace)
    (hval : ∀ (j : Nat) t v, Tryz.f10.params[j]? = some t → args[j]? = some v → Value.okWide Tryz.prog W .any base t v)
    (hW : DataW.Whole enc Tryz.prog Tryz.f10.params.toList Rows.gossipGivesSpec.vars false W args.toList ds gs before)
    (hsz : (DataW.weightsEach Tryz.prog (Tryz.f10.params.toList ++ Rows.gossipGivesSpec.plain.varTypes Tryz.prog) (ds ++ gs)).all (· ≤ reachBytes) = true) :
    Calls Tryz.prog 10 args W fun e W' => ∃ v, e = .returned v ∧ Rows.gossipGivesSpec.post enc Tryz.prog Tryz.f10 false true false false W args v W' := by
  have hW' := hW
  obtain ⟨p, q, hA0, hV, rfl, _, _⟩ := hW
  have hA : DataW.TrodAll enc Tryz.prog W 0 (fun _ => true) true Tryz.f10.params.toList args.toList ds p := hA0
  rw [Tryz.params10] at hA hval hsz
  obtain ⟨v0, v1, d0, d1, p0, p1, rfl, rfl, rfl, h0, h1⟩ := trodAll_two hA
  obtain ⟨rfl, rfl⟩ := trodVars_none hV
  have hall := List.all_eq_true.1 hsz
  have w0 : ∀ n ∈ d0.weights Tryz.prog 50, n ≤ reachBytes := fun n hn => by simpa using hall n (DataW.weights_mem_each (j := 0) rfl rfl n hn)
  have w1 : ∀ n ∈ d1.weights Tryz.prog 25, n ≤ reachBytes := fun n hn => by simpa using hall n (DataW.weights_mem_each (j := 1) rfl rfl n hn)
  obtain ⟨y0, x0, rfl, s0a, s0b, s0c, s0d⟩ := arg_node (hval 0 _ v0 rfl rfl) h0 w0
  obtain ⟨a1, k1, x1, rfl, s1⟩ := arg_ids (hval 1 _ v1 rfl rfl) h1 w1
  clear hA0
  simp only [List.append_nil] at hW'
  have hlt : ∀ x ∈ p0 ++ p1, x.block < W.heap.size := fun x hx => by simpa using hW'.lt x (by simpa using hx)
  refine Calls.mono (Ab.law_gives W (fun _ => True) y0 a1 k1 x0 x1 s0a s0b s0c s0d s1) ?_
  rintro e W' ⟨y, he, hbel, _⟩
  subst he
  have hB := hbel.below
  refine ⟨_, rfl, _, _, _, [], _, [], hW', ?_, trodAll_mk2 (Below.trod laid (by kernel_rfl) (of_decide_eq_true (by kernel_rfl)) h0 hB (fun x hx => hlt x (List.mem_append_left _ hx))) (Below.trod laid (by kernel_rfl) (of_decide_eq_true (by kernel_rfl)) h1 hB (fun x hx => hlt x (List.mem_append_right _ hx))), rfl, hB.frame _, fun h => by cases h⟩
  exact trodAll_cons_mk (shut_bool Tryz.underlying4 _) trodAll_mk0
set_option maxRecDepth 100000 in
theorem gossipGives_lifted (os : Os) (started : os.Started) (H : Type) (enc : TypeId × Value → H) :
    ReturnsInHanded {} Tryz.checked os 10 .any (Rows.gossipGivesSpec.pre6 enc Tryz.prog Tryz.f10 Rows.gossipGivesRow.domain false) (Rows.gossipGivesSpec.post enc Tryz.prog Tryz.f10 false true false false) := by
  refine returnsInHanded_of_change_sized (C := Tryz.checked) knobs started (by kernel_rfl) Tryz.func10
    (ChangeSpec.witness6 (enc := enc) (C := Tryz.checked) false ⟨#[], #[.agg #[.int .i64 0, .slice none 0 0, .int .i64 0, .slice none 0 0, .slice none 0 0, .int .i64 0, .bool false, .slice none 0 0, .int .i64 0, .int .i64 0], .slice none 0 0], []⟩ 8 (by kernel_rfl) (by kernel_rfl) (by kernel_rfl) (by kernel_rfl)) ?_
  intro W base args ds gs before hval hW _ hsz _
  exact gossipGives_contract H enc W base args ds gs before hval hW hsz
theorem gossipGives_holds : Rows.GossipGivesSaid :=
  OpenClaim.holds_of_wide 10 Tryz.f10 rfl rfl rfl rfl rfl rfl rfl ⟨rfl, rfl, rfl, rfl, rfl⟩ rfl rfl rfl rfl rfl (by kernel_rfl) Tryz.func10 (by kernel_rfl)
    (of_decide_eq_true (by kernel_rfl)) (by unfold Func.isWrapper; first | (rw [if_pos (by decide +kernel)]; kernel_rfl) | (rw [if_neg (by decide +kernel)]; exact ⟨rfl, rfl⟩))
    (fun os started H enc _ => gossipGives_lifted os started H enc)
end Go.Proofs.YtdgeffphifgflaaGreat
