/- The statement GossipWaitsSaid: for every input GossipWaits returns true and leaves its arguments as they were. -/
import Derived.Test.YtdgeffphifgflaaGreatSg6
namespace Go.Proofs.YtdgeffphifgflaaGreat
namespace Ab
open Go Go.RowKit
set_option linter.unusedVariables false
set_option linter.unusedSimpArgs false
set_option synthInstance.maxSize 4000
set_option synthInstance.maxHeartbeats 400000
attribute [local irreducible] JC JO JR JQ andThen inBlock OpV Gives retTo JM JS
attribute [local irreducible] hashC
noncomputable abbrev tickV (n : Nd) (now : Int) (x : UInt32) (q : Na × Ma) : Value := .tuple ⟨[ndV (tickW n now x).1 q.1, .int .i64 (tickW n now x).2.1, mgV (tickW n now x).2.2.1 q.2, .bool (tickW n now x).2.2.2.1, w32 (tickW n now x).2.2.2.2]⟩
noncomputable abbrev tickB (n : Nd) (now : Int) (x : UInt32) (q : Na × Ma) : List Fact := [.st (sl q.1.d q.1.dk (tickW n now x).1.disk), .st (sl q.1.l q.1.lk (tickW n now x).1.l), .st (sl q.1.w q.1.wk (tickW n now x).1.wait), .st (sl q.1.p q.1.pk (tickW n now x).1.peers), .st (sl q.2.i q.2.ik (tickW n now x).2.2.1.ids), .st (sl q.2.c q.2.ck (tickW n now x).2.2.1.commits)]
theorem tick_yes {n : Nd} {now : Int} {x : UInt32} (h1 : ndMay n = true) (h2 : n.up = true) (h3 : n.next ≤ now) (h4 : n.peers ≠ []) :
    tickW n now x = ({ n with next := now + waitX n.miss, miss := IntKind.i64.wrap (min n.miss 5 + 1) }, n.peers.getD ((nextX x).toNat % n.peers.length) 0, ⟨0, frontF n.l, []⟩, true, nextX x) := by
  have h5 : tellN n = (⟨0, frontF n.l, []⟩, 0) := by unfold tellN; rw [h1, h2]; rfl
  unfold tickW
  rw [h5, if_pos ⟨rfl, h3, h4⟩]
theorem getD_mem {L : List Int} (h : L ≠ []) (k : Nat) : L.getD (k % L.length) 0 ∈ L := by
  have h0 := List.length_pos_iff.2 h
  have hlt : k % L.length < L.length := Nat.mod_lt _ h0
  rw [List.getD_eq_getElem?_getD, List.getElem?_eq_getElem hlt]
  exact List.getElem_mem hlt
set_option maxHeartbeats 8000000 in
theorem law_waits (w : World) (F : Nat → Prop) (y : Na) (n : Nd) (now : Int) (x : UInt32) (h1 : (sl y.d y.dk n.disk).holds F w) (h2 : (sl y.l y.lk n.l).holds F w) (h3 : (sl y.w y.wk n.wait).holds F w) (h4 : (sl y.p y.pk n.peers).holds F w) :
    GivesV Tryz.prog 8 [ndV n y, .int .i64 now, .int .u32 (x.toNat : Int)] w F (.bool true) := by
  have hdl : n.disk.length < 9223372036854775807 := by have := h1.2.2.1; simp only [lim] at this; omega
  have hpl : n.peers.length < 9223372036854775807 := by have := h4.2.2.1; simp only [lim] at this; omega
  obtain ⟨no, disk, room, l, wait, seq, up, peers, next, miss⟩ := n
  obtain ⟨ad, kd, al, kl, aw, kw, ap, kp⟩ := y
  dsimp only [ndV, ndC] at *
  refine gives_of Tryz.func8 rfl Tryz.ntmps8 rfl rfl [.st (sl ad kd disk), .st (sl al kl l), .st (sl aw kw wait), .st (sl ap kp peers)] (.start4 h1 h2 h3 h4) ?_
  repeat (first|refine Wa ?_|refine Wb ?_|refine Wc ?_|refine Wd ?_|refine We rfl ?_|refine Wf (by exact Vb) rfl ?_|(refine Wh rfl ?_; intro _))
  refine JR.callV rfl (fun w1 hw => awake_gossip w1 _) ?_
  repeat (first|refine Wa ?_|refine Wb ?_|refine Wc ?_|refine Wd ?_|refine We rfl ?_|refine Wf (by first|exact Vb|exact Vc) rfl ?_)
  refine JR.callV rfl (fun w1 hw => few_node w1 _ ⟨no, disk, room, l, wait, seq, up, peers, next, miss⟩ ⟨ad, kd, al, kl, aw, kw, ap, kp⟩ (hw.get (A := sl al kl l)) (hw.get (A := sl aw kw wait)) hdl hpl) ?_
  cases hfew : fewNd ⟨no, disk, room, l, wait, seq, up, peers, next, miss⟩ with
  | false =>
    repeat (first|refine Wa ?_|refine Wb ?_|refine Wc ?_|refine Wd ?_|refine We rfl ?_|refine Wf (by first|exact Va|exact Vb|exact Vh|exact Vi|exact Vj) rfl ?_|refine Wj ?_|refine Ws ?_|refine Wt ?_|refine Wv rfl rfl ?_)
    exact CT.done () rfl (fun w ho => ho.ent)
  | true =>
  have hs := fewNd_small hfew
  repeat (first|refine Wa ?_|refine Wb ?_|refine Wc ?_|refine Wd ?_|refine We rfl ?_|refine Wf (by first|exact Va|exact Vb|exact Vc|exact Vh|exact Vj) rfl ?_)
  refine JR.callV rfl (fun w1 hw => may_branch w1 _ ⟨no, disk, room, l, wait, seq, up, peers, next, miss⟩ ⟨ad, kd, al, kl, aw, kw, ap, kp⟩ (hw.get (A := sl ad kd disk)) (hw.get (A := sl al kl l)) (hw.get (A := sl aw kw wait)) hs.few.fw) ?_
  cases hm : ndMay ⟨no, disk, room, l, wait, seq, up, peers, next, miss⟩ with
  | false =>
    repeat (first|refine Wa ?_|refine Wb ?_|refine Wc ?_|refine Wd ?_|refine We rfl ?_|refine Wf (by first|exact Va|exact Vb|exact Vh|exact Vi|exact Vj) rfl ?_|refine Wj ?_|refine Ws ?_|refine Wt ?_|refine Wv rfl rfl ?_)
    exact CT.done () rfl (fun w ho => ho.ent)
  | true =>
  repeat (first|refine We rfl ?_|refine Wf (by first|exact Va|exact Vg|exact Vh|exact Vj) rfl ?_)
  by_cases g1 : now < 0
  · refine JO.reslot 41 (.bool true) (by congr 1; exact decide_eq_true g1) ?_
    repeat (first|refine Wa ?_|refine Wb ?_|refine Wc ?_|refine Wd ?_|refine We rfl ?_|refine Wf (by first|exact Va|exact Vb|exact Vi) rfl ?_|refine Wj ?_|refine Ws ?_|refine Wt ?_|refine Wv rfl rfl ?_)
    exact CT.done () rfl (fun w ho => ho.ent)
  refine JO.reslot 41 (.bool false) (by congr 1; exact decide_eq_false g1) ?_
  repeat (first|refine We rfl ?_|refine Wf (by first|exact Va|exact Vj|exact Vo) rfl ?_)
  by_cases g2 : now > 1099511627776
  · refine JO.reslot 45 (.bool true) (by congr 1; exact decide_eq_true g2) ?_
    repeat (first|refine Wa ?_|refine Wb ?_|refine Wc ?_|refine Wd ?_|refine We rfl ?_|refine Wf (by first|exact Va|exact Vb|exact Vi) rfl ?_|refine Wj ?_|refine Ws ?_|refine Wt ?_|refine Wv rfl rfl ?_)
    exact CT.done () rfl (fun w ho => ho.ent)
  refine JO.reslot 45 (.bool false) (by congr 1; exact decide_eq_false g2) ?_
  repeat (first|refine We rfl ?_|refine Wf (by first|exact Va|exact Vc|exact Vd|exact Vg|exact Vj) rfl ?_)
  by_cases g3 : miss < 0
  · refine JO.reslot 50 (.bool true) (by congr 1; exact decide_eq_true g3) ?_
    repeat (first|refine Wa ?_|refine Wb ?_|refine Wc ?_|refine Wd ?_|refine We rfl ?_|refine Wf (by first|exact Va|exact Vb|exact Vi) rfl ?_|refine Wj ?_|refine Ws ?_|refine Wt ?_|refine Wv rfl rfl ?_)
    exact CT.done () rfl (fun w ho => ho.ent)
  refine JO.reslot 50 (.bool false) (by congr 1; exact decide_eq_false g3) ?_
  repeat (first|refine Wa ?_|refine Wd ?_|refine We rfl ?_|refine Wf (by first|exact Vc|exact Vd|exact Vj|exact Vo) rfl ?_)
  refine JC.test (fun g4 => ?_) (fun g4 => ?_)
  · repeat (first|refine Wa ?_|refine Wb ?_|refine Wc ?_|refine Wd ?_|refine We rfl ?_|refine Wf (by first|exact Va|exact Vb) rfl ?_|refine Ws ?_|refine Wt ?_)
    exact CT.done () rfl (fun w ho => ho.ent)
  repeat (first|refine Wa ?_|refine Wb ?_|refine Wc ?_|refine We rfl ?_|refine Wf (by first|exact Va|exact Vc) rfl ?_|refine Wl ?_)
  refine JR.call (v := tickV ⟨no, disk, room, l, wait, seq, up, peers, next, miss⟩ now x) (B := tickB ⟨no, disk, room, l, wait, seq, up, peers, next, miss⟩ now x) rfl (fun w1 hw => tick_gossip w1 _ ⟨no, disk, room, l, wait, seq, up, peers, next, miss⟩ ⟨ad, kd, al, kl, aw, kw, ap, kp⟩ now x (hw.get (A := sl ad kd disk)) (hw.get (A := sl al kl l)) (hw.get (A := sl aw kw wait)) (hw.get (A := sl ap kp peers)) hs.few (by omega)) ?_
  rintro ⟨⟨a4, k4, a5, k5, a6, k6, a7, k7⟩, ⟨a8, k8, a9, k9⟩⟩
  dsimp only [tickV, tickB]
  by_cases hcond : up = true ∧ next ≤ now ∧ peers ≠ []
  case neg =>
    have e1 : tickW ⟨no, disk, room, l, wait, seq, up, peers, next, miss⟩ now x = (⟨no, disk, room, l, wait, seq, up, peers, next, miss⟩, 0, mg0, false, x) := tick_not (by
      rintro ⟨h, h5, h6⟩
      refine hcond ⟨?_, h5, h6⟩
      cases hup : up with
      | true => rfl
      | false =>
        subst hup
        unfold tellN at h
        rw [hm] at h
        cases h)
    rw [e1]
    dsimp only [mg0, ndV, ndC, mgV, mgC, List.cons_append, List.nil_append, List.length_nil]
    repeat (first|refine Wa ?_|refine Wb ?_|refine Wc ?_|refine Wd ?_|refine We rfl ?_|refine Wf (by first|exact Va|exact Vb|exact Vc|exact Vh|exact Vq) rfl ?_|(refine Wg rfl ?_; intro _)|refine Wi ?_|refine Wj ?_)
    refine JR.callV rfl (fun w1 hw => same_node w1 _ ⟨no, disk, room, l, wait, seq, up, peers, next, miss⟩ ⟨a4, k4, a5, k5, a6, k6, a7, k7⟩ ⟨ad, kd, al, kl, aw, kw, ap, kp⟩ (hw.get (A := sl a4 k4 disk)) (hw.get (A := sl a5 k5 l)) (hw.get (A := sl a6 k6 wait)) (hw.get (A := sl a7 k7 peers)) (hw.get (A := sl ad kd disk)) (hw.get (A := sl al kl l)) (hw.get (A := sl aw kw wait)) (hw.get (A := sl ap kp peers))) ?_
    cases up with
    | false =>
      repeat (first|refine Wa ?_|refine Wb ?_|refine Wc ?_|refine Wd ?_|refine We rfl ?_|refine Wf (by first|exact Va|exact Vb|exact Vc|exact Vd|exact Vh|exact Vi) rfl ?_|refine Ws ?_|refine Wt ?_|refine Wv rfl rfl ?_)
      exact CT.done () rfl (fun w ho => ho.ent)
    | true =>
    repeat (first|refine Wa ?_|refine Wb ?_|refine Wc ?_|refine Wd ?_|refine We rfl ?_|refine Wf (by first|exact Va|exact Vb|exact Vc|exact Vd|exact Vg|exact Vh|exact Vj) rfl ?_)
    by_cases g5 : now < next
    · refine JO.reslot 82 (.bool true) (by congr 1; exact decide_eq_true g5) ?_
      repeat (first|refine Wa ?_|refine Wd ?_|refine We rfl ?_|refine Wf (by first|exact Vb|exact Vi) rfl ?_|refine Ws ?_|refine Wt ?_|refine Wv rfl rfl ?_)
      exact CT.done () rfl (fun w ho => ho.ent)
    · have g6 : peers = [] := Classical.byContradiction fun h => hcond ⟨rfl, by omega, h⟩
      subst g6
      refine JO.reslot 82 (.bool false) (by congr 1; exact decide_eq_false g5) ?_
      repeat (first|refine Wa ?_|refine Wd ?_|refine We rfl ?_|refine Wf (by first|exact Vb|exact Vc|exact Vd|exact Vf|exact Vi|exact Vj|exact Vl) rfl ?_|refine Ws ?_|refine Wt ?_)
      exact CT.done () rfl (fun w ho => ho.ent)
  obtain ⟨rfl, hnx, hpn⟩ := hcond
  have e1 := tick_yes (x := x) hm rfl hnx hpn
  dsimp only at e1
  have hc : Closed l := ndMay_closed hm rfl
  have hwx := waitX_in miss
  have hwr : IntKind.i64.wrap (min miss 5 + 1) = min miss 5 + 1 := wrap_in (by omega)
  rw [hwr] at e1
  rw [e1]
  have hmem := getD_mem hpn (nextX x).toNat
  generalize hp : peers.getD ((nextX x).toNat % peers.length) 0 = p at hmem
  dsimp only [ndV, ndC, mgV, mgC, List.cons_append, List.nil_append, List.length_nil]
  repeat (first|refine Wa ?_|refine Wb ?_|refine Wc ?_|refine Wd ?_|refine We rfl ?_|refine Wf (by first|exact Va|exact Vb|exact Vh|exact Vq) rfl ?_|(refine Wg rfl ?_; intro _)|refine Wi ?_|refine Wk ?_|refine Wl ?_|refine Wn ?_)
  rename_i b3 b9 b11
  refine JC.reslot 15 (.bool (decide (p ∈ peers.take 0))) (by simp) ?_
  refine JC.loop1 (fun (k : Nat) => [(1, .int .i64 now), (2, .int .u32 (x.toNat : Int)), (3, .pointer (some ⟨b3, 0, none⟩)), (9, .pointer (some ⟨b9, 0, none⟩)), (10, .int .i64 p), (11, .pointer (some ⟨b11, 0, none⟩)), (15, .bool (decide (p ∈ peers.take k))), (16, .int .i64 (k : Int))])
    (fun _ => [.own b11 52 [.int .i64 0, .slice a8 (frontF l).length k8, .slice a9 0 k9], .own b9 50 [.int .i64 no, .slice a4 disk.length k4, .int .i64 room, .slice a5 l.length k5, .slice a6 wait.length k6, .int .i64 seq, .bool true, .slice a7 peers.length k7, .int .i64 (now + waitX miss), .int .i64 (min miss 5 + 1)],
      .st (sl a4 k4 disk), .st (sl a5 k5 l), .st (sl a6 k6 wait), .st (sl a7 k7 peers), .st (sl a8 k8 (frontF l)), .st (sl a9 k9 ([] : List Commit)), .own b3 50 [.int .i64 no, .slice ad disk.length kd, .int .i64 room, .slice al l.length kl, .slice aw wait.length kw, .int .i64 seq, .bool true, .slice ap peers.length kp, .int .i64 next, .int .i64 miss], .st (sl ap kp peers)])
    (fun k => k ≤ peers.length) (fun k => peers.length - k) 0 (Nat.zero_le _) inferInstance ?_
  intro k hk
  repeat (first|refine Wa ?_|refine Wb ?_|refine Wc ?_|refine Wd ?_|refine We rfl ?_|refine Wf (by first|exact Va|exact Vc|exact Vd|exact Vf|exact Vg) rfl ?_)
  refine JC.test (fun hlt => ?_) (fun hge => ?_)
  · have hlt' : k < peers.length := by omega
    have htk : p ∈ peers.take (k + 1) ↔ p ∈ peers.take k ∨ p = peers[k] := by
      rw [List.take_succ_eq_append_getElem hlt', List.mem_append, List.mem_singleton]
    repeat (first|refine Wa ?_|refine Wb ?_|refine Wc ?_|refine We rfl ?_|refine Wf (by exact Va) rfl ?_|refine Wl ?_|refine Wn ?_)
    by_cases hin : p ∈ peers.take k
    · refine JO.reslot 97 (.bool true) (by rw [decide_eq_true hin]) ?_
      repeat (first|refine Wa ?_|refine Wc ?_|refine Wd ?_|refine We rfl ?_|refine Wf (by first|exact Va|exact Vb|exact Vi|exact Vk (by omega)) rfl ?_|refine Wr ?_|refine Wv rfl rfl ?_)
      exact ⟨k + 1, by omega, by omega, by rw [decide_eq_true (htk.2 (.inl hin))]; infer_instance⟩
    · refine JO.reslot 97 (.bool false) (by rw [decide_eq_false hin]) ?_
      repeat (first|refine We rfl ?_|refine Wf (by first|exact Va|exact Vc|exact Vd) rfl ?_)
      refine JR.indexInt (k := k) rfl hlt' ?_
      intro b5 o5
      repeat (first|refine Wa ?_|refine Wc ?_|refine Wd ?_|refine We rfl ?_|refine Wf (by first|exact Va|exact Vb|exact Vc|exact Vj|exact Vk (by omega)|exact Vl) rfl ?_|refine Wr ?_)
      have e5 : decide (p ∈ peers.take (k + 1)) = decide (peers[k] = p) := decide_eq_decide.2 (htk.trans ⟨fun h => (h.resolve_left hin).symm, fun h => .inr h.symm⟩)
      exact ⟨k + 1, by omega, by omega, by rw [e5]; infer_instance⟩
  · obtain rfl : k = peers.length := by omega
    rw [List.take_length, decide_eq_true hmem]
    repeat (first|refine Wa ?_|refine Wb ?_|refine Wc ?_|refine Wd ?_|refine We rfl ?_|refine Wf (by first|exact Va|exact Vb|exact Vc|exact Vd|exact Vv (by omega)) rfl ?_|refine Wm ?_|refine Wo ?_|refine Wp ?_)
    have e2 : tickW ⟨no, disk, room, l, wait, seq, true, peers, now + waitX miss, min miss 5 + 1⟩ (now + waitX miss - 1) x = (⟨no, disk, room, l, wait, seq, true, peers, now + waitX miss, min miss 5 + 1⟩, 0, mg0, false, x) := tick_not (by rintro ⟨_, h, _⟩; dsimp only at h; omega)
    refine JR.call (v := tickV ⟨no, disk, room, l, wait, seq, true, peers, now + waitX miss, min miss 5 + 1⟩ (now + waitX miss - 1) x) (B := tickB ⟨no, disk, room, l, wait, seq, true, peers, now + waitX miss, min miss 5 + 1⟩ (now + waitX miss - 1) x) rfl (fun w1 hw => tick_gossip w1 _ ⟨no, disk, room, l, wait, seq, true, peers, now + waitX miss, min miss 5 + 1⟩ ⟨a4, k4, a5, k5, a6, k6, a7, k7⟩ (now + waitX miss - 1) x (hw.get (A := sl a4 k4 disk)) (hw.get (A := sl a5 k5 l)) (hw.get (A := sl a6 k6 wait)) (hw.get (A := sl a7 k7 peers)) ⟨hs.few.fl, hs.few.fw, hs.few.disk, hs.few.len, hs.few.peers⟩ (by omega)) ?_
    rintro ⟨⟨c4, r4, c5, r5, c6, r6, c7, r7⟩, ⟨c8, r8, c9, r9⟩⟩
    dsimp only [tickV, tickB]
    rw [e2]
    dsimp only [mg0, ndV, ndC, mgV, mgC, List.cons_append, List.nil_append, List.length_nil]
    repeat (first|refine Wa ?_|refine Wb ?_|refine Wc ?_|refine Wd ?_|refine We rfl ?_|refine Wf (by first|exact Va|exact Vb|exact Vc|exact Vq) rfl ?_|(refine Wg rfl ?_; intro _)|refine Wi ?_)
    refine JR.callV rfl (fun w1 hw => may_msg w1 _ ⟨0, frontF l, []⟩ ⟨a8, k8, a9, k9⟩ (hw.get (A := sl a8 k8 (frontF l))) (hw.get (A := sl a9 k9 ([] : List Commit))) (by simp)) ?_
    refine JO.reslot 125 (.bool true) (by rw [mgMay_front hc]) ?_
    repeat (first|refine We rfl ?_|refine Wf (by first|exact Va|exact Vc|exact Vd|exact Vi|exact Vl|exact Vp) rfl ?_)
    refine JO.reslot 136 (.bool true) (by congr 1; exact decide_eq_true (by omega)) ?_
    repeat (first|refine We rfl ?_|refine Wf (by first|exact Va|exact Vi|exact Vn) rfl ?_)
    refine JO.reslot 140 (.bool true) (by congr 1; exact decide_eq_true (by omega)) ?_
    repeat (first|refine We rfl ?_|refine Wf (by first|exact Va|exact Vc|exact Vd|exact Vi|exact Vp) rfl ?_)
    refine JO.reslot 147 (.bool true) (by congr 1; exact decide_eq_true (by omega)) ?_
    repeat (first|refine We rfl ?_|refine Wf (by first|exact Va|exact Vc|exact Vd|exact Vi|exact Vn) rfl ?_)
    refine JO.reslot 152 (.bool true) (by congr 1; exact decide_eq_true (by omega)) ?_
    repeat (first|refine Wa ?_|refine Wd ?_|refine We rfl ?_|refine Wf (by first|exact Va|exact Vb|exact Vh|exact Vi) rfl ?_|refine Ws ?_)
    exact CT.done () rfl (fun w ho => ho.ent)
end Ab
end Go.Proofs.YtdgeffphifgflaaGreat
namespace Go.Proofs.YtdgeffphifgflaaGreat
open Go Go.ChangeShapes Go.WideShapes Go.ChangeAt Go.RowKit
set_option linter.unusedVariables false
set_option maxRecDepth 100000 in
theorem gossipWaits_contract (H : Type) (enc : TypeId × Value → H) (W : World) (base : Nat) (args : Array Value) (ds gs : List (DataW H)) (before : List MemPlace)
    (hval : ∀ (j : Nat) t v, Tryz.f8.params[j]? = some t → args[j]? = some v → Value.okWide Tryz.prog W .any base t v)
    (hW : DataW.Whole enc Tryz.prog Tryz.f8.params.toList Rows.gossipWaitsSpec.vars false W args.toList ds gs before)
    (hsz : (DataW.weightsEach Tryz.prog (Tryz.f8.params.toList ++ Rows.gossipWaitsSpec.plain.varTypes Tryz.prog) (ds ++ gs)).all (· ≤ reachBytes) = true) :
    Calls Tryz.prog 8 args W fun e W' => ∃ v, e = .returned v ∧ Rows.gossipWaitsSpec.post enc Tryz.prog Tryz.f8 false true false false W args v W' := by
  have hW' := hW
  obtain ⟨p, q, hA0, hV, rfl, _, _⟩ := hW
  have hA : DataW.TrodAll enc Tryz.prog W 0 (fun _ => true) true Tryz.f8.params.toList args.toList ds p := hA0
  rw [Tryz.params8] at hA hval hsz
  obtain ⟨v0, v1, v2, d0, d1, d2, p0, p1, p2, rfl, rfl, rfl, h0, h1, h2⟩ := trodAll_three hA
  obtain ⟨rfl, rfl⟩ := trodVars_none hV
  have hall := List.all_eq_true.1 hsz
  have w0 : ∀ n ∈ d0.weights Tryz.prog 50, n ≤ reachBytes := fun n hn => by simpa using hall n (DataW.weights_mem_each (j := 0) rfl rfl n hn)
  have w1 : ∀ n ∈ d1.weights Tryz.prog 3, n ≤ reachBytes := fun n hn => by simpa using hall n (DataW.weights_mem_each (j := 1) rfl rfl n hn)
  have w2 : ∀ n ∈ d2.weights Tryz.prog 62, n ≤ reachBytes := fun n hn => by simpa using hall n (DataW.weights_mem_each (j := 2) rfl rfl n hn)
  obtain ⟨y0, x0, rfl, s0a, s0b, s0c, s0d⟩ := arg_node (hval 0 _ v0 rfl rfl) h0 w0
  obtain ⟨x1, rfl⟩ := okWide_int Tryz.underlying3 (hval 1 _ v1 rfl rfl)
  obtain ⟨x2, rfl⟩ := arg_word (hval 2 _ v2 rfl rfl)
  clear hA0
  simp only [List.append_nil] at hW'
  have hlt : ∀ x ∈ p0 ++ p1 ++ p2, x.block < W.heap.size := fun x hx => by simpa using hW'.lt x (by simpa using hx)
  refine Calls.mono (Ab.law_waits W (fun _ => True) y0 x0 x1 x2 s0a s0b s0c s0d) ?_
  rintro e W' ⟨y, he, hbel, _⟩
  subst he
  have hB := hbel.below
  refine ⟨_, rfl, _, _, _, [], _, [], hW', ?_, trodAll_mk3 (Below.trod laid (by kernel_rfl) (of_decide_eq_true (by kernel_rfl)) h0 hB (fun x hx => hlt x (List.mem_append_left _ (List.mem_append_left _ hx)))) (Below.trod laid (by kernel_rfl) (of_decide_eq_true (by kernel_rfl)) h1 hB (fun x hx => hlt x (List.mem_append_left _ (List.mem_append_right _ hx)))) (Below.trod laid (by kernel_rfl) (of_decide_eq_true (by kernel_rfl)) h2 hB (fun x hx => hlt x (List.mem_append_right _ hx))), rfl, hB.frame _, fun h => by cases h⟩
  exact trodAll_cons_mk (shut_bool Tryz.underlying4 _) trodAll_mk0
set_option maxRecDepth 100000 in
theorem gossipWaits_lifted (os : Os) (started : os.Started) (H : Type) (enc : TypeId × Value → H) :
    ReturnsInHanded {} Tryz.checked os 8 .any (Rows.gossipWaitsSpec.pre6 enc Tryz.prog Tryz.f8 Rows.gossipWaitsRow.domain false) (Rows.gossipWaitsSpec.post enc Tryz.prog Tryz.f8 false true false false) := by
  refine returnsInHanded_of_change_sized (C := Tryz.checked) knobs started (by kernel_rfl) Tryz.func8
    (ChangeSpec.witness6 (enc := enc) (C := Tryz.checked) false ⟨#[], #[.agg #[.int .i64 0, .slice none 0 0, .int .i64 0, .slice none 0 0, .slice none 0 0, .int .i64 0, .bool false, .slice none 0 0, .int .i64 0, .int .i64 0], .int .i64 0, .int .u32 0], []⟩ 8 (by kernel_rfl) (by kernel_rfl) (by kernel_rfl) (by kernel_rfl)) ?_
  intro W base args ds gs before hval hW _ hsz _
  exact gossipWaits_contract H enc W base args ds gs before hval hW hsz
theorem gossipWaits_holds : Rows.GossipWaitsSaid :=
  OpenClaim.holds_of_wide 8 Tryz.f8 rfl rfl rfl rfl rfl rfl rfl ⟨rfl, rfl, rfl, rfl, rfl⟩ rfl rfl rfl rfl rfl (by kernel_rfl) Tryz.func8 (by kernel_rfl)
    (of_decide_eq_true (by kernel_rfl)) (by unfold Func.isWrapper; first | (rw [if_pos (by decide +kernel)]; kernel_rfl) | (rw [if_neg (by decide +kernel)]; exact ⟨rfl, rfl⟩))
    (fun os started H enc _ => gossipWaits_lifted os started H enc)
end Go.Proofs.YtdgeffphifgflaaGreat
