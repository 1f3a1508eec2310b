/- The statement FrontGenSaid: for every input FrontGen returns true and leaves its arguments as they were. -/
import Derived.Test.YtglclakhjmogiaaGreatFr5
import Derived.Test.YtglclakhjmogiaaGreatFr4
/- The law FrontGen returns true. -/
namespace Go.Proofs.YtglclakhjmogiaaGreat
namespace Ab
open Go Go.RowKit
set_option linter.unusedVariables false
set_option linter.unusedSimpArgs false
set_option synthInstance.maxSize 4000
set_option synthInstance.maxHeartbeats 400000
attribute [local irreducible] JC JO JR JQ andThen inBlock OpV Gives retTo JM JS

attribute [local irreducible] hashC idA l0 l1 ents
set_option maxHeartbeats 4000000 in
theorem law_frontgen (w : World) (F : Nat → Prop) (a : Option Addr) (k : Nat) (L : List Commit) (h : (sl a k L).holds F w) :
    GivesV Tryz.prog 5 [.slice a L.length k] w F (.bool true) := by
  refine gives_of Tryz.func5 rfl Tryz.ntmps5 rfl rfl [.st (sl a k L)] (.start1 h) ?_
  repeat (first|refine Wa ?_|refine Wb ?_|refine Wc ?_|refine Wd ?_|refine We rfl ?_|refine Wf (by exact Vb) rfl ?_)
  refine JR.callV rfl (fun w1 hw => awake_front w1 _) ?_
  repeat (first|refine Wa ?_|refine Wb ?_|refine Wc ?_|refine Wd ?_|refine We rfl ?_|refine Wf (by first|exact Va|exact Vb) rfl ?_)
  refine JR.callV rfl (fun w1 hw => few_all w1 _ a k L 10 hw.get) ?_
  cases hfew : fewL L 10 with
  | false =>
    repeat (first|refine Wa ?_|refine Wb ?_|refine Wc ?_|refine Wd ?_|refine We rfl ?_|refine Wf (by first|exact Va|exact Vb|exact Vh|exact Vi|exact Vj) rfl ?_|refine Wj ?_|refine Ws ?_|refine Wt ?_|refine Wv rfl rfl ?_)
    exact CT.done () rfl (fun w ho => ho.ent)
  | true =>
  obtain ⟨hL, hf⟩ := few_fine hfew
  by_cases hc : Closed L
  case neg =>
    repeat (first|refine Wa ?_|refine Wb ?_|refine Wc ?_|refine Wd ?_|refine We rfl ?_|refine Wf (by first|exact Va|exact Vb|exact Vh|exact Vj) rfl ?_)
    refine JR.callV rfl (fun w1 hw => closed_no w1 _ a k L hw.get (by omega) hf hc) ?_
    repeat (first|refine Wa ?_|refine Wb ?_|refine Wc ?_|refine Wd ?_|refine We rfl ?_|refine Wf (by first|exact Va|exact Vb|exact Vh|exact Vj) rfl ?_|refine Wj ?_|refine Ws ?_|refine Wt ?_)
    exact CT.done () rfl (fun w ho => ho.ent)
  have hfl := front_few hc
  obtain ⟨ch, bh, hh⟩ : ∃ c b, headF L = (c, b) := ⟨_, _, rfl⟩
  have hsmall : (frontF L).length < 2 → bh = decide (0 < L.length) ∧ ch.gen = topL L := fun h2 => by
    by_cases hn : L = []
    · subst hn
      rw [head_nil] at hh
      injection hh with e1 e2
      subst e1; subst e2
      exact ⟨rfl, rfl⟩
    · obtain ⟨c, hm, h3, h4⟩ := head_one hc hn h2
      rw [h3] at hh
      injection hh with e1 e2
      subst e1; subst e2
      exact ⟨(decide_eq_true (List.length_pos_iff.2 hn)).symm, h4⟩
  have hgreat : 2 ≤ (frontF L).length → ch = headC (topL L + 1) (frontF L) ∧ bh = true ∧ merge ch = true := fun h2 => by
    have h3 := head_merge hc (by omega) h2
    rw [h3.1] at hh
    injection hh with e1 e2
    subst e1; subst e2
    exact ⟨rfl, rfl, h3.2⟩
  have hfc : texts ch := by
    by_cases h2 : (frontF L).length < 2
    · by_cases hn : L = []
      · subst hn
        rw [head_nil] at hh
        injection hh with e1 e2
        subst e1
        exact ⟨by decide, by decide⟩
      · obtain ⟨c, hm, h3, h4⟩ := head_one hc hn h2
        rw [h3] at hh
        injection hh with e1 e2
        subst e1
        exact (hf _ hm).1
    · obtain ⟨e1, _, _⟩ := hgreat (by omega)
      rw [e1]
      exact ⟨(by decide : ByteArray.empty.size < 4611686018427387904), (by decide : ByteArray.empty.size < 4611686018427387904)⟩
  have ht1 := topL_few hc
  have ht0 := topL_pos L
  repeat (first|refine Wa ?_|refine Wb ?_|refine Wc ?_|refine Wd ?_|refine We rfl ?_|refine Wf (by first|exact Va|exact Vb|exact Vh|exact Vj) rfl ?_)
  refine JR.callV rfl (fun w1 hw => closed_yes w1 _ a k L hw.get (by omega) hf hc) ?_
  repeat (first|refine Wa ?_|refine Wb ?_|refine Wc ?_|refine Wd ?_|refine We rfl ?_|refine Wf (by first|exact Va|exact Vh|exact Vj) rfl ?_|refine Wk ?_|refine Wl ?_)
  refine JR.call1 (v := fun y : Option Addr × Nat => .tuple ⟨[commitV ch y.1 y.2, .bool bh]⟩) (B := fun y => .st (sl y.1 y.2 ch.parents)) rfl (fun w1 hw => by have := head_front w1 _ a k L hw.get (by omega) hf; rwa [hh] at this) ?_
  rintro ⟨p1, q1⟩
  dsimp only
  repeat (first|refine Wa ?_|refine Wb ?_|refine Wc ?_|refine Wd ?_|refine We rfl ?_|refine Wf (by first|exact Va|exact Vb|exact Vq) rfl ?_|(refine Wg rfl ?_; intro _)|refine Wi ?_)
  rename_i b5
  refine JR.callSl rfl (fun w1 hw => front_front w1 _ a k L hw.get (by omega) hf) ?_
  intro a1 k1
  obtain ⟨f, hfr⟩ : ∃ f, f = frontF L := ⟨_, rfl⟩
  rw [← hfr] at hsmall hgreat hfl ⊢
  repeat (first|refine Wa ?_|refine Wb ?_|refine Wc ?_|refine Wd ?_|refine We rfl ?_|refine Wf (by exact Vb) rfl ?_|refine Wn ?_)
  refine JC.loop1 (fun (i : Nat) => [(0, .slice a L.length k), (5, .pointer (some ⟨b5, 0, none⟩)), (6, .bool bh), (7, .slice a1 f.length k1), (8, .int .i64 (topL (L.take i))), (9, .int .i64 (i : Int))])
    (fun i => [.own b5 34 [.int .i64 ch.ev.node, .int .i64 ch.ev.seq, .int .i64 ch.gen, .slice p1 ch.parents.length q1, .int .i64 ch.op.kind, .string ch.op.key, .string ch.op.elem, .int .i64 ch.op.n], .st (sl p1 q1 ch.parents), .st (sl a1 k1 f), .st (sl a k L)]) (fun i => i ≤ L.length) (fun i => L.length - i) 0 (Nat.zero_le _) (by rw [List.take_zero, show topL [] = 0 from rfl]; infer_instance) ?_
  intro i hi
  repeat (first|refine Wa ?_|refine Wb ?_|refine Wc ?_|refine Wd ?_|refine We rfl ?_|refine Wf (by first|exact Va|exact Vf|exact Vg) rfl ?_)
  refine JC.test (fun hlt => ?_) (fun hge => ?_)
  · have hlt' : i < L.length := by omega
    have hnx := topL_next hlt'
    repeat (first|refine Wa ?_|refine Wb ?_|refine Wc ?_|refine We rfl ?_|refine Wf (by exact Va) rfl ?_|refine Wl ?_|refine Wn ?_)
    refine JR.indexCommit rfl hlt' ?_
    intro b1 o1 p3 q3
    repeat (first|refine Wa ?_|refine Wd ?_|refine We rfl ?_|refine Wf (by first|exact Va|exact Vc|exact Vd|exact Vo) rfl ?_)
    refine JC.test (fun h2 => ?_) (fun h2 => ?_)
    · repeat (first|refine Wc ?_|refine We rfl ?_|refine Wf (by exact Va) rfl ?_)
      refine JR.indexCommit rfl hlt' ?_
      intro b2 o2 p2 q2
      repeat (first|refine Wa ?_|refine Wc ?_|refine Wd ?_|refine We rfl ?_|refine Wf (by first|exact Va|exact Vb|exact Vc|exact Vd|exact Vk (by omega)) rfl ?_|refine Wr ?_)
      exact ⟨i + 1, by omega, by omega, by rw [hnx, show max (topL (L.take i)) L[i].gen = L[i].gen by omega]; infer_instance⟩
    · repeat (first|refine Wa ?_|refine Wc ?_|refine Wd ?_|refine We rfl ?_|refine Wf (by first|exact Va|exact Vb|exact Vk (by omega)) rfl ?_|refine Wl ?_|refine Wr ?_)
      exact ⟨i + 1, by omega, by omega, by rw [hnx, show max (topL (L.take i)) L[i].gen = topL (L.take i) by omega]; infer_instance⟩
  obtain rfl : i = L.length := by omega
  rw [List.take_length]
  repeat (first|refine Wa ?_|refine Wb ?_|refine Wc ?_|refine Wd ?_|refine We rfl ?_|refine Wf (by first|exact Va|exact Vf|exact Vg) rfl ?_|refine Wm ?_|refine Wo ?_|refine Wp ?_)
  refine JC.test (fun h2 => ?_) (fun h2 => ?_)
  · obtain ⟨e1, e2⟩ := hsmall (by omega)
    repeat (first|refine Wb ?_|refine Wc ?_|refine We rfl ?_|refine Wf (by first|exact Va|exact Vf|exact Vo|exact VE) rfl ?_)
    refine JO.reslot 59 (.bool true) (by rw [e1]; simp) ?_
    repeat (first|refine Wa ?_|refine Wd ?_|refine We rfl ?_|refine Wf (by first|exact Va|exact Vb|exact Vc|exact Vd|exact Vi|exact Vl) rfl ?_|refine Ws ?_|refine Wt ?_)
    refine CT.done () ?_ (fun w ho => ho.ent)
    simp [packed, e2]
  · obtain ⟨e1, e2, e3⟩ := hgreat (by omega)
    repeat (first|refine Wa ?_|refine Wb ?_|refine Wc ?_|refine We rfl ?_|refine Wf (by first|exact Va|exact Vc|exact Vd) rfl ?_|refine Wl ?_)
    refine JR.callV rfl (fun w1 hw => sameIds_ref w1 _ p1 a1 q1 k1 ch.parents f hw.get hw.get) ?_
    refine JO.reslot 68 (.bool true) (by rw [e1]; simp [headC]) ?_
    rw [e2]
    repeat (first|refine Wa ?_|refine Wb ?_|refine Wc ?_|refine Wd ?_|refine We rfl ?_|refine Wf (by first|exact Va|exact Vb|exact Vc) rfl ?_)
    refine JR.callV (v := .bool true) rfl (fun w1 hw => by have := merge_commit w1 (fp _ _ _) ch p1 q1 hw.get hfc; rwa [e3] at this) ?_
    repeat (first|refine Wa ?_|refine Wd ?_|refine We rfl ?_|refine Wf (by first|exact Va|exact Vb|exact Vc|exact Vd|exact Vi|exact Vl|exact Vt (by omega)) rfl ?_|refine Ws ?_)
    refine CT.done () ?_ (fun w ho => ho.ent)
    simp [packed, e1, headC]
end Ab
end Go.Proofs.YtglclakhjmogiaaGreat

/- The statement FrontGenSaid: for every input FrontGen returns true and leaves its arguments as they were. -/
namespace Go.Proofs.YtglclakhjmogiaaGreat
open Go Go.ChangeShapes Go.WideShapes Go.ChangeAt Go.RowKit
set_option linter.unusedVariables false

set_option maxRecDepth 100000 in
theorem frontGen_contract (H : Type) (enc : TypeId × Value → H) (W : World) (base : Nat) (args : Array Value) (ds gs : List (DataW H)) (before : List MemPlace)
    (hval : ∀ (j : Nat) t v, Tryz.f5.params[j]? = some t → args[j]? = some v → Value.okWide Tryz.prog W .any base t v)
    (hW : DataW.Whole enc Tryz.prog Tryz.f5.params.toList Rows.frontGenSpec.vars false W args.toList ds gs before)
    (hsz : (DataW.weightsEach Tryz.prog (Tryz.f5.params.toList ++ Rows.frontGenSpec.plain.varTypes Tryz.prog) (ds ++ gs)).all (· ≤ reachBytes) = true) :
    Calls Tryz.prog 5 args W fun e W' => ∃ v, e = .returned v ∧ Rows.frontGenSpec.post enc Tryz.prog Tryz.f5 false true false false W args v W' := by
  have hW' := hW
  obtain ⟨p, q, hA0, hV, rfl, _, _⟩ := hW
  have hA : DataW.TrodAll enc Tryz.prog W 0 (fun _ => true) true Tryz.f5.params.toList args.toList ds p := hA0
  rw [Tryz.params5] at hA hval hsz
  obtain ⟨v0, d0, rfl, rfl, h0⟩ := trodAll_one hA
  obtain ⟨rfl, rfl⟩ := trodVars_none hV
  have hall := List.all_eq_true.1 hsz
  have w0 : ∀ n ∈ d0.weights Tryz.prog 22, n ≤ reachBytes := fun n hn => by simpa using hall n (DataW.weights_mem_each (j := 0) rfl rfl n hn)
  obtain ⟨a0, k0, x0, rfl, s0⟩ := arg_commits (hval 0 _ v0 rfl rfl) h0 w0
  clear hA0
  simp only [List.append_nil] at hW'
  have hlt : ∀ x ∈ p, x.block < W.heap.size := fun x hx => by simpa using hW'.lt x (by simpa using hx)
  refine Calls.mono (Ab.law_frontgen W (fun _ => True) a0 k0 x0 s0) ?_
  rintro e W' ⟨y, he, hbel, _⟩
  subst he
  have hB := hbel.below
  refine ⟨_, rfl, _, _, _, [], _, [], hW', ?_, trodAll_mk1 (Below.trod laid (by kernel_rfl) (of_decide_eq_true (by kernel_rfl)) h0 hB (fun x hx => hlt x hx)), rfl, hB.frame _, fun h => by cases h⟩
  exact trodAll_cons_mk (shut_bool Tryz.underlying4 _) trodAll_mk0

set_option maxRecDepth 100000 in
theorem frontGen_lifted (os : Os) (started : os.Started) (H : Type) (enc : TypeId × Value → H) :
    ReturnsInHanded {} Tryz.checked os 5 .any (Rows.frontGenSpec.pre6 enc Tryz.prog Tryz.f5 Rows.frontGenRow.domain false) (Rows.frontGenSpec.post enc Tryz.prog Tryz.f5 false true false false) := by
  refine returnsInHanded_of_change_sized (C := Tryz.checked) knobs started (by kernel_rfl) Tryz.func5
    (ChangeSpec.witness6 (enc := enc) (C := Tryz.checked) false ⟨#[], #[.slice none 0 0], []⟩ 8 (by kernel_rfl) (by kernel_rfl) (by kernel_rfl) (by kernel_rfl)) ?_
  intro W base args ds gs before hval hW _ hsz _
  exact frontGen_contract H enc W base args ds gs before hval hW hsz

theorem frontGen_holds : Rows.FrontGenSaid :=
  OpenClaim.holds_of_wide 5 Tryz.f5 rfl rfl rfl rfl rfl rfl rfl ⟨rfl, rfl, rfl, rfl, rfl⟩ rfl rfl rfl rfl rfl (by kernel_rfl) Tryz.func5 (by kernel_rfl)
    (of_decide_eq_true (by kernel_rfl)) (by unfold Func.isWrapper; first | (rw [if_pos (by decide +kernel)]; kernel_rfl) | (rw [if_neg (by decide +kernel)]; exact ⟨rfl, rfl⟩))
    (fun os started H enc _ => frontGen_lifted os started H enc)
end Go.Proofs.YtglclakhjmogiaaGreat
