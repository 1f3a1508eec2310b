/- The statement FrontBaseSaid: for every input FrontBase returns true and leaves its arguments as they were. -/
import Derived.Test.YtglclakhjmogiaaGreatFr5
import Derived.Test.YtglclakhjmogiaaGreatFr4
/- The law FrontBase returns true. -/
namespace Go.Proofs.YtglclakhjmogiaaGreat
namespace Ab
open Go Go.RowKit
set_option linter.unusedVariables false
set_option linter.unusedSimpArgs false
set_option synthInstance.maxSize 4000
set_option synthInstance.maxHeartbeats 400000
attribute [local irreducible] JC JO JR JQ andThen inBlock OpV Gives retTo JM JS

attribute [local irreducible] hashC idA l0 l1 ents
set_option maxHeartbeats 4000000 in
theorem law_frontbase (w : World) (F : Nat → Prop) (a b d : Option Addr) (k m n : Nat) (L : List Commit) (A B : List ID) (x : ID) (h : (sl a k L).holds F w) (h1 : (sl b m A).holds F w) (h2 : (sl d n B).holds F w) :
    GivesV Tryz.prog 6 [.slice a L.length k, .slice b A.length m, .slice d B.length n, .agg ⟨idc x⟩] w F (.bool true) := by
  refine gives_of Tryz.func6 rfl Tryz.ntmps6 rfl rfl [.st (sl a k L), .st (sl b m A), .st (sl d n B)] (.start3 h h1 h2) ?_
  repeat (first|refine Wa ?_|refine Wb ?_|refine Wc ?_|refine Wd ?_|refine We rfl ?_|refine Wf (by exact Vb) rfl ?_|(refine Wh rfl ?_; intro _))
  rename_i b7
  refine JR.callV rfl (fun w1 hw => awake_front w1 _) ?_
  repeat (first|refine Wa ?_|refine Wb ?_|refine Wc ?_|refine Wd ?_|refine We rfl ?_|refine Wf (by first|exact Va|exact Vb) rfl ?_)
  refine JR.callV rfl (fun w1 hw => few_all w1 _ a k L 10 hw.get) ?_
  cases hfew : fewL L 10 with
  | false =>
    repeat (first|refine Wa ?_|refine Wb ?_|refine Wc ?_|refine Wd ?_|refine We rfl ?_|refine Wf (by first|exact Va|exact Vb|exact Vh|exact Vi|exact Vj) rfl ?_|refine Wj ?_|refine Ws ?_|refine Wt ?_|refine Wv rfl rfl ?_)
    exact CT.done () rfl (fun w ho => ho.ent)
  | true =>
  obtain ⟨hL, hf⟩ := few_fine hfew
  repeat (first|refine Wa ?_|refine Wb ?_|refine Wc ?_|refine Wd ?_|refine We rfl ?_|refine Wf (by first|exact Va|exact Vb|exact Vf|exact Vh|exact Vj|exact Vo) rfl ?_)
  refine JO.test 29 (fun hA => ?_) (fun hA => ?_)
  · repeat (first|refine Wa ?_|refine Wb ?_|refine Wc ?_|refine Wd ?_|refine We rfl ?_|refine Wf (by first|exact Va|exact Vb|exact Vi) rfl ?_|refine Wj ?_|refine Ws ?_|refine Wt ?_|refine Wv rfl rfl ?_)
    exact CT.done () rfl (fun w ho => ho.ent)
  repeat (first|refine We rfl ?_|refine Wf (by first|exact Va|exact Vf|exact Vj|exact Vo) rfl ?_)
  refine JO.test 34 (fun hB => ?_) (fun hB => ?_)
  · repeat (first|refine Wa ?_|refine Wb ?_|refine Wc ?_|refine Wd ?_|refine We rfl ?_|refine Wf (by first|exact Va|exact Vb|exact Vi) rfl ?_|refine Wj ?_|refine Ws ?_|refine Wt ?_|refine Wv rfl rfl ?_)
    exact CT.done () rfl (fun w ho => ho.ent)
  by_cases hc : Closed L
  case neg =>
    repeat (first|refine We rfl ?_|refine Wf (by exact Va) rfl ?_)
    refine JR.callV rfl (fun w1 hw => closed_no w1 _ a k L hw.get (by omega) hf hc) ?_
    repeat (first|refine Wa ?_|refine Wb ?_|refine Wc ?_|refine Wd ?_|refine We rfl ?_|refine Wf (by first|exact Va|exact Vb|exact Vh|exact Vj) rfl ?_|refine Wj ?_|refine Ws ?_|refine Wt ?_)
    exact CT.done () rfl (fun w ho => ho.ent)
  obtain ⟨S, hS⟩ : ∃ S, S = baseF L A B := ⟨_, rfl⟩
  have hSS : AncR L S S := hS ▸ base_ok hc A B
  have hSl := anc_len hSS
  have hSx : x ∈ S ↔ x ∈ ancF L A ∧ x ∈ ancF L B := hS ▸ mem_base
  repeat (first|refine We rfl ?_|refine Wf (by exact Va) rfl ?_)
  refine JR.callV rfl (fun w1 hw => closed_yes w1 _ a k L hw.get (by omega) hf hc) ?_
  repeat (first|refine Wa ?_|refine Wb ?_|refine Wc ?_|refine Wd ?_|refine We rfl ?_|refine Wf (by first|exact Va|exact Vh|exact Vj) rfl ?_|refine Wk ?_|refine Wl ?_)
  refine JR.callSl (L := S) rfl (fun w1 hw => hS ▸ base_front w1 _ a b d k m n L A B hw.get hw.get hw.get (by omega) (by omega) (by omega) hf) ?_
  intro a1 k1
  repeat (first|refine Wa ?_|refine Wb ?_|refine Wc ?_|refine Wd ?_|refine We rfl ?_|refine Wf (by first|exact Va|exact Vb) rfl ?_)
  refine JR.callSl (L := S) rfl (fun w1 hw => anc_sl w1 _ a a1 k k1 L S S hw.get hw.get (by omega) (by omega) hf hSS) ?_
  intro a2 k2
  repeat (first|refine We rfl ?_|refine Wf (by exact Va) rfl ?_)
  refine JR.callV rfl (fun w1 hw => sameIds_ref w1 _ a2 a1 k2 k1 S S hw.get hw.get) ?_
  refine JO.reslot 48 (.bool true) (by simp) ?_
  repeat (first|refine Wa ?_|refine Wb ?_|refine Wc ?_|refine Wd ?_|refine We rfl ?_|refine Wf (by first|exact Va|exact Vb) rfl ?_)
  refine JR.callSl (L := S) rfl (fun w1 hw => by have := base_front w1 (fp _ _ _) a d b k n m L B A hw.get hw.get hw.get (by omega) (by omega) (by omega) hf; rwa [base_turn, ← hS] at this) ?_
  intro a3 k3
  repeat (first|refine We rfl ?_|refine Wf (by exact Va) rfl ?_)
  refine JR.callV rfl (fun w1 hw => sameIds_ref w1 _ a3 a1 k3 k1 S S hw.get hw.get) ?_
  refine JO.reslot 54 (.bool true) (by simp) ?_
  repeat (first|refine Wa ?_|refine Wb ?_|refine Wd ?_|refine We rfl ?_|refine Wf (by exact Vb) rfl ?_)
  refine JC.draw 13 mixed ?_
  refine JM.take 0 rfl (by kernel_rfl) rfl Va rfl rfl ?_
  refine JM.take 1 rfl (by kernel_rfl) rfl Va rfl rfl ?_
  refine JM.take 3 rfl (by kernel_rfl) rfl Vc rfl rfl ?_
  refine JM.one 2 (by kernel_rfl) rfl rfl rfl rfl (JS.callSl (L := ancF L A) rfl (fun w1 hw => anc_sl w1 _ a b k m L A _ hw.get hw.get (by omega) (by omega) hf (ancF_ok L A)) fun a4 k4 => ?_)
  refine JM.takeCall 4 rfl (by kernel_rfl) rfl (fun w1 hw => has_ids w1 _ a4 k4 (ancF L A) x hw.get) rfl rfl ?_
  by_cases hxA : x ∈ ancF L A
  · refine JM.reslot 59 (.bool true) (by congr 1; exact decide_eq_true hxA) ?_
    refine JM.take 5 rfl (by kernel_rfl) rfl Va rfl rfl ?_
    refine JM.take 6 rfl (by kernel_rfl) rfl Va rfl rfl ?_
    refine JM.take 7 rfl (by kernel_rfl) rfl Va rfl rfl ?_
    refine JM.take 9 rfl (by kernel_rfl) rfl Vc rfl rfl ?_
    refine JM.one 8 (by kernel_rfl) rfl rfl rfl rfl (JS.callSl (L := ancF L B) rfl (fun w1 hw => anc_sl w1 _ a d k n L B _ hw.get hw.get (by omega) (by omega) hf (ancF_ok L B)) fun a5 k5 => ?_)
    refine JM.takeCall 10 rfl (by kernel_rfl) rfl (fun w1 hw => has_ids w1 _ a5 k5 (ancF L B) x hw.get) rfl rfl ?_
    refine JM.take 11 rfl (by kernel_rfl) rfl Vi rfl rfl ?_
    refine JM.take 12 rfl (by kernel_rfl) rfl Vb rfl rfl ?_
    refine JM.nil (by kernel_rfl) ?_
    repeat (first|refine Wa ?_|refine Wb ?_|refine Wc ?_|refine We rfl ?_|refine Wf (by first|exact Va|exact Vc|exact Vi) rfl ?_)
    refine JR.callV rfl (fun w1 hw => has_ids w1 _ a1 k1 S x hw.get) ?_
    repeat (first|refine Wa ?_|refine Wd ?_|refine We rfl ?_|refine Wf (by first|exact Va|exact Vb|exact Vi|exact VE) rfl ?_|refine Ws ?_)
    refine CT.done () ?_ (fun w ho => ho.ent)
    have e : decide (x ∈ S) = decide (x ∈ ancF L B) := decide_eq_decide.2 (by rw [hSx]; exact ⟨fun h => h.2, fun h => ⟨hxA, h⟩⟩)
    simp [packed, e]
  · refine JM.reslot 59 (.bool false) (by congr 1; exact decide_eq_false hxA) ?_
    refine JM.take 5 rfl (by kernel_rfl) rfl Va rfl rfl ?_
    refine JM.omit 6 rfl (by kernel_rfl) rfl rfl rfl ?_
    refine JM.omit 7 rfl (by kernel_rfl) rfl rfl rfl ?_
    refine JM.omit 8 rfl (by kernel_rfl) rfl rfl rfl ?_
    refine JM.omit 9 rfl (by kernel_rfl) rfl rfl rfl ?_
    refine JM.omit 10 rfl (by kernel_rfl) rfl rfl rfl ?_
    refine JM.take 11 rfl (by kernel_rfl) rfl Vj rfl rfl ?_
    refine JM.take 12 rfl (by kernel_rfl) rfl Vb rfl rfl ?_
    refine JM.nil (by kernel_rfl) ?_
    repeat (first|refine Wa ?_|refine Wb ?_|refine Wc ?_|refine We rfl ?_|refine Wf (by first|exact Va|exact Vc|exact Vi) rfl ?_)
    refine JR.callV rfl (fun w1 hw => has_ids w1 _ a1 k1 S x hw.get) ?_
    repeat (first|refine Wa ?_|refine Wd ?_|refine We rfl ?_|refine Wf (by first|exact Va|exact Vb|exact Vi|exact VE) rfl ?_|refine Ws ?_)
    refine CT.done () ?_ (fun w ho => ho.ent)
    have e : decide (x ∈ S) = false := decide_eq_false (by rw [hSx]; exact fun h => hxA h.1)
    simp [packed, e]
end Ab
end Go.Proofs.YtglclakhjmogiaaGreat

/- The statement FrontBaseSaid: for every input FrontBase returns true and leaves its arguments as they were. -/
namespace Go.Proofs.YtglclakhjmogiaaGreat
open Go Go.ChangeShapes Go.WideShapes Go.ChangeAt Go.RowKit
set_option linter.unusedVariables false

set_option maxRecDepth 100000 in
theorem frontBase_contract (H : Type) (enc : TypeId × Value → H) (W : World) (base : Nat) (args : Array Value) (ds gs : List (DataW H)) (before : List MemPlace)
    (hval : ∀ (j : Nat) t v, Tryz.f6.params[j]? = some t → args[j]? = some v → Value.okWide Tryz.prog W .any base t v)
    (hW : DataW.Whole enc Tryz.prog Tryz.f6.params.toList Rows.frontBaseSpec.vars false W args.toList ds gs before)
    (hsz : (DataW.weightsEach Tryz.prog (Tryz.f6.params.toList ++ Rows.frontBaseSpec.plain.varTypes Tryz.prog) (ds ++ gs)).all (· ≤ reachBytes) = true) :
    Calls Tryz.prog 6 args W fun e W' => ∃ v, e = .returned v ∧ Rows.frontBaseSpec.post enc Tryz.prog Tryz.f6 false true false false W args v W' := by
  have hW' := hW
  obtain ⟨p, q, hA0, hV, rfl, _, _⟩ := hW
  have hA : DataW.TrodAll enc Tryz.prog W 0 (fun _ => true) true Tryz.f6.params.toList args.toList ds p := hA0
  rw [Tryz.params6] at hA hval hsz
  obtain ⟨v0, v1, v2, v3, d0, d1, d2, d3, p0, p1, p2, p3, rfl, rfl, rfl, h0, h1, h2, h3⟩ := trodAll_four hA
  obtain ⟨rfl, rfl⟩ := trodVars_none hV
  have hall := List.all_eq_true.1 hsz
  have w0 : ∀ n ∈ d0.weights Tryz.prog 22, n ≤ reachBytes := fun n hn => by simpa using hall n (DataW.weights_mem_each (j := 0) rfl rfl n hn)
  have w1 : ∀ n ∈ d1.weights Tryz.prog 23, n ≤ reachBytes := fun n hn => by simpa using hall n (DataW.weights_mem_each (j := 1) rfl rfl n hn)
  have w2 : ∀ n ∈ d2.weights Tryz.prog 23, n ≤ reachBytes := fun n hn => by simpa using hall n (DataW.weights_mem_each (j := 2) rfl rfl n hn)
  have w3 : ∀ n ∈ d3.weights Tryz.prog 47, n ≤ reachBytes := fun n hn => by simpa using hall n (DataW.weights_mem_each (j := 3) rfl rfl n hn)
  obtain ⟨a0, k0, x0, rfl, s0⟩ := arg_commits (hval 0 _ v0 rfl rfl) h0 w0
  obtain ⟨a1, k1, x1, rfl, s1⟩ := arg_ids (hval 1 _ v1 rfl rfl) h1 w1
  obtain ⟨a2, k2, x2, rfl, s2⟩ := arg_ids (hval 2 _ v2 rfl rfl) h2 w2
  obtain ⟨x3, rfl⟩ := arg_id (hval 3 _ v3 rfl rfl) h3 w3
  clear hA0
  simp only [List.append_nil] at hW'
  have hlt : ∀ x ∈ p0 ++ p1 ++ p2 ++ p3, x.block < W.heap.size := fun x hx => by simpa using hW'.lt x (by simpa using hx)
  refine Calls.mono (Ab.law_frontbase W (fun _ => True) a0 a1 a2 k0 k1 k2 x0 x1 x2 x3 s0 s1 s2) ?_
  rintro e W' ⟨y, he, hbel, _⟩
  subst he
  have hB := hbel.below
  refine ⟨_, rfl, _, _, _, [], _, [], hW', ?_, trodAll_mk4 (Below.trod laid (by kernel_rfl) (of_decide_eq_true (by kernel_rfl)) h0 hB (fun x hx => hlt x (List.mem_append_left _ (List.mem_append_left _ (List.mem_append_left _ hx))))) (Below.trod laid (by kernel_rfl) (of_decide_eq_true (by kernel_rfl)) h1 hB (fun x hx => hlt x (List.mem_append_left _ (List.mem_append_left _ (List.mem_append_right _ hx))))) (Below.trod laid (by kernel_rfl) (of_decide_eq_true (by kernel_rfl)) h2 hB (fun x hx => hlt x (List.mem_append_left _ (List.mem_append_right _ hx)))) (Below.trod laid (by kernel_rfl) (of_decide_eq_true (by kernel_rfl)) h3 hB (fun x hx => hlt x (List.mem_append_right _ hx))), rfl, hB.frame _, fun h => by cases h⟩
  exact trodAll_cons_mk (shut_bool Tryz.underlying4 _) trodAll_mk0

set_option maxRecDepth 100000 in
theorem frontBase_lifted (os : Os) (started : os.Started) (H : Type) (enc : TypeId × Value → H) :
    ReturnsInHanded {} Tryz.checked os 6 .any (Rows.frontBaseSpec.pre6 enc Tryz.prog Tryz.f6 Rows.frontBaseRow.domain false) (Rows.frontBaseSpec.post enc Tryz.prog Tryz.f6 false true false false) := by
  refine returnsInHanded_of_change_sized (C := Tryz.checked) knobs started (by kernel_rfl) Tryz.func6
    (ChangeSpec.witness6 (enc := enc) (C := Tryz.checked) false ⟨#[], #[.slice none 0 0, .slice none 0 0, .slice none 0 0, .agg (Array.replicate 32 (.int .u8 0))], []⟩ 8 (by kernel_rfl) (by kernel_rfl) (by kernel_rfl) (by kernel_rfl)) ?_
  intro W base args ds gs before hval hW _ hsz _
  exact frontBase_contract H enc W base args ds gs before hval hW hsz

theorem frontBase_holds : Rows.FrontBaseSaid :=
  OpenClaim.holds_of_wide 6 Tryz.f6 rfl rfl rfl rfl rfl rfl rfl ⟨rfl, rfl, rfl, rfl, rfl⟩ rfl rfl rfl rfl rfl (by kernel_rfl) Tryz.func6 (by kernel_rfl)
    (of_decide_eq_true (by kernel_rfl)) (by unfold Func.isWrapper; first | (rw [if_pos (by decide +kernel)]; kernel_rfl) | (rw [if_neg (by decide +kernel)]; exact ⟨rfl, rfl⟩))
    (fun os started H enc _ => frontBase_lifted os started H enc)
end Go.Proofs.YtglclakhjmogiaaGreat
