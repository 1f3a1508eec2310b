/- The statement FrontLastSaid: for every input FrontLast returns true and leaves its arguments as they were. -/
import Derived.Test.YtglclakhjmogiaaGreatFr5
import Derived.Test.YtglclakhjmogiaaGreatFr4
/- The law FrontLast returns true. -/
namespace Go.Proofs.YtglclakhjmogiaaGreat
namespace Ab
open Go Go.RowKit
set_option linter.unusedVariables false
set_option linter.unusedSimpArgs false
set_option synthInstance.maxSize 4000
set_option synthInstance.maxHeartbeats 400000
attribute [local irreducible] JC JO JR JQ andThen inBlock OpV Gives retTo JM JS

attribute [local irreducible] hashC idA l0 l1 ents
set_option maxHeartbeats 4000000 in
theorem law_frontlast (w : World) (F : Nat → Prop) (a : Option Addr) (k : Nat) (L : List Commit) (h : (sl a k L).holds F w) :
    GivesV Tryz.prog 4 [.slice a L.length k] w F (.bool true) := by
  refine gives_of Tryz.func4 rfl Tryz.ntmps4 rfl rfl [.st (sl a k L)] (.start1 h) ?_
  repeat (first|refine Wa ?_|refine Wb ?_|refine Wc ?_|refine Wd ?_|refine We rfl ?_|refine Wf (by exact Vb) rfl ?_)
  refine JR.callV rfl (fun w1 hw => awake_front w1 _) ?_
  repeat (first|refine Wa ?_|refine Wb ?_|refine Wc ?_|refine Wd ?_|refine We rfl ?_|refine Wf (by first|exact Va|exact Vb) rfl ?_)
  refine JR.callV rfl (fun w1 hw => few_all w1 _ a k L 10 hw.get) ?_
  cases hfew : fewL L 10 with
  | false =>
    repeat (first|refine Wa ?_|refine Wb ?_|refine Wc ?_|refine Wd ?_|refine We rfl ?_|refine Wf (by first|exact Va|exact Vb|exact Vh|exact Vi|exact Vj) rfl ?_|refine Wj ?_|refine Ws ?_|refine Wt ?_|refine Wv rfl rfl ?_)
    exact CT.done () rfl (fun w ho => ho.ent)
  | true =>
  obtain ⟨hL, hf⟩ := few_fine hfew
  by_cases hc : Closed L
  case neg =>
    repeat (first|refine Wa ?_|refine Wb ?_|refine Wc ?_|refine Wd ?_|refine We rfl ?_|refine Wf (by first|exact Va|exact Vb|exact Vh|exact Vj) rfl ?_)
    refine JR.callV rfl (fun w1 hw => closed_no w1 _ a k L hw.get (by omega) hf hc) ?_
    repeat (first|refine Wa ?_|refine Wb ?_|refine Wc ?_|refine Wd ?_|refine We rfl ?_|refine Wf (by first|exact Va|exact Vb|exact Vh|exact Vj) rfl ?_|refine Wj ?_|refine Ws ?_|refine Wt ?_)
    exact CT.done () rfl (fun w ho => ho.ent)
  have hcl := cids_length L
  obtain ⟨f, hfr⟩ : ∃ f, f = frontF L := ⟨_, rfl⟩
  obtain ⟨Z, hZ⟩ : ∃ Z, Z = sortL (setOf (cids L)) := ⟨_, rfl⟩
  have hfZ : AncR L f Z := by rw [hfr, hZ]; exact front_anc hc
  have hfl : f.length ≤ 8 := hfr ▸ front_few hc
  have hfn : f = [] ↔ L = [] := hfr ▸ front_nil hc
  have hfrs : rises f = true := hfr ▸ front_rises L
  have hff : ∀ x ∈ f, ∀ y, ¬ knows L y x := fun x hx y => front_free hc (hfr ▸ hx)
  have hfd : f.Nodup := hfr ▸ front_nodup L
  repeat (first|refine Wa ?_|refine Wb ?_|refine Wc ?_|refine Wd ?_|refine We rfl ?_|refine Wf (by first|exact Va|exact Vb|exact Vh|exact Vj) rfl ?_)
  refine JR.callV rfl (fun w1 hw => closed_yes w1 _ a k L hw.get (by omega) hf hc) ?_
  repeat (first|refine Wa ?_|refine Wb ?_|refine Wc ?_|refine Wd ?_|refine We rfl ?_|refine Wf (by first|exact Va|exact Vh|exact Vj) rfl ?_|refine Wk ?_|refine Wl ?_)
  refine JR.callSl (L := f) rfl (fun w1 hw => hfr ▸ front_front w1 _ a k L hw.get (by omega) hf) ?_
  intro a1 k1
  repeat (first|refine Wa ?_|refine Wb ?_|refine Wc ?_|refine Wd ?_|refine We rfl ?_|refine Wf (by first|exact Va|exact Vb) rfl ?_)
  refine JR.callSl (L := Z) rfl (fun w1 hw => anc_sl w1 _ a a1 k k1 L f Z hw.get hw.get (by omega) (by omega) hf hfZ) ?_
  intro a2 k2
  repeat (first|refine We rfl ?_|refine Wf (by exact Va) rfl ?_)
  refine JR.callSl (L := cids L) rfl (fun w1 hw => by have := ids_dag w1 _ a k L hw.get (by omega) hf; rwa [idsP_all hc.may] at this) ?_
  intro a3 k3
  repeat (refine We rfl ?_)
  refine JR.callBuf (L := Z) rfl (fun w1 hw => by have := sort_ids w1 _ a3 k3 (cids L) hw.get (by rw [cids_length]; omega); rwa [← hZ] at this) ?_
  intro a4 k4
  refine JO.more (fun w1 ho => ho.pub) ?_
  repeat (refine We rfl ?_)
  refine JR.callV rfl (fun w1 hw => sameIds_ref w1 _ a2 a4 k2 k4 Z Z hw.get hw.get) ?_
  refine JO.reslot 32 (.bool true) (by simp) ?_
  repeat (first|refine Wa ?_|refine Wb ?_|refine Wc ?_|refine Wd ?_|refine We rfl ?_|refine Wf (by first|exact Va|exact Vb|exact Vf|exact Vh|exact Vj|exact Vo) rfl ?_)
  refine JO.reslot 40 (.bool false) (by congr 1; exact decide_eq_false (by omega)) ?_
  repeat (first|refine We rfl ?_|refine Wf (by first|exact Va|exact Vf|exact Vj|exact Vl|exact VF) rfl ?_)
  refine JO.reslot 49 (.bool false) (by
    have h0 : f.length = 0 ↔ L.length = 0 := by rw [List.length_eq_zero_iff, List.length_eq_zero_iff, hfn]
    have e : decide ((f.length : Int) = 0) = decide ((L.length : Int) = 0) := decide_eq_decide.2 (by omega)
    rw [e]; simp) ?_
  repeat (first|refine We rfl ?_|refine Wf (by exact Va) rfl ?_)
  refine JR.callV (v := .bool true) rfl (fun w1 hw => by have := rises_ids w1 (fp _ _ _) a1 k1 f hw.get; rwa [hfrs] at this) ?_
  repeat (first|refine Wa ?_|refine Wb ?_|refine Wc ?_|refine Wd ?_|refine We rfl ?_|refine Wf (by first|exact Vb|exact Vh|exact Vj) rfl ?_|refine Wk ?_|refine Wl ?_|refine Wn ?_)
  refine JC.loop1 (fun (i : Nat) => [(0, .slice a L.length k), (5, .slice a1 f.length k1), (7, .int .i64 (i : Int))]) (fun i => [.st (sl a1 k1 f), .st (sl a k L)]) (fun i => i ≤ f.length) (fun i => f.length - i) 0 (Nat.zero_le _) inferInstance ?_
  intro i hi
  repeat (first|refine Wa ?_|refine Wb ?_|refine Wc ?_|refine Wd ?_|refine We rfl ?_|refine Wf (by first|exact Va|exact Vf|exact Vg) rfl ?_)
  refine JC.test (fun hlt => ?_) (fun hge => ?_)
  · have hi' : i < f.length := by omega
    repeat (first|refine Wa ?_|refine Wb ?_|refine Wc ?_|refine Wd ?_|refine We rfl ?_|refine Wf (by exact Vb) rfl ?_|refine Wl ?_|refine Wn ?_)
    refine JC.loop1 (fun (j : Nat) => [(0, .slice a L.length k), (5, .slice a1 f.length k1), (7, .int .i64 (i : Int)), (8, .int .i64 (j : Int))]) (fun j => [.st (sl a1 k1 f), .st (sl a k L)]) (fun j => j ≤ f.length) (fun j => f.length - j) 0 (Nat.zero_le _) inferInstance ?_
    intro j hj
    repeat (first|refine Wa ?_|refine Wb ?_|refine Wc ?_|refine Wd ?_|refine We rfl ?_|refine Wf (by first|exact Va|exact Vf|exact Vg) rfl ?_)
    refine JC.test (fun hltj => ?_) (fun hgej => ?_)
    · have hj' : j < f.length := by omega
      repeat (first|refine Wa ?_|refine Wb ?_|refine Wl ?_|refine Wn ?_)
      refine JC.openID (L := f) (.slice a1 f.length k1) j hj' ?_
      intro b2 o2
      refine JC.draw 17 mixed ?_
      refine JM.take 0 rfl (by kernel_rfl) rfl Va rfl rfl ?_
      refine JM.take 1 rfl (by kernel_rfl) rfl Va rfl rfl ?_
      refine JM.take 2 rfl (by kernel_rfl) rfl Vm rfl rfl ?_
      by_cases hij : j = i
      · refine JM.reslot 68 (.bool false) (by simp [hij]) ?_
        refine JM.take 3 rfl (by kernel_rfl) rfl Va rfl rfl ?_
        refine JM.omit 4 rfl (by kernel_rfl) rfl rfl rfl ?_
        refine JM.omit 5 rfl (by kernel_rfl) rfl rfl rfl ?_
        refine JM.omit 6 rfl (by kernel_rfl) rfl rfl rfl ?_
        refine JM.omit 7 rfl (by kernel_rfl) rfl rfl rfl ?_
        refine JM.omit 8 rfl (by kernel_rfl) rfl rfl rfl ?_
        refine JM.omit 9 rfl (by kernel_rfl) rfl rfl rfl ?_
        refine JM.omit 10 rfl (by kernel_rfl) rfl rfl rfl ?_
        refine JM.omit 11 rfl (by kernel_rfl) rfl rfl rfl ?_
        refine JM.omit 12 rfl (by kernel_rfl) rfl rfl rfl ?_
        refine JM.omit 13 rfl (by kernel_rfl) rfl rfl rfl ?_
        refine JM.omit 14 rfl (by kernel_rfl) rfl rfl rfl ?_
        refine JM.omit 15 rfl (by kernel_rfl) rfl rfl rfl ?_
        refine JM.take 16 rfl (by kernel_rfl) rfl Vj rfl rfl ?_
        refine JM.nil (by kernel_rfl) ?_
        repeat (first|refine Wa ?_|refine Wc ?_|refine Wd ?_|refine We rfl ?_|refine Wf (by first|exact Va|exact Vb|exact Vk (by omega)) rfl ?_|refine Wk ?_|refine Wl ?_|refine Wr ?_)
        exact ⟨j + 1, by omega, by omega, inferInstance⟩
      · obtain ⟨N, hN⟩ := anc_ex L [f[i]]
        have hno : f[j] ∉ N := fun hx => by
          rcases ((hN.mem hc _).1 hx).2 with h1 | ⟨y, hy, hk⟩
          · rw [List.mem_singleton] at h1
            rcases Nat.lt_or_gt_of_ne hij with hx1 | hx1
            · exact List.pairwise_iff_getElem.1 hfd j i hj' hi' hx1 h1
            · exact List.pairwise_iff_getElem.1 hfd i j hi' hj' hx1 h1.symm
          · exact hff _ (List.getElem_mem hj') _ hk
        refine JM.reslot 68 (.bool true) (by congr 1; exact decide_eq_true (by omega)) ?_
        refine JM.take 3 rfl (by kernel_rfl) rfl Va rfl rfl ?_
        refine JM.take 4 rfl (by kernel_rfl) rfl Va rfl rfl ?_
        refine JM.take 5 rfl (by kernel_rfl) rfl Va rfl rfl ?_
        refine JM.take 6 rfl (by kernel_rfl) rfl Va rfl rfl ?_
        refine JM.take 7 rfl (by kernel_rfl) rfl Va rfl rfl ?_
        refine JM.take 8 rfl (by kernel_rfl) rfl (Vk (by omega)) rfl rfl ?_
        refine JM.more (Γ' := [.st (sl (fromA a1 k1 i 32) (k1 - i) [f[i]]), .st (elA (.slice a1 f.length k1) j 32 b2 o2), .st (ro b2 o2 (idc f[j])), .st (sl a1 k1 f), .st (sl a k L)]) (fun w1 ho => (ho.add (A := sl (fromA a1 k1 i 32) (k1 - i) [f[i]]) (sl_one (ho.get (A := sl a1 k1 f)) i hi')).ent) ?_
        refine JM.take 9 rfl (by kernel_rfl) rfl (OpV.sliceMidA (l := i) (h := i + 1) (s := 32) rfl (fun w1 ho => ⟨by omega, by have := (Hold.get (A := sl a1 k1 f) ho).1; omega⟩)) rfl rfl ?_
        refine JM.reslot 75 (.slice (fromA a1 k1 i 32) [f[i]].length (k1 - i)) (by congr 1; simp) ?_
        refine JM.take 11 rfl (by kernel_rfl) rfl Va rfl rfl ?_
        refine JM.take 12 rfl (by kernel_rfl) rfl Va rfl rfl ?_
        refine JM.take 13 rfl (by kernel_rfl) rfl Ve rfl rfl ?_
        refine JM.take 14 rfl (by kernel_rfl) rfl Vc rfl rfl ?_
        refine JM.one 10 (by kernel_rfl) rfl rfl rfl rfl (JS.callSl (L := N) rfl (fun w1 hw => anc_sl w1 _ a (fromA a1 k1 i 32) k (k1 - i) L [f[i]] N hw.get hw.get (by omega) (by simp) hf hN) fun a5 k5 => ?_)
        refine JM.takeCall 15 rfl (by kernel_rfl) rfl (fun w1 hw => has_ids w1 _ a5 k5 N f[j] hw.get) rfl rfl ?_
        refine JM.reslot 81 (.bool false) (by congr 1; exact decide_eq_false hno) ?_
        refine JM.take 16 rfl (by kernel_rfl) rfl Vi rfl rfl ?_
        refine JM.nil (by kernel_rfl) ?_
        repeat (first|refine Wa ?_|refine Wc ?_|refine Wd ?_|refine We rfl ?_|refine Wf (by first|exact Va|exact Vb|exact Vk (by omega)) rfl ?_|refine Wk ?_|refine Wl ?_|refine Wr ?_)
        exact ⟨j + 1, by omega, by omega, inferInstance⟩
    · repeat (first|refine Wa ?_|refine Wc ?_|refine Wd ?_|refine We rfl ?_|refine Wf (by first|exact Va|exact Vb|exact Vk (by omega)) rfl ?_|refine Wm ?_|refine Wo ?_|refine Wp ?_|refine Wr ?_)
      exact ⟨i + 1, by omega, by omega, inferInstance⟩
  · repeat (first|refine Wa ?_|refine Wb ?_|refine Wc ?_|refine Wd ?_|refine We rfl ?_|refine Wf (by exact Vb) rfl ?_|refine Wm ?_|refine Wo ?_|refine Wp ?_|refine Ws ?_)
    exact CT.done () rfl (fun w ho => ho.ent)
end Ab
end Go.Proofs.YtglclakhjmogiaaGreat

/- The statement FrontLastSaid: for every input FrontLast returns true and leaves its arguments as they were. -/
namespace Go.Proofs.YtglclakhjmogiaaGreat
open Go Go.ChangeShapes Go.WideShapes Go.ChangeAt Go.RowKit
set_option linter.unusedVariables false

set_option maxRecDepth 100000 in
theorem frontLast_contract (H : Type) (enc : TypeId × Value → H) (W : World) (base : Nat) (args : Array Value) (ds gs : List (DataW H)) (before : List MemPlace)
    (hval : ∀ (j : Nat) t v, Tryz.f4.params[j]? = some t → args[j]? = some v → Value.okWide Tryz.prog W .any base t v)
    (hW : DataW.Whole enc Tryz.prog Tryz.f4.params.toList Rows.frontLastSpec.vars false W args.toList ds gs before)
    (hsz : (DataW.weightsEach Tryz.prog (Tryz.f4.params.toList ++ Rows.frontLastSpec.plain.varTypes Tryz.prog) (ds ++ gs)).all (· ≤ reachBytes) = true) :
    Calls Tryz.prog 4 args W fun e W' => ∃ v, e = .returned v ∧ Rows.frontLastSpec.post enc Tryz.prog Tryz.f4 false true false false W args v W' := by
  have hW' := hW
  obtain ⟨p, q, hA0, hV, rfl, _, _⟩ := hW
  have hA : DataW.TrodAll enc Tryz.prog W 0 (fun _ => true) true Tryz.f4.params.toList args.toList ds p := hA0
  rw [Tryz.params4] at hA hval hsz
  obtain ⟨v0, d0, rfl, rfl, h0⟩ := trodAll_one hA
  obtain ⟨rfl, rfl⟩ := trodVars_none hV
  have hall := List.all_eq_true.1 hsz
  have w0 : ∀ n ∈ d0.weights Tryz.prog 22, n ≤ reachBytes := fun n hn => by simpa using hall n (DataW.weights_mem_each (j := 0) rfl rfl n hn)
  obtain ⟨a0, k0, x0, rfl, s0⟩ := arg_commits (hval 0 _ v0 rfl rfl) h0 w0
  clear hA0
  simp only [List.append_nil] at hW'
  have hlt : ∀ x ∈ p, x.block < W.heap.size := fun x hx => by simpa using hW'.lt x (by simpa using hx)
  refine Calls.mono (Ab.law_frontlast W (fun _ => True) a0 k0 x0 s0) ?_
  rintro e W' ⟨y, he, hbel, _⟩
  subst he
  have hB := hbel.below
  refine ⟨_, rfl, _, _, _, [], _, [], hW', ?_, trodAll_mk1 (Below.trod laid (by kernel_rfl) (of_decide_eq_true (by kernel_rfl)) h0 hB (fun x hx => hlt x hx)), rfl, hB.frame _, fun h => by cases h⟩
  exact trodAll_cons_mk (shut_bool Tryz.underlying4 _) trodAll_mk0

set_option maxRecDepth 100000 in
theorem frontLast_lifted (os : Os) (started : os.Started) (H : Type) (enc : TypeId × Value → H) :
    ReturnsInHanded {} Tryz.checked os 4 .any (Rows.frontLastSpec.pre6 enc Tryz.prog Tryz.f4 Rows.frontLastRow.domain false) (Rows.frontLastSpec.post enc Tryz.prog Tryz.f4 false true false false) := by
  refine returnsInHanded_of_change_sized (C := Tryz.checked) knobs started (by kernel_rfl) Tryz.func4
    (ChangeSpec.witness6 (enc := enc) (C := Tryz.checked) false ⟨#[], #[.slice none 0 0], []⟩ 8 (by kernel_rfl) (by kernel_rfl) (by kernel_rfl) (by kernel_rfl)) ?_
  intro W base args ds gs before hval hW _ hsz _
  exact frontLast_contract H enc W base args ds gs before hval hW hsz

theorem frontLast_holds : Rows.FrontLastSaid :=
  OpenClaim.holds_of_wide 4 Tryz.f4 rfl rfl rfl rfl rfl rfl rfl ⟨rfl, rfl, rfl, rfl, rfl⟩ rfl rfl rfl rfl rfl (by kernel_rfl) Tryz.func4 (by kernel_rfl)
    (of_decide_eq_true (by kernel_rfl)) (by unfold Func.isWrapper; first | (rw [if_pos (by decide +kernel)]; kernel_rfl) | (rw [if_neg (by decide +kernel)]; exact ⟨rfl, rfl⟩))
    (fun os started H enc _ => frontLast_lifted os started H enc)
end Go.Proofs.YtglclakhjmogiaaGreat
