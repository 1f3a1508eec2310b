/- The statement FrontNextSaid: for every input FrontNext returns true and leaves its arguments as they were. -/
import Derived.Test.YtglclakhjmogiaaGreatFr5
/- The law FrontNext returns true. -/
namespace Go.Proofs.YtglclakhjmogiaaGreat
namespace Ab
open Go Go.RowKit
set_option linter.unusedVariables false
set_option linter.unusedSimpArgs false
set_option synthInstance.maxSize 4000
set_option synthInstance.maxHeartbeats 400000
attribute [local irreducible] JC JO JR JQ andThen inBlock OpV Gives retTo JM JS

attribute [local irreducible] hashC idA l0 l1 ents
set_option maxHeartbeats 4000000 in
theorem law_frontnext (w : World) (F : Nat → Prop) (a : Option Addr) (k : Nat) (L : List Commit) (ev : Ev_) (o : Op_) (h : (sl a k L).holds F w) :
    GivesV Tryz.prog 9 [.slice a L.length k, .agg ⟨[.int .i64 ev.node, .int .i64 ev.seq]⟩, opV o] w F (.bool true) := by
  refine gives_of Tryz.func9 rfl Tryz.ntmps9 rfl rfl [.st (sl a k L)] (.start1 h) ?_
  repeat (first|refine Wa ?_|refine Wb ?_|refine Wc ?_|refine Wd ?_|refine We rfl ?_|refine Wf (by exact Vb) rfl ?_|(refine Wh rfl ?_; intro _))
  rename_i b4 b5
  refine JR.callV rfl (fun w1 hw => awake_front w1 _) ?_
  repeat (first|refine Wa ?_|refine Wb ?_|refine Wc ?_|refine Wd ?_|refine We rfl ?_|refine Wf (by first|exact Va|exact Vb) rfl ?_)
  refine JR.callV rfl (fun w1 hw => few_all w1 _ a k L 10 hw.get) ?_
  cases hfew : fewL L 10 with
  | false =>
    repeat (first|refine Wa ?_|refine Wb ?_|refine Wc ?_|refine Wd ?_|refine We rfl ?_|refine Wf (by first|exact Va|exact Vb|exact Vh|exact Vi|exact Vj) rfl ?_|refine Wj ?_|refine Ws ?_|refine Wt ?_|refine Wv rfl rfl ?_)
    exact CT.done () rfl (fun w ho => ho.ent)
  | true =>
  obtain ⟨hL, hf⟩ := few_fine hfew
  repeat (first|refine Wa ?_|refine Wb ?_|refine Wc ?_|refine Wd ?_|refine We rfl ?_|refine Wf (by first|exact Va|exact Vb|exact Vc|exact Vd|exact Vh|exact Vj|exact Vo|exact Vw) rfl ?_)
  refine JO.test 31 (fun hk => ?_) (fun hk => ?_)
  · repeat (first|refine Wa ?_|refine Wb ?_|refine Wc ?_|refine Wd ?_|refine We rfl ?_|refine Wf (by first|exact Va|exact Vb|exact Vi) rfl ?_|refine Wj ?_|refine Ws ?_|refine Wt ?_|refine Wv rfl rfl ?_)
    exact CT.done () rfl (fun w ho => ho.ent)
  repeat (first|refine Wa ?_|refine Wd ?_|refine We rfl ?_|refine Wf (by first|exact Vc|exact Vd|exact Vj|exact Vo|exact Vw) rfl ?_)
  refine JC.test (fun he => ?_) (fun he => ?_)
  · repeat (first|refine Wa ?_|refine Wb ?_|refine Wc ?_|refine Wd ?_|refine We rfl ?_|refine Wf (by first|exact Va|exact Vb) rfl ?_|refine Ws ?_|refine Wt ?_)
    exact CT.done () rfl (fun w ho => ho.ent)
  have hot : o.key.size < 4611686018427387904 ∧ o.elem.size < 4611686018427387904 := ⟨by omega, by omega⟩
  obtain ⟨cn, bn, hn⟩ : ∃ c b, nextF L ev o = (c, b) := ⟨_, _, rfl⟩
  repeat (first|refine Wa ?_|refine Wb ?_|refine Wc ?_|refine We rfl ?_|refine Wf (by first|exact Va|exact Vc) rfl ?_|refine Wl ?_)
  refine JR.call1 (v := fun y : Option Addr × Nat => .tuple ⟨[commitV cn y.1 y.2, .bool bn]⟩) (B := fun y => .st (sl y.1 y.2 cn.parents)) rfl (fun w1 hw => by have := nxt_front w1 _ a k L ev o hw.get (by omega) hf hot; rwa [hn] at this) ?_
  rintro ⟨p1, q1⟩
  dsimp only
  repeat (first|refine Wa ?_|refine Wb ?_|refine Wc ?_|refine Wd ?_|refine We rfl ?_|refine Wf (by first|exact Va|exact Vb|exact Vh|exact Vq) rfl ?_|(refine Wg rfl ?_; intro _)|refine Wi ?_)
  rename_i b9
  cases bn with
  | false =>
    have e := next_not hn
    subst e
    repeat (first|refine Wa ?_|refine Wb ?_|refine Wc ?_|refine Wd ?_|refine We rfl ?_|refine Wf (by first|exact Va|exact Vb|exact Vc|exact Vd|exact Vf|exact Vi|exact Vl) rfl ?_|refine Wj ?_|refine Ws ?_|refine Wt ?_)
    exact CT.done () rfl (fun w ho => ho.ent)
  | true =>
    obtain ⟨e1, hc, hm, hc2⟩ := next_is hn
    have hfc : fine cn := by
      rw [e1]
      exact ⟨hot, by have := front_few hc; show (frontF L).length ≤ _; omega⟩
    have hf2 : ∀ x ∈ L ++ [cn], fine x := fun x hx => by
      rcases List.mem_append.1 hx with hx | hx
      · exact hf x hx
      · rw [List.mem_singleton] at hx; subst hx; exact hfc
    have hh := next_head hn
    obtain ⟨M, hM, hMl⟩ := next_anc hn
    have hev : cn.ev = ev := by rw [e1]; rfl
    have hop : cn.op = o := by rw [e1]; rfl
    repeat (first|refine Wa ?_|refine Wb ?_|refine Wk ?_|refine Wl ?_)
    refine JC.cut (fun y : Option Addr × Nat => [(0, .slice a L.length k), (4, .pointer (some ⟨b4, 0, none⟩)), (5, .pointer (some ⟨b5, 0, none⟩)), (9, .pointer (some ⟨b9, 0, none⟩)), (10, .bool true), (11, .slice y.1 (L ++ [cn]).length y.2)])
      (fun y => [.res (buf y.1 y.2 34 (L ++ [cn])), .own b9 34 [.int .i64 cn.ev.node, .int .i64 cn.ev.seq, .int .i64 cn.gen, .slice p1 cn.parents.length q1, .int .i64 cn.op.kind, .string cn.op.key, .string cn.op.elem, .int .i64 cn.op.n], .st (sl p1 q1 cn.parents), .own b4 25 [.int .i64 ev.node, .int .i64 ev.seq], .own b5 27 [.int .i64 o.kind, .string o.key, .string o.elem, .int .i64 o.n], .st (sl a k L)]) ?_ ?_
    · refine JC.draw 4 mixed ?_
      refine JM.take 0 rfl (by kernel_rfl) rfl Va rfl rfl ?_
      refine JM.take 2 rfl (by kernel_rfl) rfl Vc rfl rfl ?_
      refine JM.two 1 3 (by kernel_rfl) rfl rfl rfl rfl rfl rfl rfl rfl (JS.appendNil (L' := L) rfl (by exact ⟨rfl, rfl, by decide⟩) (by omega) fun a2 k2 => ?_) (JS.lit rfl ⟨rfl, by decide, by decide, by decide⟩ fun lb => ?_)
      · refine JM.one 3 (by kernel_rfl) rfl rfl rfl rfl (JS.lit rfl ⟨rfl, by decide, by decide, by decide⟩ fun lb => ?_)
        refine JM.last 4 (by kernel_rfl) rfl rfl rfl (JR.append1 (L := L) (u := cn) rfl (by exact ⟨rfl, rfl, by decide⟩) (by omega) (fun r s => Wd ⟨rfl, ?_⟩))
        refine JM.last 5 (by kernel_rfl) rfl rfl rfl (Wf Vb rfl (Wd ⟨rfl, ?_⟩))
        exact JM.nil (by kernel_rfl) ⟨rfl, (r, s), inferInstance⟩
      · refine JM.one 1 (by kernel_rfl) rfl rfl rfl rfl (JS.appendNil (L' := L) rfl (by exact ⟨rfl, rfl, by decide⟩) (by omega) fun a2 k2 => ?_)
        refine JM.last 4 (by kernel_rfl) rfl rfl rfl (JR.append1 (L := L) (u := cn) rfl (by exact ⟨rfl, rfl, by decide⟩) (by omega) (fun r s => Wd ⟨rfl, ?_⟩))
        refine JM.last 5 (by kernel_rfl) rfl rfl rfl (Wf Vb rfl (Wd ⟨rfl, ?_⟩))
        exact JM.nil (by kernel_rfl) ⟨rfl, (r, s), inferInstance⟩
    rintro ⟨a2, k2⟩
    dsimp only
    refine JC.more (fun w1 ho => ho.pub) ?_
    repeat (first|refine Wb ?_|refine Wc ?_|refine We rfl ?_|refine Wf (by exact Vc) rfl ?_)
    refine JR.callV (v := .tuple ⟨[.agg ⟨idc (idC cn)⟩, .int .i64 0]⟩) rfl (fun w1 hw => by have := hash_commit w1 (fp _ _ _) cn p1 q1 hw.get hfc.1; rwa [hash_may hm] at this) ?_
    repeat (first|refine Wa ?_|refine Wb ?_|refine Wc ?_|refine Wd ?_|refine We rfl ?_|refine Wf (by first|exact Va|exact Vb|exact Vq) rfl ?_|(refine Wg rfl ?_; intro _)|refine Wi ?_)
    refine JR.call1 (v := fun y : Option Addr × Nat => .tuple ⟨[commitV cn y.1 y.2, .bool true]⟩) (B := fun y => .st (sl y.1 y.2 cn.parents)) rfl (fun w1 hw => by have := head_front w1 _ a2 k2 (L ++ [cn]) hw.get (by simp; omega) hf2; rwa [hh] at this) ?_
    rintro ⟨p3, q3⟩
    dsimp only
    repeat (first|refine Wa ?_|refine Wb ?_|refine Wc ?_|refine Wd ?_|refine We rfl ?_|refine Wf (by first|exact Va|exact Vb|exact Vl|exact Vq) rfl ?_|(refine Wg rfl ?_; intro _)|refine Wi ?_)
    refine JR.callV rfl (fun w1 hw => closed_yes w1 _ a2 k2 (L ++ [cn]) hw.get (by simp; omega) hf2 hc2) ?_
    repeat (first|refine We rfl ?_|refine Wf (by first|exact Va|exact Vc|exact Vi) rfl ?_)
    refine JR.callV rfl (fun w1 hw => same_commit w1 _ cn cn p1 p3 q1 q3 hw.get hw.get) ?_
    refine JO.reslot 83 (.bool true) (by simp) ?_
    repeat (first|refine We rfl ?_|refine Wf (by first|exact Va|exact Vc|exact Vi) rfl ?_|(refine Ww rfl ⟨rfl, by decide, by decide, by decide⟩ ?_; intro _))
    rename_i lb
    refine JR.pubOwn lb ?_
    refine JR.callSl (L := M) rfl (fun w1 hw => anc_sl w1 _ a2 (some ⟨lb, 0, none⟩) k2 1 (L ++ [cn]) [idC cn] M hw.get (sl_of_ro hw.get) (by simp; omega) (by simp) hf2 hM) ?_
    intro a5 k5
    repeat (first|refine We rfl ?_|refine Wf (by first|exact Va|exact Vf|exact Vi|exact Vl) rfl ?_)
    refine JO.reslot 95 (.bool true) (by rw [hMl]; simp) ?_
    repeat (first|refine We rfl ?_|refine Wf (by first|exact Va|exact Vc|exact Vd|exact Vi|exact Vz) rfl ?_)
    refine JO.reslot 101 (.bool true) (by rw [← hev]; simp) ?_
    repeat (first|refine Wa ?_|refine Wd ?_|refine We rfl ?_|refine Wf (by first|exact Vb|exact Vc|exact Vd|exact Vi|exact VA) rfl ?_|refine Ws ?_)
    refine CT.done () ?_ (fun w ho => ho.ent)
    rw [← hop]; simp [packed]
end Ab
end Go.Proofs.YtglclakhjmogiaaGreat

/- The statement FrontNextSaid: for every input FrontNext returns true and leaves its arguments as they were. -/
namespace Go.Proofs.YtglclakhjmogiaaGreat
open Go Go.ChangeShapes Go.WideShapes Go.ChangeAt Go.RowKit
set_option linter.unusedVariables false

set_option maxRecDepth 100000 in
theorem frontNext_contract (H : Type) (enc : TypeId × Value → H) (W : World) (base : Nat) (args : Array Value) (ds gs : List (DataW H)) (before : List MemPlace)
    (hval : ∀ (j : Nat) t v, Tryz.f9.params[j]? = some t → args[j]? = some v → Value.okWide Tryz.prog W .any base t v)
    (hW : DataW.Whole enc Tryz.prog Tryz.f9.params.toList Rows.frontNextSpec.vars false W args.toList ds gs before)
    (hsz : (DataW.weightsEach Tryz.prog (Tryz.f9.params.toList ++ Rows.frontNextSpec.plain.varTypes Tryz.prog) (ds ++ gs)).all (· ≤ reachBytes) = true) :
    Calls Tryz.prog 9 args W fun e W' => ∃ v, e = .returned v ∧ Rows.frontNextSpec.post enc Tryz.prog Tryz.f9 false true false false W args v W' := by
  have hW' := hW
  obtain ⟨p, q, hA0, hV, rfl, _, _⟩ := hW
  have hA : DataW.TrodAll enc Tryz.prog W 0 (fun _ => true) true Tryz.f9.params.toList args.toList ds p := hA0
  rw [Tryz.params9] at hA hval hsz
  obtain ⟨v0, v1, v2, d0, d1, d2, p0, p1, p2, rfl, rfl, rfl, h0, h1, h2⟩ := trodAll_three hA
  obtain ⟨rfl, rfl⟩ := trodVars_none hV
  have hall := List.all_eq_true.1 hsz
  have w0 : ∀ n ∈ d0.weights Tryz.prog 22, n ≤ reachBytes := fun n hn => by simpa using hall n (DataW.weights_mem_each (j := 0) rfl rfl n hn)
  have w1 : ∀ n ∈ d1.weights Tryz.prog 25, n ≤ reachBytes := fun n hn => by simpa using hall n (DataW.weights_mem_each (j := 1) rfl rfl n hn)
  have w2 : ∀ n ∈ d2.weights Tryz.prog 27, n ≤ reachBytes := fun n hn => by simpa using hall n (DataW.weights_mem_each (j := 2) rfl rfl n hn)
  obtain ⟨a0, k0, x0, rfl, s0⟩ := arg_commits (hval 0 _ v0 rfl rfl) h0 w0
  obtain ⟨x1, rfl⟩ := arg_event (hval 1 _ v1 rfl rfl) h1
  obtain ⟨x2, rfl⟩ := arg_op (hval 2 _ v2 rfl rfl) h2
  clear hA0
  simp only [List.append_nil] at hW'
  have hlt : ∀ x ∈ p0 ++ p1 ++ p2, x.block < W.heap.size := fun x hx => by simpa using hW'.lt x (by simpa using hx)
  refine Calls.mono (Ab.law_frontnext W (fun _ => True) a0 k0 x0 x1 x2 s0) ?_
  rintro e W' ⟨y, he, hbel, _⟩
  subst he
  have hB := hbel.below
  refine ⟨_, rfl, _, _, _, [], _, [], hW', ?_, trodAll_mk3 (Below.trod laid (by kernel_rfl) (of_decide_eq_true (by kernel_rfl)) h0 hB (fun x hx => hlt x (List.mem_append_left _ (List.mem_append_left _ hx)))) (Below.trod laid (by kernel_rfl) (of_decide_eq_true (by kernel_rfl)) h1 hB (fun x hx => hlt x (List.mem_append_left _ (List.mem_append_right _ hx)))) (Below.trod laid (by kernel_rfl) (of_decide_eq_true (by kernel_rfl)) h2 hB (fun x hx => hlt x (List.mem_append_right _ hx))), rfl, hB.frame _, fun h => by cases h⟩
  exact trodAll_cons_mk (shut_bool Tryz.underlying4 _) trodAll_mk0

set_option maxRecDepth 100000 in
theorem frontNext_lifted (os : Os) (started : os.Started) (H : Type) (enc : TypeId × Value → H) :
    ReturnsInHanded {} Tryz.checked os 9 .any (Rows.frontNextSpec.pre6 enc Tryz.prog Tryz.f9 Rows.frontNextRow.domain false) (Rows.frontNextSpec.post enc Tryz.prog Tryz.f9 false true false false) := by
  refine returnsInHanded_of_change_sized (C := Tryz.checked) knobs started (by kernel_rfl) Tryz.func9
    (ChangeSpec.witness6 (enc := enc) (C := Tryz.checked) false ⟨#[], #[.slice none 0 0, .agg #[.int .i64 0, .int .i64 0], .agg #[.int .i64 0, .string .empty, .string .empty, .int .i64 0]], []⟩ 8 (by kernel_rfl) (by kernel_rfl) (by kernel_rfl) (by kernel_rfl)) ?_
  intro W base args ds gs before hval hW _ hsz _
  exact frontNext_contract H enc W base args ds gs before hval hW hsz

theorem frontNext_holds : Rows.FrontNextSaid :=
  OpenClaim.holds_of_wide 9 Tryz.f9 rfl rfl rfl rfl rfl rfl rfl ⟨rfl, rfl, rfl, rfl, rfl⟩ rfl rfl rfl rfl rfl (by kernel_rfl) Tryz.func9 (by kernel_rfl)
    (of_decide_eq_true (by kernel_rfl)) (by unfold Func.isWrapper; first | (rw [if_pos (by decide +kernel)]; kernel_rfl) | (rw [if_neg (by decide +kernel)]; exact ⟨rfl, rfl⟩))
    (fun os started H enc _ => frontNext_lifted os started H enc)
end Go.Proofs.YtglclakhjmogiaaGreat
