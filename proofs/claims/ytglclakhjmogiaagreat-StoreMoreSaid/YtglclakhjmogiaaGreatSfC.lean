/- The statement StoreMoreSaid: for every input StoreMore returns true and leaves its arguments as they were. -/
import Derived.Test.YtglclakhjmogiaaGreatSf5
/- The law StoreMore returns true. -/
namespace Go.Proofs.YtglclakhjmogiaaGreat
namespace Ab
open Go Go.RowKit
set_option linter.unusedVariables false
set_option linter.unusedSimpArgs false
set_option synthInstance.maxSize 4000
set_option synthInstance.maxHeartbeats 400000
attribute [local irreducible] JC JO JR JQ andThen inBlock OpV Gives retTo JM JS

attribute [local irreducible] hashC
theorem put_bad {c : Commit} (hm : may c = false) (b : List UInt8) : storeT b 1048576 c = ([], 1) := by
  have hp : putCommit c = ([], 1) := by unfold putCommit; rw [hm]; rfl
  unfold storeT
  rw [hp]
  exact if_neg (by decide)
theorem put_more {s : List Commit} {c : Commit} (hs : ∀ x ∈ s, may x = true) (hc : may c = true) (hl : s.length ≤ 900) : storeT (diskL s) 1048576 c = (diskL (s ++ [c]), 0) := by
  have hm : ∀ x ∈ s ++ [c], may x = true := fun x hx => by
    rcases List.mem_append.1 hx with hx | hx
    · exact hs x hx
    · rw [List.mem_singleton] at hx; subst hx; exact hc
  have h := storeT_next (l := s ++ [c]) (i := s.length) (by simp) hm (by simp; omega)
  have e1 : (s ++ [c]).take s.length = s := List.take_left' rfl
  have e2 : (s ++ [c])[s.length]'(by simp) = c := by simp
  have e3 : (s ++ [c]).take (s.length + 1) = s ++ [c] := List.take_of_length_le (by simp)
  rw [e1, e2, e3] at h
  exact h
theorem load_more {s : List Commit} {c : Commit} (hsc : Closed s) (hs : s.Pairwise leS) (hc : may c = true) :
    (Closed (s ++ [c]) → loadL (diskL (s ++ [c])) = s ++ [c] ∧ loadEnd (diskL (s ++ [c])) = (diskL (s ++ [c])).length) ∧
    (¬ Closed (s ++ [c]) → loadL (diskL (s ++ [c])) = s ∧ loadEnd (diskL (s ++ [c])) = (diskL s).length) := by
  have hm : ∀ x ∈ s ++ [c], may x = true := fun x hx => by
    rcases List.mem_append.1 hx with hx | hx
    · exact hsc.may x hx
    · rw [List.mem_singleton] at hx; subst hx; exact hc
  obtain ⟨h1, h2⟩ := loadL_disk hm (r := []) readL_nil
  rw [List.append_nil] at h1 h2
  have h3 : closeF [] (s ++ [c]) = closeF s [c] := by
    have := closeF_all s [] (fun j hj => by simpa using hsc.take hs (j + 1)) [c]
    simpa using this
  rw [h3] at h2
  constructor
  · intro hcl
    have h4 : loadL (diskL (s ++ [c])) = s ++ [c] := by rw [h2, closeF, if_pos hcl]; rfl
    refine ⟨h4, ?_⟩
    unfold loadEnd
    rw [h1, h4, ← List.map_take, List.take_length]
    rfl
  · intro hcl
    have h4 : loadL (diskL (s ++ [c])) = s := by rw [h2, closeF, if_neg hcl]
    refine ⟨h4, ?_⟩
    unfold loadEnd
    rw [h1, h4, ← List.map_take, List.take_left' rfl]
    rfl
set_option maxHeartbeats 4000000 in
theorem law_storemore (w : World) (F : Nat → Prop) (a a2 : Option Addr) (k k2 : Nat) (L : List Commit) (c : Commit) (h : (sl a k L).holds F w) (h2 : (sl a2 k2 c.parents).holds F w) :
    GivesV Tryz.prog 13 [.slice a L.length k, commitV c a2 k2] w F (.bool true) := by
  refine gives_of Tryz.func13 rfl Tryz.ntmps13 rfl rfl [.st (sl a k L), .st (sl a2 k2 c.parents)] (.start2 h h2) ?_
  repeat (first|refine Wa ?_|refine Wb ?_|refine Wc ?_|refine Wd ?_|refine We rfl ?_|refine Wf (by first|exact Va|exact Vb|exact Vc|exact Vd|exact Ve|exact Vf|exact Vg|exact Vh|exact Vi|exact Vj|exact Vk (by omega)|exact Vl|exact Vm|exact Vn|exact Vo|exact Vp|exact Vq|exact Vr|exact Vs (by omega)|exact Vt (by omega)|exact Vu (by omega)|exact Vv (by omega)|exact Vw|exact Vx|exact Vy|exact Vz|exact VA|exact VB|exact VC|exact VD|exact VE|exact VF) rfl ?_|(refine Wg rfl ?_; intro _)|(refine Wh rfl ?_; intro _)|refine Wi ?_|refine Wj ?_|refine Wk ?_|refine Wl ?_|refine Wm ?_|refine Wn ?_|refine Wo ?_|refine Wp ?_|refine Wq rfl ?_|refine Wr ?_|refine Ws ?_|refine Wt ?_|refine Wu ?_|refine Wv rfl rfl ?_|(refine Ww rfl ⟨rfl, by decide, by decide, by decide⟩ ?_; intro _))
  rename_i b3
  refine JR.callV rfl (fun w1 hw => awake_store w1 _) ?_
  repeat (first|refine Wa ?_|refine Wb ?_|refine Wc ?_|refine Wd ?_|refine We rfl ?_|refine Wf (by first|exact Va|exact Vb|exact Vc|exact Vd|exact Ve|exact Vf|exact Vg|exact Vh|exact Vi|exact Vj|exact Vk (by omega)|exact Vl|exact Vm|exact Vn|exact Vo|exact Vp|exact Vq|exact Vr|exact Vs (by omega)|exact Vt (by omega)|exact Vu (by omega)|exact Vv (by omega)|exact Vw|exact Vx|exact Vy|exact Vz|exact VA|exact VB|exact VC|exact VD|exact VE|exact VF) rfl ?_|(refine Wg rfl ?_; intro _)|(refine Wh rfl ?_; intro _)|refine Wi ?_|refine Wj ?_|refine Wk ?_|refine Wl ?_|refine Wm ?_|refine Wn ?_|refine Wo ?_|refine Wp ?_|refine Wq rfl ?_|refine Wr ?_|refine Ws ?_|refine Wt ?_|refine Wu ?_|refine Wv rfl rfl ?_|(refine Ww rfl ⟨rfl, by decide, by decide, by decide⟩ ?_; intro _))
  refine JR.callV rfl (fun w1 hw => few_all w1 _ a k L 8 (hw.get (A := sl a k L))) ?_
  cases hfew : fewL L 8 with
  | false =>
    repeat (first|refine Wa ?_|refine Wb ?_|refine Wc ?_|refine Wd ?_|refine We rfl ?_|refine Wf (by first|exact Va|exact Vb|exact Vc|exact Vd|exact Ve|exact Vf|exact Vg|exact Vh|exact Vi|exact Vj|exact Vk (by omega)|exact Vl|exact Vm|exact Vn|exact Vo|exact Vp|exact Vq|exact Vr|exact Vs (by omega)|exact Vt (by omega)|exact Vu (by omega)|exact Vv (by omega)|exact Vw|exact Vx|exact Vy|exact Vz|exact VA|exact VB|exact VC|exact VD|exact VE|exact VF) rfl ?_|(refine Wg rfl ?_; intro _)|(refine Wh rfl ?_; intro _)|refine Wi ?_|refine Wj ?_|refine Wk ?_|refine Wl ?_|refine Wm ?_|refine Wn ?_|refine Wo ?_|refine Wp ?_|refine Wq rfl ?_|refine Wr ?_|refine Ws ?_|refine Wt ?_|refine Wu ?_|refine Wv rfl rfl ?_|(refine Ww rfl ⟨rfl, by decide, by decide, by decide⟩ ?_; intro _)|refine Wx rfl rfl ?_)
    refine JR.callV rfl (fun w1 hw => few_one w1 _ c a2 k2) ?_
    repeat (first|refine Wa ?_|refine Wb ?_|refine Wc ?_|refine Wd ?_|refine We rfl ?_|refine Wf (by first|exact Va|exact Vb|exact Vc|exact Vd|exact Ve|exact Vf|exact Vg|exact Vh|exact Vi|exact Vj|exact Vk (by omega)|exact Vl|exact Vm|exact Vn|exact Vo|exact Vp|exact Vq|exact Vr|exact Vs (by omega)|exact Vt (by omega)|exact Vu (by omega)|exact Vv (by omega)|exact Vw|exact Vx|exact Vy|exact Vz|exact VA|exact VB|exact VC|exact VD|exact VE|exact VF) rfl ?_|(refine Wg rfl ?_; intro _)|(refine Wh rfl ?_; intro _)|refine Wi ?_|refine Wj ?_|refine Wk ?_|refine Wl ?_|refine Wm ?_|refine Wn ?_|refine Wo ?_|refine Wp ?_|refine Wq rfl ?_|refine Wr ?_|refine Ws ?_|refine Wt ?_|refine Wu ?_|refine Wv rfl rfl ?_|(refine Ww rfl ⟨rfl, by decide, by decide, by decide⟩ ?_; intro _)|refine Wx rfl rfl ?_)
    exact CT.done () rfl (fun w ho => ho.ent)
  | true =>
  obtain ⟨hL, hf⟩ := few_fine hfew
  repeat (first|refine Wa ?_|refine Wb ?_|refine Wc ?_|refine Wd ?_|refine We rfl ?_|refine Wf (by first|exact Va|exact Vb|exact Vc|exact Vd|exact Ve|exact Vf|exact Vg|exact Vh|exact Vi|exact Vj|exact Vk (by omega)|exact Vl|exact Vm|exact Vn|exact Vo|exact Vp|exact Vq|exact Vr|exact Vs (by omega)|exact Vt (by omega)|exact Vu (by omega)|exact Vv (by omega)|exact Vw|exact Vx|exact Vy|exact Vz|exact VA|exact VB|exact VC|exact VD|exact VE|exact VF) rfl ?_|(refine Wg rfl ?_; intro _)|(refine Wh rfl ?_; intro _)|refine Wi ?_|refine Wj ?_|refine Wk ?_|refine Wl ?_|refine Wm ?_|refine Wn ?_|refine Wo ?_|refine Wp ?_|refine Wq rfl ?_|refine Wr ?_|refine Ws ?_|refine Wt ?_|refine Wu ?_|refine Wv rfl rfl ?_|(refine Ww rfl ⟨rfl, by decide, by decide, by decide⟩ ?_; intro _)|refine Wx rfl rfl ?_)
  refine JR.callV rfl (fun w1 hw => few_one w1 _ c a2 k2) ?_
  cases hfew2 : fewC c with
  | false =>
    repeat (first|refine Wa ?_|refine Wb ?_|refine Wc ?_|refine Wd ?_|refine We rfl ?_|refine Wf (by first|exact Va|exact Vb|exact Vc|exact Vd|exact Ve|exact Vf|exact Vg|exact Vh|exact Vi|exact Vj|exact Vk (by omega)|exact Vl|exact Vm|exact Vn|exact Vo|exact Vp|exact Vq|exact Vr|exact Vs (by omega)|exact Vt (by omega)|exact Vu (by omega)|exact Vv (by omega)|exact Vw|exact Vx|exact Vy|exact Vz|exact VA|exact VB|exact VC|exact VD|exact VE|exact VF) rfl ?_|(refine Wg rfl ?_; intro _)|(refine Wh rfl ?_; intro _)|refine Wi ?_|refine Wj ?_|refine Wk ?_|refine Wl ?_|refine Wm ?_|refine Wn ?_|refine Wo ?_|refine Wp ?_|refine Wq rfl ?_|refine Wr ?_|refine Ws ?_|refine Wt ?_|refine Wu ?_|refine Wv rfl rfl ?_|(refine Ww rfl ⟨rfl, by decide, by decide, by decide⟩ ?_; intro _)|refine Wx rfl rfl ?_)
    exact CT.done () rfl (fun w ho => ho.ent)
  | true =>
  have hfc := fine_few hfew2
  repeat (first|refine Wa ?_|refine Wb ?_|refine Wc ?_|refine Wd ?_|refine We rfl ?_|refine Wf (by first|exact Va|exact Vb|exact Vc|exact Vd|exact Ve|exact Vf|exact Vg|exact Vh|exact Vi|exact Vj|exact Vk (by omega)|exact Vl|exact Vm|exact Vn|exact Vo|exact Vp|exact Vq|exact Vr|exact Vs (by omega)|exact Vt (by omega)|exact Vu (by omega)|exact Vv (by omega)|exact Vw|exact Vx|exact Vy|exact Vz|exact VA|exact VB|exact VC|exact VD|exact VE|exact VF) rfl ?_|(refine Wg rfl ?_; intro _)|(refine Wh rfl ?_; intro _)|refine Wi ?_|refine Wj ?_|refine Wk ?_|refine Wl ?_|refine Wm ?_|refine Wn ?_|refine Wo ?_|refine Wp ?_|refine Wq rfl ?_|refine Wr ?_|refine Ws ?_|refine Wt ?_|refine Wu ?_|refine Wv rfl rfl ?_|(refine Ww rfl ⟨rfl, by decide, by decide, by decide⟩ ?_; intro _)|refine Wx rfl rfl ?_)
  by_cases hc : ¬ Closed L
  · refine JR.callV rfl (fun w1 hw => closed_no w1 _ a k L (hw.get (A := sl a k L)) (by omega) hf hc) ?_
    repeat (first|refine Wa ?_|refine Wb ?_|refine Wc ?_|refine Wd ?_|refine We rfl ?_|refine Wf (by first|exact Va|exact Vb|exact Vc|exact Vd|exact Ve|exact Vf|exact Vg|exact Vh|exact Vi|exact Vj|exact Vk (by omega)|exact Vl|exact Vm|exact Vn|exact Vo|exact Vp|exact Vq|exact Vr|exact Vs (by omega)|exact Vt (by omega)|exact Vu (by omega)|exact Vv (by omega)|exact Vw|exact Vx|exact Vy|exact Vz|exact VA|exact VB|exact VC|exact VD|exact VE|exact VF) rfl ?_|(refine Wg rfl ?_; intro _)|(refine Wh rfl ?_; intro _)|refine Wi ?_|refine Wj ?_|refine Wk ?_|refine Wl ?_|refine Wm ?_|refine Wn ?_|refine Wo ?_|refine Wp ?_|refine Wq rfl ?_|refine Wr ?_|refine Ws ?_|refine Wt ?_|refine Wu ?_|refine Wv rfl rfl ?_|(refine Ww rfl ⟨rfl, by decide, by decide, by decide⟩ ?_; intro _)|refine Wx rfl rfl ?_)
    exact CT.done () rfl (fun w ho => ho.ent)
  replace hc : Closed L := Classical.not_not.1 hc
  refine JR.callV rfl (fun w1 hw => closed_yes w1 _ a k L (hw.get (A := sl a k L)) (by omega) hf hc) ?_
  repeat (first|refine Wa ?_|refine Wb ?_|refine Wc ?_|refine Wd ?_|refine We rfl ?_|refine Wf (by first|exact Va|exact Vb|exact Vc|exact Vd|exact Ve|exact Vf|exact Vg|exact Vh|exact Vi|exact Vj|exact Vk (by omega)|exact Vl|exact Vm|exact Vn|exact Vo|exact Vp|exact Vq|exact Vr|exact Vs (by omega)|exact Vt (by omega)|exact Vu (by omega)|exact Vv (by omega)|exact Vw|exact Vx|exact Vy|exact Vz|exact VA|exact VB|exact VC|exact VD|exact VE|exact VF) rfl ?_|(refine Wg rfl ?_; intro _)|(refine Wh rfl ?_; intro _)|refine Wi ?_|refine Wj ?_|refine Wk ?_|refine Wl ?_|refine Wm ?_|refine Wn ?_|refine Wo ?_|refine Wp ?_|refine Wq rfl ?_|refine Wr ?_|refine Ws ?_|refine Wt ?_|refine Wu ?_|refine Wv rfl rfl ?_|(refine Ww rfl ⟨rfl, by decide, by decide, by decide⟩ ?_; intro _)|refine Wx rfl rfl ?_)
  refine JR.call1 (v := fun y : SortY L => .slice y.1.2.1 y.1.1.length y.1.2.2) (B := fun y => .st (sl y.1.2.1 y.1.2.2 y.1.1)) rfl (fun w1 hw => sorted_dag w1 _ a k L (hw.get (A := sl a k L)) (by omega) hf) ?_
  rintro ⟨⟨s, sa, sk⟩, hs⟩
  dsimp only
  have hperm : s.Perm L := hs.perm hc
  have hpw : s.Pairwise leS := hs.sorted hc
  have hsc : Closed s := hc.perm hperm.symm
  have hsl : s.length = L.length := hperm.length_eq
  have hsf : ∀ x ∈ s, fine x := fun x hx => hf x (hperm.mem_iff.1 hx)
  repeat (first|refine Wa ?_|refine Wb ?_|refine Wc ?_|refine Wd ?_|refine We rfl ?_|refine Wf (by first|exact Va|exact Vb|exact Vc|exact Vd|exact Ve|exact Vf|exact Vg|exact Vh|exact Vi|exact Vj|exact Vk (by omega)|exact Vl|exact Vm|exact Vn|exact Vo|exact Vp|exact Vq|exact Vr|exact Vs (by omega)|exact Vt (by omega)|exact Vu (by omega)|exact Vv (by omega)|exact Vw|exact Vx|exact Vy|exact Vz|exact VA|exact VB|exact VC|exact VD|exact VE|exact VF) rfl ?_|(refine Wg rfl ?_; intro _)|(refine Wh rfl ?_; intro _)|refine Wi ?_|refine Wj ?_|refine Wk ?_|refine Wl ?_|refine Wm ?_|refine Wn ?_|refine Wo ?_|refine Wp ?_|refine Wq rfl ?_|refine Wr ?_|refine Ws ?_|refine Wt ?_|refine Wu ?_|refine Wv rfl rfl ?_|(refine Ww rfl ⟨rfl, by decide, by decide, by decide⟩ ?_; intro _)|refine Wx rfl rfl ?_)
  refine JR.call2 (v := fun y : (Option Addr × Nat) × (Option Addr × Nat) => .tuple ⟨[.slice y.1.1 (diskL s).length y.1.2, .slice y.2.1 (endsL s).length y.2.2, .bool true]⟩) (B := fun y => .res (buf y.1.1 y.1.2 5 (diskL s))) (C := fun y => .st (sl y.2.1 y.2.2 (endsL s))) rfl (fun w1 hw => disk_law w1 _ sa sk s (hw.get (A := sl sa sk s)) hsc.may hsf (by omega)) ?_
  rintro ⟨⟨p, pq⟩, ⟨q, qq⟩⟩
  dsimp only
  refine JO.more (fun w ho => ho.pub) ?_
  have hdl := diskL_le hsc.may
  repeat (first|refine Wa ?_|refine Wb ?_|refine Wc ?_|refine Wd ?_|refine We rfl ?_|refine Wf (by first|exact Va|exact Vb|exact Vc|exact Vd|exact Ve|exact Vf|exact Vg|exact Vh|exact Vi|exact Vj|exact Vk (by omega)|exact Vl|exact Vm|exact Vn|exact Vo|exact Vp|exact Vq|exact Vr|exact Vs (by omega)|exact Vt (by omega)|exact Vu (by omega)|exact Vv (by omega)|exact Vw|exact Vx|exact Vy|exact Vz|exact VA|exact VB|exact VC|exact VD|exact VE|exact VF) rfl ?_|(refine Wg rfl ?_; intro _)|(refine Wh rfl ?_; intro _)|refine Wi ?_|refine Wj ?_|refine Wk ?_|refine Wl ?_|refine Wm ?_|refine Wn ?_|refine Wo ?_|refine Wp ?_|refine Wq rfl ?_|refine Wr ?_|refine Ws ?_|refine Wt ?_|refine Wu ?_|refine Wv rfl rfl ?_|(refine Ww rfl ⟨rfl, by decide, by decide, by decide⟩ ?_; intro _)|refine Wx rfl rfl ?_)
  refine JR.call1 (B := fun y : Option Addr × Nat => .res (buf y.1 y.2 5 (storeT (diskL s) 1048576 c).1)) rfl (fun w1 hw => put_store w1 _ p a2 pq k2 (diskL s) 1048576 c (hw.get (A := sl p pq (diskL s))) (hw.get (A := sl a2 k2 c.parents)) hfc.1 (by omega)) ?_
  rintro ⟨px, qx⟩
  dsimp only
  refine JO.more (fun w ho => ho.pub) ?_
  cases hm : may c with
  | false =>
    rw [put_bad hm]
    dsimp only
    repeat (first|refine Wa ?_|refine Wb ?_|refine Wc ?_|refine Wd ?_|refine We rfl ?_|refine Wf (by first|exact Va|exact Vb|exact Vc|exact Vd|exact Ve|exact Vf|exact Vg|exact Vh|exact Vi|exact Vj|exact Vk (by omega)|exact Vl|exact Vm|exact Vn|exact Vo|exact Vp|exact Vq|exact Vr|exact Vs (by omega)|exact Vt (by omega)|exact Vu (by omega)|exact Vv (by omega)|exact Vw|exact Vx|exact Vy|exact Vz|exact VA|exact VB|exact VC|exact VD|exact VE|exact VF) rfl ?_|(refine Wg rfl ?_; intro _)|(refine Wh rfl ?_; intro _)|refine Wi ?_|refine Wj ?_|refine Wk ?_|refine Wl ?_|refine Wm ?_|refine Wn ?_|refine Wo ?_|refine Wp ?_|refine Wq rfl ?_|refine Wr ?_|refine Ws ?_|refine Wt ?_|refine Wu ?_|refine Wv rfl rfl ?_|(refine Ww rfl ⟨rfl, by decide, by decide, by decide⟩ ?_; intro _)|refine Wx rfl rfl ?_)
    exact CT.done () rfl (fun w ho => ho.ent)
  | true =>
  obtain ⟨hld1, hld2⟩ := load_more hsc hpw hm
  rw [put_more hsc.may hm (by omega)]
  dsimp only
  have hm2 : ∀ x ∈ s ++ [c], may x = true := fun x hx => by
    rcases List.mem_append.1 hx with hx | hx
    · exact hsc.may x hx
    · rw [List.mem_singleton] at hx; subst hx; exact hm
  have hf2 : ∀ x ∈ s ++ [c], fine x := fun x hx => by
    rcases List.mem_append.1 hx with hx | hx
    · exact hsf x hx
    · rw [List.mem_singleton] at hx; subst hx; exact hfc
  have hdl2 := diskL_le hm2
  rw [List.length_append, List.length_singleton] at hdl2
  repeat (first|refine Wa ?_|refine Wb ?_|refine Wc ?_|refine Wd ?_|refine We rfl ?_|refine Wf (by first|exact Va|exact Vb|exact Vc|exact Vd|exact Ve|exact Vf|exact Vg|exact Vh|exact Vi|exact Vj|exact Vk (by omega)|exact Vl|exact Vm|exact Vn|exact Vo|exact Vp|exact Vq|exact Vr|exact Vs (by omega)|exact Vt (by omega)|exact Vu (by omega)|exact Vv (by omega)|exact Vw|exact Vx|exact Vy|exact Vz|exact VA|exact VB|exact VC|exact VD|exact VE|exact VF) rfl ?_|(refine Wg rfl ?_; intro _)|(refine Wh rfl ?_; intro _)|refine Wi ?_|refine Wj ?_|refine Wk ?_|refine Wl ?_|refine Wm ?_|refine Wn ?_|refine Wo ?_|refine Wp ?_|refine Wq rfl ?_|refine Wr ?_|refine Ws ?_|refine Wt ?_|refine Wu ?_|refine Wv rfl rfl ?_|(refine Ww rfl ⟨rfl, by decide, by decide, by decide⟩ ?_; intro _)|refine Wx rfl rfl ?_)
  refine JC.cut (fun y : Option Addr × Nat => [(8, .slice sa s.length sk), (9, .slice p (diskL s).length pq), (12, .slice px (diskL (s ++ [c])).length qx), (14, .slice y.1 (s ++ [c]).length y.2)])
    (fun y => [.res (buf y.1 y.2 34 (s ++ [c])), .own b3 34 [.int .i64 c.ev.node, .int .i64 c.ev.seq, .int .i64 c.gen, .slice a2 c.parents.length k2, .int .i64 c.op.kind, .string c.op.key, .string c.op.elem, .int .i64 c.op.n], .st (sl a2 k2 c.parents), .st (sl px qx (diskL (s ++ [c]))), .st (sl p pq (diskL s)), .st (sl sa sk s)]) ?_ ?_
  · refine JC.draw 4 mixed ?_
    refine JM.take 0 rfl (by kernel_rfl) rfl Va rfl rfl ?_
    refine JM.take 2 rfl (by kernel_rfl) rfl Vc rfl rfl ?_
    refine JM.two 1 3 (by kernel_rfl) rfl rfl rfl rfl rfl rfl rfl rfl (JS.appendNil (L' := s) rfl (by exact ⟨rfl, rfl, by decide⟩) (by omega) fun a2 k2 => ?_) (JS.lit rfl ⟨rfl, by decide, by decide, by decide⟩ fun lb => ?_)
    · refine JM.one 3 (by kernel_rfl) rfl rfl rfl rfl (JS.lit rfl ⟨rfl, by decide, by decide, by decide⟩ fun lb => ?_)
      refine JM.last 4 (by kernel_rfl) rfl rfl rfl (JR.append1 (L := s) (u := c) rfl (by exact ⟨rfl, rfl, by decide⟩) (by omega) (fun r t => Wd ⟨rfl, ?_⟩))
      refine JM.last 5 (by kernel_rfl) rfl rfl rfl (Wf Vb rfl (Wd ⟨rfl, ?_⟩))
      exact JM.nil (by kernel_rfl) ⟨rfl, (r, t), inferInstance⟩
    · refine JM.one 1 (by kernel_rfl) rfl rfl rfl rfl (JS.appendNil (L' := s) rfl (by exact ⟨rfl, rfl, by decide⟩) (by omega) fun a2 k2 => ?_)
      refine JM.last 4 (by kernel_rfl) rfl rfl rfl (JR.append1 (L := s) (u := c) rfl (by exact ⟨rfl, rfl, by decide⟩) (by omega) (fun r t => Wd ⟨rfl, ?_⟩))
      refine JM.last 5 (by kernel_rfl) rfl rfl rfl (Wf Vb rfl (Wd ⟨rfl, ?_⟩))
      exact JM.nil (by kernel_rfl) ⟨rfl, (r, t), inferInstance⟩
  rintro ⟨an, kn⟩
  dsimp only
  refine JC.more (fun w1 ho => ho.pub) ?_
  have hnl : (s ++ [c]).length ≤ 9 := by simp; omega
  repeat (first|refine Wa ?_|refine Wb ?_|refine Wc ?_|refine Wd ?_|refine We rfl ?_|refine Wf (by first|exact Va|exact Vb|exact Vc|exact Vd|exact Ve|exact Vf|exact Vg|exact Vh|exact Vi|exact Vj|exact Vk (by omega)|exact Vl|exact Vm|exact Vn|exact Vo|exact Vp|exact Vq|exact Vr|exact Vs (by omega)|exact Vt (by omega)|exact Vu (by omega)|exact Vv (by omega)|exact Vw|exact Vx|exact Vy|exact Vz|exact VA|exact VB|exact VC|exact VD|exact VE|exact VF) rfl ?_|(refine Wg rfl ?_; intro _)|(refine Wh rfl ?_; intro _)|refine Wi ?_|refine Wj ?_|refine Wk ?_|refine Wl ?_|refine Wm ?_|refine Wn ?_|refine Wo ?_|refine Wp ?_|refine Wq rfl ?_|refine Wr ?_|refine Ws ?_|refine Wt ?_|refine Wu ?_|refine Wv rfl rfl ?_|(refine Ww rfl ⟨rfl, by decide, by decide, by decide⟩ ?_; intro _)|refine Wx rfl rfl ?_)
  refine JR.callSlT rfl (fun w1 hw => load_store w1 _ px qx (diskL (s ++ [c])) (hw.get (A := sl px qx (diskL (s ++ [c])))) (by omega)) ?_
  intro am km
  by_cases hcn : Closed (s ++ [c])
  · obtain ⟨e1, e2⟩ := hld1 hcn
    rw [e1, e2]
    repeat (first|refine Wa ?_|refine Wb ?_|refine Wc ?_|refine Wd ?_|refine We rfl ?_|refine Wf (by first|exact Va|exact Vb|exact Vc|exact Vd|exact Ve|exact Vf|exact Vg|exact Vh|exact Vi|exact Vj|exact Vk (by omega)|exact Vl|exact Vm|exact Vn|exact Vo|exact Vp|exact Vq|exact Vr|exact Vs (by omega)|exact Vt (by omega)|exact Vu (by omega)|exact Vv (by omega)|exact Vw|exact Vx|exact Vy|exact Vz|exact VA|exact VB|exact VC|exact VD|exact VE|exact VF) rfl ?_|(refine Wg rfl ?_; intro _)|(refine Wh rfl ?_; intro _)|refine Wi ?_|refine Wj ?_|refine Wk ?_|refine Wl ?_|refine Wm ?_|refine Wn ?_|refine Wo ?_|refine Wp ?_|refine Wq rfl ?_|refine Wr ?_|refine Ws ?_|refine Wt ?_|refine Wu ?_|refine Wv rfl rfl ?_|(refine Ww rfl ⟨rfl, by decide, by decide, by decide⟩ ?_; intro _)|refine Wx rfl rfl ?_)
    refine JR.callV rfl (fun w1 hw => closed_yes w1 _ an kn (s ++ [c]) (hw.get (A := sl an kn (s ++ [c]))) (by omega) hf2 hcn) ?_
    repeat (first|refine Wa ?_|refine Wb ?_|refine Wc ?_|refine Wd ?_|refine We rfl ?_|refine Wf (by first|exact Va|exact Vb|exact Vc|exact Vd|exact Ve|exact Vf|exact Vg|exact Vh|exact Vi|exact Vj|exact Vk (by omega)|exact Vl|exact Vm|exact Vn|exact Vo|exact Vp|exact Vq|exact Vr|exact Vs (by omega)|exact Vt (by omega)|exact Vu (by omega)|exact Vv (by omega)|exact Vw|exact Vx|exact Vy|exact Vz|exact VA|exact VB|exact VC|exact VD|exact VE|exact VF) rfl ?_|(refine Wg rfl ?_; intro _)|(refine Wh rfl ?_; intro _)|refine Wi ?_|refine Wj ?_|refine Wk ?_|refine Wl ?_|refine Wm ?_|refine Wn ?_|refine Wo ?_|refine Wp ?_|refine Wq rfl ?_|refine Wr ?_|refine Ws ?_|refine Wt ?_|refine Wu ?_|refine Wv rfl rfl ?_|(refine Ww rfl ⟨rfl, by decide, by decide, by decide⟩ ?_; intro _)|refine Wx rfl rfl ?_)
    refine JR.callV rfl (fun w1 hw => list_ref w1 _ am an km kn (s ++ [c]) (s ++ [c]) (hw.get (A := sl am km (s ++ [c]))) (hw.get (A := sl an kn (s ++ [c])))) ?_
    refine JO.reslot 80 (.bool true) (by simp) ?_
    repeat (first|refine Wa ?_|refine Wb ?_|refine Wc ?_|refine Wd ?_|refine We rfl ?_|refine Wf (by first|exact Va|exact Vb|exact Vc|exact Vd|exact Ve|exact Vf|exact Vg|exact Vh|exact Vi|exact Vj|exact Vk (by omega)|exact Vl|exact Vm|exact Vn|exact Vo|exact Vp|exact Vq|exact Vr|exact Vs (by omega)|exact Vt (by omega)|exact Vu (by omega)|exact Vv (by omega)|exact Vw|exact Vx|exact Vy|exact Vz|exact VA|exact VB|exact VC|exact VD|exact VE|exact VF) rfl ?_|(refine Wg rfl ?_; intro _)|(refine Wh rfl ?_; intro _)|refine Wi ?_|refine Wj ?_|refine Wk ?_|refine Wl ?_|refine Wm ?_|refine Wn ?_|refine Wo ?_|refine Wp ?_|refine Wq rfl ?_|refine Wr ?_|refine Ws ?_|refine Wt ?_|refine Wu ?_|refine Wv rfl rfl ?_|(refine Ww rfl ⟨rfl, by decide, by decide, by decide⟩ ?_; intro _)|refine Wx rfl rfl ?_)
    exact CT.done () (by simp [packed]) (fun w ho => ho.ent)
  · obtain ⟨e1, e2⟩ := hld2 hcn
    rw [e1, e2]
    repeat (first|refine Wa ?_|refine Wb ?_|refine Wc ?_|refine Wd ?_|refine We rfl ?_|refine Wf (by first|exact Va|exact Vb|exact Vc|exact Vd|exact Ve|exact Vf|exact Vg|exact Vh|exact Vi|exact Vj|exact Vk (by omega)|exact Vl|exact Vm|exact Vn|exact Vo|exact Vp|exact Vq|exact Vr|exact Vs (by omega)|exact Vt (by omega)|exact Vu (by omega)|exact Vv (by omega)|exact Vw|exact Vx|exact Vy|exact Vz|exact VA|exact VB|exact VC|exact VD|exact VE|exact VF) rfl ?_|(refine Wg rfl ?_; intro _)|(refine Wh rfl ?_; intro _)|refine Wi ?_|refine Wj ?_|refine Wk ?_|refine Wl ?_|refine Wm ?_|refine Wn ?_|refine Wo ?_|refine Wp ?_|refine Wq rfl ?_|refine Wr ?_|refine Ws ?_|refine Wt ?_|refine Wu ?_|refine Wv rfl rfl ?_|(refine Ww rfl ⟨rfl, by decide, by decide, by decide⟩ ?_; intro _)|refine Wx rfl rfl ?_)
    refine JR.callV rfl (fun w1 hw => closed_no w1 _ an kn (s ++ [c]) (hw.get (A := sl an kn (s ++ [c]))) (by omega) hf2 hcn) ?_
    repeat (first|refine Wa ?_|refine Wb ?_|refine Wc ?_|refine Wd ?_|refine We rfl ?_|refine Wf (by first|exact Va|exact Vb|exact Vc|exact Vd|exact Ve|exact Vf|exact Vg|exact Vh|exact Vi|exact Vj|exact Vk (by omega)|exact Vl|exact Vm|exact Vn|exact Vo|exact Vp|exact Vq|exact Vr|exact Vs (by omega)|exact Vt (by omega)|exact Vu (by omega)|exact Vv (by omega)|exact Vw|exact Vx|exact Vy|exact Vz|exact VA|exact VB|exact VC|exact VD|exact VE|exact VF) rfl ?_|(refine Wg rfl ?_; intro _)|(refine Wh rfl ?_; intro _)|refine Wi ?_|refine Wj ?_|refine Wk ?_|refine Wl ?_|refine Wm ?_|refine Wn ?_|refine Wo ?_|refine Wp ?_|refine Wq rfl ?_|refine Wr ?_|refine Ws ?_|refine Wt ?_|refine Wu ?_|refine Wv rfl rfl ?_|(refine Ww rfl ⟨rfl, by decide, by decide, by decide⟩ ?_; intro _)|refine Wx rfl rfl ?_)
    refine JR.callV rfl (fun w1 hw => list_ref w1 _ am sa km sk s s (hw.get (A := sl am km s)) (hw.get (A := sl sa sk s))) ?_
    refine JO.reslot 90 (.bool true) (by simp) ?_
    repeat (first|refine Wa ?_|refine Wb ?_|refine Wc ?_|refine Wd ?_|refine We rfl ?_|refine Wf (by first|exact Va|exact Vb|exact Vc|exact Vd|exact Ve|exact Vf|exact Vg|exact Vh|exact Vi|exact Vj|exact Vk (by omega)|exact Vl|exact Vm|exact Vn|exact Vo|exact Vp|exact Vq|exact Vr|exact Vs (by omega)|exact Vt (by omega)|exact Vu (by omega)|exact Vv (by omega)|exact Vw|exact Vx|exact Vy|exact Vz|exact VA|exact VB|exact VC|exact VD|exact VE|exact VF) rfl ?_|(refine Wg rfl ?_; intro _)|(refine Wh rfl ?_; intro _)|refine Wi ?_|refine Wj ?_|refine Wk ?_|refine Wl ?_|refine Wm ?_|refine Wn ?_|refine Wo ?_|refine Wp ?_|refine Wq rfl ?_|refine Wr ?_|refine Ws ?_|refine Wt ?_|refine Wu ?_|refine Wv rfl rfl ?_|(refine Ww rfl ⟨rfl, by decide, by decide, by decide⟩ ?_; intro _)|refine Wx rfl rfl ?_)
    exact CT.done () (by simp [packed]) (fun w ho => ho.ent)
end Ab
end Go.Proofs.YtglclakhjmogiaaGreat

/- The statement StoreMoreSaid: for every input StoreMore returns true and leaves its arguments as they were. -/
namespace Go.Proofs.YtglclakhjmogiaaGreat
open Go Go.ChangeShapes Go.WideShapes Go.ChangeAt Go.RowKit
set_option linter.unusedVariables false

set_option maxRecDepth 100000 in
theorem storeMore_contract (H : Type) (enc : TypeId × Value → H) (W : World) (base : Nat) (args : Array Value) (ds gs : List (DataW H)) (before : List MemPlace)
    (hval : ∀ (j : Nat) t v, Tryz.f13.params[j]? = some t → args[j]? = some v → Value.okWide Tryz.prog W .any base t v)
    (hW : DataW.Whole enc Tryz.prog Tryz.f13.params.toList Rows.storeMoreSpec.vars false W args.toList ds gs before)
    (hsz : (DataW.weightsEach Tryz.prog (Tryz.f13.params.toList ++ Rows.storeMoreSpec.plain.varTypes Tryz.prog) (ds ++ gs)).all (· ≤ reachBytes) = true) :
    Calls Tryz.prog 13 args W fun e W' => ∃ v, e = .returned v ∧ Rows.storeMoreSpec.post enc Tryz.prog Tryz.f13 false true false false W args v W' := by
  have hW' := hW
  obtain ⟨p, q, hA0, hV, rfl, _, _⟩ := hW
  have hA : DataW.TrodAll enc Tryz.prog W 0 (fun _ => true) true Tryz.f13.params.toList args.toList ds p := hA0
  rw [Tryz.params13] at hA hval hsz
  obtain ⟨v0, v1, d0, d1, p0, p1, rfl, rfl, rfl, h0, h1⟩ := trodAll_two hA
  obtain ⟨rfl, rfl⟩ := trodVars_none hV
  have hall := List.all_eq_true.1 hsz
  have w0 : ∀ n ∈ d0.weights Tryz.prog 22, n ≤ reachBytes := fun n hn => by simpa using hall n (DataW.weights_mem_each (j := 0) rfl rfl n hn)
  have w1 : ∀ n ∈ d1.weights Tryz.prog 34, n ≤ reachBytes := fun n hn => by simpa using hall n (DataW.weights_mem_each (j := 1) rfl rfl n hn)
  obtain ⟨a0, k0, x0, rfl, s0⟩ := arg_commits (hval 0 _ v0 rfl rfl) h0 w0
  obtain ⟨x1, a1, k1, rfl, s1⟩ := arg_commit (hval 1 _ v1 rfl rfl) h1 w1
  clear hA0
  simp only [List.append_nil] at hW'
  have hlt : ∀ x ∈ p0 ++ p1, x.block < W.heap.size := fun x hx => by simpa using hW'.lt x (by simpa using hx)
  refine Calls.mono (Ab.law_storemore W (fun _ => True) a0 a1 k0 k1 x0 x1 s0 s1) ?_
  rintro e W' ⟨y, he, hbel, _⟩
  subst he
  have hB := hbel.below
  refine ⟨_, rfl, _, _, _, [], _, [], hW', ?_, trodAll_mk2 (Below.trod laid (by kernel_rfl) (of_decide_eq_true (by kernel_rfl)) h0 hB (fun x hx => hlt x (List.mem_append_left _ hx))) (Below.trod laid (by kernel_rfl) (of_decide_eq_true (by kernel_rfl)) h1 hB (fun x hx => hlt x (List.mem_append_right _ hx))), rfl, hB.frame _, fun h => by cases h⟩
  exact trodAll_cons_mk (shut_bool Tryz.underlying4 _) trodAll_mk0

set_option maxRecDepth 100000 in
theorem storeMore_lifted (os : Os) (started : os.Started) (H : Type) (enc : TypeId × Value → H) :
    ReturnsInHanded {} Tryz.checked os 13 .any (Rows.storeMoreSpec.pre6 enc Tryz.prog Tryz.f13 Rows.storeMoreRow.domain false) (Rows.storeMoreSpec.post enc Tryz.prog Tryz.f13 false true false false) := by
  refine returnsInHanded_of_change_sized (C := Tryz.checked) knobs started (by kernel_rfl) Tryz.func13
    (ChangeSpec.witness6 (enc := enc) (C := Tryz.checked) false ⟨#[], #[.slice none 0 0, .agg #[.int .i64 0, .int .i64 0, .int .i64 0, .slice none 0 0, .int .i64 0, .string .empty, .string .empty, .int .i64 0]], []⟩ 8 (by kernel_rfl) (by kernel_rfl) (by kernel_rfl) (by kernel_rfl)) ?_
  intro W base args ds gs before hval hW _ hsz _
  exact storeMore_contract H enc W base args ds gs before hval hW hsz

theorem storeMore_holds : Rows.StoreMoreSaid :=
  OpenClaim.holds_of_wide 13 Tryz.f13 rfl rfl rfl rfl rfl rfl rfl ⟨rfl, rfl, rfl, rfl, rfl⟩ rfl rfl rfl rfl rfl (by kernel_rfl) Tryz.func13 (by kernel_rfl)
    (of_decide_eq_true (by kernel_rfl)) (by unfold Func.isWrapper; first | (rw [if_pos (by decide +kernel)]; kernel_rfl) | (rw [if_neg (by decide +kernel)]; exact ⟨rfl, rfl⟩))
    (fun os started H enc _ => storeMore_lifted os started H enc)
end Go.Proofs.YtglclakhjmogiaaGreat
