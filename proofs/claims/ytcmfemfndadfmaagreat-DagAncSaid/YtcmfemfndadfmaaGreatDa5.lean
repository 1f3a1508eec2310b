/- The statement DagAncSaid: for every input DagAnc returns true and leaves its arguments as they were. -/
import Derived.Test.YtcmfemfndadfmaaGreatDa4
import Derived.Test.YtcmfemfndadfmaaGreatDa2
import Derived.SizedLaws
import Derived.ChangeArms
import Derived.KernelRfl
import Derived.OpenShut
import Derived.Test.YtcmfemfndadfmaaGreatDa3
import Derived.Test.YtcmfemfndadfmaaGreatRows
import Derived.ProofKit
import Derived.Carry
/- Contract of dag.of: the walk. -/
namespace Go.Proofs.YtcmfemfndadfmaaGreat
namespace Ab
open Go Go.RowKit
set_option linter.unusedVariables false
set_option linter.unusedSimpArgs false
set_option synthInstance.maxSize 4000
set_option synthInstance.maxHeartbeats 400000
attribute [local irreducible] JC JO JR JQ andThen inBlock OpV Gives retTo JM JS

attribute [local irreducible] JN
attribute [local irreducible] ents hashC graphA
set_option maxHeartbeats 4000000 in
theorem of_dag (w : World) (F : Nat → Prop) (a : Option Addr) (k : Nat) (L : List Commit) (h : (sl a k L).holds F w) (hl : L.length ≤ 1000000) (hf : ∀ x ∈ L, fine x) :
    Gives Tryz.prog 59 [.slice a L.length k] w F (fun y : OfY L => ofV y) (fun y => ofB y) := by
  refine gives_of Tryz.func59 rfl Tryz.ntmps59 rfl rfl [.st (sl a k L)] (.start1 h) ?_
  repeat (first|refine Wa ?_|refine Wb ?_|refine Wc ?_|refine Wd ?_|refine We rfl ?_|refine Wf (by first|exact Va|exact Vb|exact Vc|exact Vd|exact Ve|exact Vf|exact Vg|exact Vh|exact Vi|exact Vj|exact Vk (by omega)|exact Vl|exact Vm|exact Vn|exact Vo|exact Vp|exact Vq|exact Vr|exact Vs (by omega)|exact Vt (by omega)|exact Vu (by omega)|exact Vv (by omega)|exact Vw|exact Vx|exact Vy|exact Vz|exact VA|exact VB|exact VC|exact VD|exact VE|exact VF) rfl ?_|(refine Wg rfl ?_; intro _)|(refine Wh rfl ?_; intro _)|refine Wi ?_|refine Wj ?_|refine Wk ?_|refine Wl ?_|refine Wm ?_|refine Wn ?_|refine Wo ?_|refine Wp ?_|refine Wq rfl ?_|refine Wr ?_|refine Ws ?_|refine Wt ?_|refine Wu ?_|refine Wv rfl rfl ?_|(refine Ww rfl ⟨rfl, by decide, by decide, by decide⟩ ?_; intro _))
  rename_i b1 b2
  refine JR.makeMap idV rfl ?_
  intro bo
  refine We rfl ?_
  refine JR.makeMap idV rfl ?_
  intro bk
  refine We rfl ?_
  refine Wf (OpV.build [.map (some bo), .map (some bk)] (by kernel_rfl)) rfl ?_
  repeat (first|refine Wa ?_|refine Wb ?_|refine Wc ?_|refine Wd ?_|refine We rfl ?_|refine Wf (by first|exact Va|exact Vb|exact Vc|exact Vd|exact Ve|exact Vf|exact Vg|exact Vh|exact Vi|exact Vj|exact Vk (by omega)|exact Vl|exact Vm|exact Vn|exact Vo|exact Vp|exact Vq|exact Vr|exact Vs (by omega)|exact Vt (by omega)|exact Vu (by omega)|exact Vv (by omega)|exact Vw|exact Vx|exact Vy|exact Vz|exact VA|exact VB|exact VC|exact VD|exact VE|exact VF) rfl ?_|(refine Wg rfl ?_; intro _)|(refine Wh rfl ?_; intro _)|refine Wi ?_|refine Wj ?_|refine Wk ?_|refine Wl ?_|refine Wm ?_|refine Wn ?_|refine Wo ?_|refine Wp ?_|refine Wq rfl ?_|refine Wr ?_|refine Ws ?_|refine Wt ?_|refine Wu ?_|refine Wv rfl rfl ?_|(refine Ww rfl ⟨rfl, by decide, by decide, by decide⟩ ?_; intro _))
  rename_i b5
  refine JR.pubOwn b1 ?_
  refine JR.callSl rfl (fun w1 hw => ids_dag w1 _ a k L hw.get (by omega) hf) ?_
  intro p q
  repeat (first|refine Wa ?_|refine Wb ?_|refine Wc ?_|refine Wd ?_|refine We rfl ?_|refine Wf (by first|exact Va|exact Vb|exact Vc|exact Vd|exact Ve|exact Vf|exact Vg|exact Vh|exact Vi|exact Vj|exact Vk (by omega)|exact Vl|exact Vm|exact Vn|exact Vo|exact Vp|exact Vq|exact Vr|exact Vs (by omega)|exact Vt (by omega)|exact Vu (by omega)|exact Vv (by omega)|exact Vw|exact Vx|exact Vy|exact Vz|exact VA|exact VB|exact VC|exact VD|exact VE|exact VF) rfl ?_|(refine Wg rfl ?_; intro _)|(refine Wh rfl ?_; intro _)|refine Wi ?_|refine Wj ?_|refine Wk ?_|refine Wl ?_|refine Wm ?_|refine Wn ?_|refine Wo ?_|refine Wp ?_|refine Wq rfl ?_|refine Wr ?_|refine Ws ?_|refine Wt ?_|refine Wu ?_|refine Wv rfl rfl ?_|(refine Ww rfl ⟨rfl, by decide, by decide, by decide⟩ ?_; intro _))
  refine JC.test (fun hne => ?_) (fun heq => ?_)
  · have hno : ¬ Closed L := fun hc => hne (by rw [idsP_all hc.may]; simp [cids])
    repeat (first|refine Wa ?_|refine Wb ?_|refine Wc ?_|refine Wd ?_|refine We rfl ?_|refine Wf (by first|exact Va|exact Vb|exact Vc|exact Vd|exact Ve|exact Vf|exact Vg|exact Vh|exact Vi|exact Vj|exact Vk (by omega)|exact Vl|exact Vm|exact Vn|exact Vo|exact Vp|exact Vq|exact Vr|exact Vs (by omega)|exact Vt (by omega)|exact Vu (by omega)|exact Vv (by omega)|exact Vw|exact Vx|exact Vy|exact Vz|exact VA|exact VB|exact VC|exact VD|exact VE|exact VF) rfl ?_|(refine Wg rfl ?_; intro _)|(refine Wh rfl ?_; intro _)|refine Wi ?_|refine Wj ?_|refine Wk ?_|refine Wl ?_|refine Wm ?_|refine Wn ?_|refine Wo ?_|refine Wp ?_|refine Wq rfl ?_|refine Wr ?_|refine Ws ?_|refine Wt ?_|refine Wu ?_|refine Wv rfl rfl ?_|(refine Ww rfl ⟨rfl, by decide, by decide, by decide⟩ ?_; intro _))
    exact CT.done (Y := OfY L) ⟨⟨bo, bk, [], [], none, 0, false⟩, ofOk_no hno (Nat.zero_le _)⟩ rfl (fun w ho => (Hold.add (A := sl (α := ID) none 0 []) (ho.ent : Hold _ _ [] w) sl_nil))
  · have hmay : ∀ c ∈ L, may c = true := by
      intro c hc
      rw [← Bool.not_eq_false]
      intro hn
      have h1 : (idsP L).length = L.length := by omega
      rw [idsP_not hc hn, List.length_nil] at h1
      have := List.length_pos_of_mem hc
      omega
    have hids := idsP_all hmay
    have hcl : (cids L).length = L.length := cids_length L
    repeat (first|refine Wa ?_|refine Wb ?_|refine Wc ?_|refine Wd ?_|refine We rfl ?_|refine Wf (by first|exact Va|exact Vb|exact Vc|exact Vd|exact Ve|exact Vf|exact Vg|exact Vh|exact Vi|exact Vj|exact Vk (by omega)|exact Vl|exact Vm|exact Vn|exact Vo|exact Vp|exact Vq|exact Vr|exact Vs (by omega)|exact Vt (by omega)|exact Vu (by omega)|exact Vv (by omega)|exact Vw|exact Vx|exact Vy|exact Vz|exact VA|exact VB|exact VC|exact VD|exact VE|exact VF) rfl ?_|(refine Wg rfl ?_; intro _)|(refine Wh rfl ?_; intro _)|refine Wi ?_|refine Wj ?_|refine Wk ?_|refine Wl ?_|refine Wm ?_|refine Wn ?_|refine Wo ?_|refine Wp ?_|refine Wq rfl ?_|refine Wr ?_|refine Ws ?_|refine Wt ?_|refine Wu ?_|refine Wv rfl rfl ?_|(refine Ww rfl ⟨rfl, by decide, by decide, by decide⟩ ?_; intro _))
    refine JR.makeInts rfl rfl (by omega) ?_
    intro bO
    repeat (first|refine Wa ?_|refine Wb ?_|refine Wc ?_|refine Wd ?_|refine We rfl ?_|refine Wf (by first|exact Va|exact Vb|exact Vc|exact Vd|exact Ve|exact Vf|exact Vg|exact Vh|exact Vi|exact Vj|exact Vk (by omega)|exact Vl|exact Vm|exact Vn|exact Vo|exact Vp|exact Vq|exact Vr|exact Vs (by omega)|exact Vt (by omega)|exact Vu (by omega)|exact Vv (by omega)|exact Vw|exact Vx|exact Vy|exact Vz|exact VA|exact VB|exact VC|exact VD|exact VE|exact VF) rfl ?_|(refine Wg rfl ?_; intro _)|(refine Wh rfl ?_; intro _)|refine Wi ?_|refine Wj ?_|refine Wk ?_|refine Wl ?_|refine Wm ?_|refine Wn ?_|refine Wo ?_|refine Wp ?_|refine Wq rfl ?_|refine Wr ?_|refine Ws ?_|refine Wt ?_|refine Wu ?_|refine Wv rfl rfl ?_|(refine Ww rfl ⟨rfl, by decide, by decide, by decide⟩ ?_; intro _))
    rw [hids]
    refine JC.more (Γ' := .own bO 3 ((List.replicate L.length 0).map natV) :: .own b2 70 [.map none, .map none] :: .own b5 70 [.map (some bo), .map (some bk)] :: .omap bo (ents idV ([] : List (ID × Value))) ([] : List (ID × Value)).length :: .omap bk (ents idV ([] : List (ID × Value))) ([] : List (ID × Value)).length :: .st (graphA []) :: .st (ro b1 0 [.slice a L.length k]) :: .st (sl a k L) :: .st (sl p q (cids L)) :: []) (fun w1 ho => (ho.add (A := graphA []) graph_nil).ent) ?_
    refine JC.loop1 (fun (i : Nat) => [(1, .pointer (some ⟨b1, 0, none⟩)), (2, .pointer (some ⟨b2, 0, none⟩)), (5, .pointer (some ⟨b5, 0, none⟩)), (6, .slice p (cids L).length q), (7, .slice (some ⟨bO, 0, none⟩) L.length L.length), (28, .int .i64 (L.length : Int)), (29, .int .i64 (i : Int))])
      (fun i => .own bO 3 ((List.range i ++ List.replicate (L.length - i) 0).map natV) :: .own b2 70 [.map none, .map none] :: .own b5 70 [.map (some bo), .map (some bk)] :: .omap bo (ents idV ([] : List (ID × Value))) ([] : List (ID × Value)).length :: .omap bk (ents idV ([] : List (ID × Value))) ([] : List (ID × Value)).length :: .st (graphA []) :: .st (ro b1 0 [.slice a L.length k]) :: .st (sl a k L) :: .st (sl p q (cids L)) :: [])
      (fun i => i ≤ L.length) (fun i => L.length - i) 0 (Nat.zero_le _) (by rw [List.range_zero, List.nil_append, Nat.sub_zero]; infer_instance) ?_
    intro i hi
    repeat (first|refine Wa ?_|refine Wb ?_|refine Wc ?_|refine Wd ?_|refine We rfl ?_|refine Wf (by first|exact Va|exact Vb|exact Vc|exact Vd|exact Ve|exact Vf|exact Vg|exact Vh|exact Vi|exact Vj|exact Vk (by omega)|exact Vl|exact Vm|exact Vn|exact Vo|exact Vp|exact Vq|exact Vr|exact Vs (by omega)|exact Vt (by omega)|exact Vu (by omega)|exact Vv (by omega)|exact Vw|exact Vx|exact Vy|exact Vz|exact VA|exact VB|exact VC|exact VD|exact VE|exact VF) rfl ?_|(refine Wg rfl ?_; intro _)|(refine Wh rfl ?_; intro _)|refine Wi ?_|refine Wj ?_|refine Wk ?_|refine Wl ?_|refine Wm ?_|refine Wn ?_|refine Wo ?_|refine Wp ?_|refine Wq rfl ?_|refine Wr ?_|refine Ws ?_|refine Wt ?_|refine Wu ?_|refine Wv rfl rfl ?_|(refine Ww rfl ⟨rfl, by decide, by decide, by decide⟩ ?_; intro _))
    refine JC.test (fun hlt => ?_) (fun hge => ?_)
    · have hlt' : i < L.length := by omega
      have e : (List.range i ++ List.replicate (L.length - i) 0).set i i = List.range (i + 1) ++ List.replicate (L.length - (i + 1)) 0 := by
        obtain ⟨m, hm⟩ : ∃ m, L.length - i = m + 1 := ⟨L.length - i - 1, by omega⟩
        rw [hm, List.replicate_succ, List.set_append_right _ _ (by simp), List.length_range, Nat.sub_self, List.set_cons_zero, List.range_succ, List.append_assoc, show L.length - (i + 1) = m by omega]
        rfl
      repeat (first|refine Wa ?_|refine Wb ?_|refine Wc ?_|refine Wd ?_|refine We rfl ?_|refine Wf (by first|exact Va|exact Vb|exact Vc|exact Vd|exact Ve|exact Vf|exact Vg|exact Vh|exact Vi|exact Vj|exact Vk (by omega)|exact Vl|exact Vm|exact Vn|exact Vo|exact Vp|exact Vq|exact Vr|exact Vs (by omega)|exact Vt (by omega)|exact Vu (by omega)|exact Vv (by omega)|exact Vw|exact Vx|exact Vy|exact Vz|exact VA|exact VB|exact VC|exact VD|exact VE|exact VF) rfl ?_|(refine Wg rfl ?_; intro _)|(refine Wh rfl ?_; intro _)|refine Wi ?_|refine Wj ?_|refine Wk ?_|refine Wl ?_|refine Wm ?_|refine Wn ?_|refine Wo ?_|refine Wp ?_|refine Wq rfl ?_|refine Wr ?_|refine Ws ?_|refine Wt ?_|refine Wu ?_|refine Wv rfl rfl ?_|(refine Ww rfl ⟨rfl, by decide, by decide, by decide⟩ ?_; intro _))
      refine Wf (OpV.indexBuf (k := i) hlt') rfl ?_
      refine We rfl ?_
      refine JR.setW (f := natV) i i (by simp; omega) (by omega) rfl ?_
      rw [e]
      repeat (first|refine Wa ?_|refine Wb ?_|refine Wc ?_|refine Wd ?_|refine We rfl ?_|refine Wf (by first|exact Va|exact Vb|exact Vc|exact Vd|exact Ve|exact Vf|exact Vg|exact Vh|exact Vi|exact Vj|exact Vk (by omega)|exact Vl|exact Vm|exact Vn|exact Vo|exact Vp|exact Vq|exact Vr|exact Vs (by omega)|exact Vt (by omega)|exact Vu (by omega)|exact Vv (by omega)|exact Vw|exact Vx|exact Vy|exact Vz|exact VA|exact VB|exact VC|exact VD|exact VE|exact VF) rfl ?_|(refine Wg rfl ?_; intro _)|(refine Wh rfl ?_; intro _)|refine Wi ?_|refine Wj ?_|refine Wk ?_|refine Wl ?_|refine Wm ?_|refine Wn ?_|refine Wo ?_|refine Wp ?_|refine Wq rfl ?_|refine Wr ?_|refine Ws ?_|refine Wt ?_|refine Wu ?_|refine Wv rfl rfl ?_|(refine Ww rfl ⟨rfl, by decide, by decide, by decide⟩ ?_; intro _))
      exact ⟨i + 1, by omega, by omega, inferInstance⟩
    obtain rfl : i = L.length := by omega
    rw [show List.range L.length ++ List.replicate (L.length - L.length) 0 = List.range L.length by simp]
    repeat (first|refine Wa ?_|refine Wb ?_|refine Wc ?_|refine Wd ?_|refine We rfl ?_|refine Wf (by first|exact Va|exact Vb|exact Vc|exact Vd|exact Ve|exact Vf|exact Vg|exact Vh|exact Vi|exact Vj|exact Vk (by omega)|exact Vl|exact Vm|exact Vn|exact Vo|exact Vp|exact Vq|exact Vr|exact Vs (by omega)|exact Vt (by omega)|exact Vu (by omega)|exact Vv (by omega)|exact Vw|exact Vx|exact Vy|exact Vz|exact VA|exact VB|exact VC|exact VD|exact VE|exact VF) rfl ?_|(refine Wg rfl ?_; intro _)|(refine Wh rfl ?_; intro _)|refine Wi ?_|refine Wj ?_|refine Wk ?_|refine Wl ?_|refine Wm ?_|refine Wn ?_|refine Wo ?_|refine Wp ?_|refine Wq rfl ?_|refine Wr ?_|refine Ws ?_|refine Wt ?_|refine Wu ?_|refine Wv rfl rfl ?_|(refine Ww rfl ⟨rfl, by decide, by decide, by decide⟩ ?_; intro _))
    refine JR.callW (v := fun _ : Order (fun i j => cmpI (genC L i) (genC L j)) L.length => .tuple ⟨[]⟩) rfl (fun w1 hw => sortFunc_gen (el := 3) (a := a) (k := k) (bl := b1) (Γ := .own b2 70 [.map none, .map none] :: .own b5 70 [.map (some bo), .map (some bk)] :: .omap bo (ents idV ([] : List (ID × Value))) ([] : List (ID × Value)).length :: .omap bk (ents idV ([] : List (ID × Value))) ([] : List (ID × Value)).length :: .st (graphA []) :: .st (sl p q (cids L)) :: []) hl hw.ent) ?_
    rintro ⟨O, hO1, hO2⟩
    dsimp only
    have hOl : O.length = L.length := by rw [hO1.length_eq, List.length_range]
    obtain ⟨Lo, hLo⟩ : ∃ Lo, Lo = byO L O := ⟨_, rfl⟩
    have hLp : Lo.Perm L := hLo ▸ byO_perm hO1
    have hLl : Lo.length = L.length := hLp.length_eq
    have hLs : Lo.Pairwise (fun c d => c.gen ≤ d.gen) := by
      rw [hLo, byO, List.pairwise_map]
      refine hO2.imp ?_
      intro i j hij
      rw [cmpI_lt] at hij
      simp only [genC] at hij
      omega
    repeat (first|refine Wa ?_|refine Wb ?_|refine Wc ?_|refine Wd ?_|refine We rfl ?_|refine Wf (by first|exact Va|exact Vb|exact Vc|exact Vd|exact Ve|exact Vf|exact Vg|exact Vh|exact Vi|exact Vj|exact Vk (by omega)|exact Vl|exact Vm|exact Vn|exact Vo|exact Vp|exact Vq|exact Vr|exact Vs (by omega)|exact Vt (by omega)|exact Vu (by omega)|exact Vv (by omega)|exact Vw|exact Vx|exact Vy|exact Vz|exact VA|exact VB|exact VC|exact VD|exact VE|exact VF) rfl ?_|(refine Wg rfl ?_; intro _)|(refine Wh rfl ?_; intro _)|refine Wi ?_|refine Wj ?_|refine Wk ?_|refine Wl ?_|refine Wm ?_|refine Wn ?_|refine Wo ?_|refine Wp ?_|refine Wq rfl ?_|refine Wr ?_|refine Ws ?_|refine Wt ?_|refine Wu ?_|refine Wv rfl rfl ?_|(refine Ww rfl ⟨rfl, by decide, by decide, by decide⟩ ?_; intro _))
    refine JC.loop2 (fun (i : Nat) (R : List Row) => [(1, .pointer (some ⟨b1, 0, none⟩)), (2, .pointer (some ⟨b2, 0, none⟩)), (5, .pointer (some ⟨b5, 0, none⟩)), (6, .slice p (cids L).length q), (40, .slice (some ⟨bO, 0, none⟩) L.length L.length), (41, .int .i64 (L.length : Int)), (42, .int .i64 (i : Int))])
      (fun i R => .own bO 3 (O.map natV) :: .own b2 70 [.map none, .map none] :: .own b5 70 [.map (some bo), .map (some bk)] :: .omap bo (ents idV (ofM R)) (ofM R).length :: .omap bk (ents idV (knM R)) (knM R).length :: .st (graphA R) :: .st (ro b1 0 [.slice a L.length k]) :: .st (sl a k L) :: .st (sl p q (cids L)) :: [])
      (fun i R => i ≤ L.length ∧ Built (grOf R) ∧ nodes (grOf R) = Lo.take i ∧ ∀ r ∈ R, r.1.2.Nodup) (fun i _ => L.length - i) 0 [] ⟨Nat.zero_le _, .nil, rfl, by simp⟩ (by rw [show ofM [] = [] from rfl, show knM [] = [] from rfl]; infer_instance) ?_
    intro i R ⟨hi, hB, hnd, hS⟩
    have hR := hB.right
    have hgen : ∀ r ∈ R, 0 ≤ r.1.1.gen ∧ r.1.1.gen ≤ 1048576 := fun r hr => by
      have h1 : r.1.1 ∈ nodes (grOf R) := by rw [nodes_gr]; exact List.mem_map.2 ⟨r, hr, rfl⟩
      rw [hnd] at h1
      have h2 := may_gen (hmay _ (hLp.mem_iff.1 (List.mem_of_mem_take h1)))
      omega
    repeat (first|refine Wa ?_|refine Wb ?_|refine Wc ?_|refine Wd ?_|refine We rfl ?_|refine Wf (by first|exact Va|exact Vb|exact Vc|exact Vd|exact Ve|exact Vf|exact Vg|exact Vh|exact Vi|exact Vj|exact Vk (by omega)|exact Vl|exact Vm|exact Vn|exact Vo|exact Vp|exact Vq|exact Vr|exact Vs (by omega)|exact Vt (by omega)|exact Vu (by omega)|exact Vv (by omega)|exact Vw|exact Vx|exact Vy|exact Vz|exact VA|exact VB|exact VC|exact VD|exact VE|exact VF) rfl ?_|(refine Wg rfl ?_; intro _)|(refine Wh rfl ?_; intro _)|refine Wi ?_|refine Wj ?_|refine Wk ?_|refine Wl ?_|refine Wm ?_|refine Wn ?_|refine Wo ?_|refine Wp ?_|refine Wq rfl ?_|refine Wr ?_|refine Ws ?_|refine Wt ?_|refine Wu ?_|refine Wv rfl rfl ?_|(refine Ww rfl ⟨rfl, by decide, by decide, by decide⟩ ?_; intro _))
    refine JC.test (fun hlt => ?_) (fun hge => ?_)
    · have hlt' : i < L.length := by omega
      have hiO : i < O.length := by omega
      obtain ⟨j, hj⟩ : ∃ j, j = O[i] := ⟨_, rfl⟩
      have hjn : j < L.length := by rw [hj]; exact List.mem_range.1 (hO1.mem_iff.1 (List.getElem_mem hiO))
      have hLi : i < Lo.length := by omega
      have hLoi : Lo[i] = L[j] := by
        subst hLo
        simp [byO, ← hj, List.getD_eq_getElem?_getD, hjn]
      have hjm : L[j] ∈ L := List.getElem_mem hjn
      have hxe : (cids L)[j]'(by omega) = idC L[j] := cids_get L j (by omega)
      have hstep : Closed L → idC L[j] ∉ cids (nodes (grOf R)) ∧ merge L[j] = false ∧ addOk (grOf R) L[j] = true ∧ addGen (grOf R) L[j] = true := fun hc => by
        have := (Closed.perm hLp.symm hc).step hLs hB hLi hnd
        rwa [hLoi] at this
      have hkO : ((ofM R).map (·.1)).Nodup := by rw [ofM_keys]; exact hR.nodup
      repeat (first|refine Wa ?_|refine Wb ?_|refine Wc ?_|refine Wd ?_|refine We rfl ?_|refine Wf (by first|exact Va|exact Vb|exact Vc|exact Vd|exact Ve|exact Vf|exact Vg|exact Vh|exact Vi|exact Vj|exact Vk (by omega)|exact Vl|exact Vm|exact Vn|exact Vo|exact Vp|exact Vq|exact Vr|exact Vs (by omega)|exact Vt (by omega)|exact Vu (by omega)|exact Vv (by omega)|exact Vw|exact Vx|exact Vy|exact Vz|exact VA|exact VB|exact VC|exact VD|exact VE|exact VF) rfl ?_|(refine Wg rfl ?_; intro _)|(refine Wh rfl ?_; intro _)|refine Wi ?_|refine Wj ?_|refine Wk ?_|refine Wl ?_|refine Wm ?_|refine Wn ?_|refine Wo ?_|refine Wp ?_|refine Wq rfl ?_|refine Wr ?_|refine Ws ?_|refine Wt ?_|refine Wu ?_|refine Wv rfl rfl ?_|(refine Ww rfl ⟨rfl, by decide, by decide, by decide⟩ ?_; intro _))
      refine Wf (OpV.indexBuf (k := i) (by omega)) rfl ?_
      refine We rfl ?_
      refine Wf (OpV.getW (f := natV) i (by omega) (by omega) rfl) rfl ?_
      refine JO.reslot 45 (natV j) (by rw [hj]) ?_
      repeat (first|refine Wa ?_|refine Wb ?_|refine Wc ?_|refine Wd ?_|refine We rfl ?_|refine Wf (by first|exact Va|exact Vb|exact Vc|exact Vd|exact Ve|exact Vf|exact Vg|exact Vh|exact Vi|exact Vj|exact Vk (by omega)|exact Vl|exact Vm|exact Vn|exact Vo|exact Vp|exact Vq|exact Vr|exact Vs (by omega)|exact Vt (by omega)|exact Vu (by omega)|exact Vv (by omega)|exact Vw|exact Vx|exact Vy|exact Vz|exact VA|exact VB|exact VC|exact VD|exact VE|exact VF) rfl ?_|(refine Wg rfl ?_; intro _)|(refine Wh rfl ?_; intro _)|refine Wi ?_|refine Wj ?_|refine Wk ?_|refine Wl ?_|refine Wm ?_|refine Wn ?_|refine Wo ?_|refine Wp ?_|refine Wq rfl ?_|refine Wr ?_|refine Ws ?_|refine Wt ?_|refine Wu ?_|refine Wv rfl rfl ?_|(refine Ww rfl ⟨rfl, by decide, by decide, by decide⟩ ?_; intro _))
      refine JC.openID (L := cids L) (.slice p (cids L).length q) j (by omega) ?_
      intro bi oi
      rw [hxe]
      by_cases hd : idC L[j] ∈ cids (nodes (grOf R))
      · have hno : ¬ Closed L := fun hc => (hstep hc).1 hd
        obtain ⟨r, hr, hre, hgo, hgk, hkn⟩ := row_of hR.nodup hd
        refine JC.drawN [.own b5 70 [.map (some bo), .map (some bk)], .omap bo (ents idV (ofM R)) (ofM R).length, .st (elA (.slice p (cids L).length q) j 32 bi oi), .st (ro bi oi (idc (idC L[j])))] mixed ?_
        refine JN.take 0 rfl (by kernel_rfl) rfl Vd rfl rfl ?_
        refine JN.take 1 rfl (by kernel_rfl) rfl Vc rfl rfl ?_
        refine JN.take 2 rfl (by kernel_rfl) rfl Va rfl rfl ?_
        refine JN.take 3 rfl (by kernel_rfl) rfl Va rfl rfl ?_
        refine JN.take 4 rfl (by kernel_rfl) rfl Ve rfl rfl ?_
        refine JN.take 5 rfl (by kernel_rfl) rfl Vc rfl rfl ?_
        refine JN.take 6 rfl (by kernel_rfl) rfl (OpV.lookupOk (M := ofM R) (v := commitV r.1.1 r.2.1 r.2.2.1) (is := true) (idC L[j]) hkO (by rw [hgo]; rfl) (by rw [hgo]; rfl)) rfl rfl ?_
        refine JN.take 7 rfl (by kernel_rfl) rfl Va rfl rfl ?_
        refine JN.take 8 rfl (by kernel_rfl) rfl Vq rfl rfl ?_
        refine JN.take 9 rfl (by kernel_rfl) rfl Vq rfl rfl ?_
        refine JN.op 10 (by kernel_rfl) rfl rfl (Wg rfl (fun b11 => Wd ⟨rfl, inferInstance, ?_⟩))
        refine JN.op 11 (by kernel_rfl) rfl rfl (Wi (Wd ⟨rfl, inferInstance, ?_⟩))
        refine JN.op 12 (by kernel_rfl) rfl rfl (Wf Vb rfl (Wd ⟨rfl, inferInstance, ?_⟩))
        refine JN.nil (by kernel_rfl) ?_
        repeat (first|refine Wa ?_|refine Wb ?_|refine Wc ?_|refine Wd ?_|refine We rfl ?_|refine Wf (by first|exact Va|exact Vb|exact Vc|exact Vd|exact Ve|exact Vf|exact Vg|exact Vh|exact Vi|exact Vj|exact Vk (by omega)|exact Vl|exact Vm|exact Vn|exact Vo|exact Vp|exact Vq|exact Vr|exact Vs (by omega)|exact Vt (by omega)|exact Vu (by omega)|exact Vv (by omega)|exact Vw|exact Vx|exact Vy|exact Vz|exact VA|exact VB|exact VC|exact VD|exact VE|exact VF) rfl ?_|(refine Wg rfl ?_; intro _)|(refine Wh rfl ?_; intro _)|refine Wi ?_|refine Wj ?_|refine Wk ?_|refine Wl ?_|refine Wm ?_|refine Wn ?_|refine Wo ?_|refine Wp ?_|refine Wq rfl ?_|refine Wr ?_|refine Ws ?_|refine Wt ?_|refine Wu ?_|refine Wv rfl rfl ?_|(refine Ww rfl ⟨rfl, by decide, by decide, by decide⟩ ?_; intro _))
        refine JC.quiet mixed (by kernel_rfl) ?_
        repeat (first|refine Wy rfl (by first|exact Va|exact Vb|exact Vc|exact Vd|exact Ve|exact Vf|exact Vg|exact Vh|exact Vi|exact Vj|exact Vk (by omega)|exact Vl|exact Vm|exact Vn|exact Vo|exact Vp|exact Vq|exact Vr|exact Vs (by omega)|exact Vt (by omega)|exact Vu (by omega)|exact Vv (by omega)|exact Vw|exact Vx|exact Vy|exact Vz|exact VA|exact VB|exact VC|exact VD|exact VE|exact VF) rfl ?_|refine Wz rfl rfl ?_|refine WA rfl rfl ?_|refine WB ?_)
        repeat (first|refine Wa ?_|refine Wb ?_|refine Wc ?_|refine Wd ?_|refine We rfl ?_|refine Wf (by first|exact Va|exact Vb|exact Vc|exact Vd|exact Ve|exact Vf|exact Vg|exact Vh|exact Vi|exact Vj|exact Vk (by omega)|exact Vl|exact Vm|exact Vn|exact Vo|exact Vp|exact Vq|exact Vr|exact Vs (by omega)|exact Vt (by omega)|exact Vu (by omega)|exact Vv (by omega)|exact Vw|exact Vx|exact Vy|exact Vz|exact VA|exact VB|exact VC|exact VD|exact VE|exact VF) rfl ?_|(refine Wg rfl ?_; intro _)|(refine Wh rfl ?_; intro _)|refine Wi ?_|refine Wj ?_|refine Wk ?_|refine Wl ?_|refine Wm ?_|refine Wn ?_|refine Wo ?_|refine Wp ?_|refine Wq rfl ?_|refine Wr ?_|refine Ws ?_|refine Wt ?_|refine Wu ?_|refine Wv rfl rfl ?_|(refine Ww rfl ⟨rfl, by decide, by decide, by decide⟩ ?_; intro _))
        exact CT.done (Y := OfY L) ⟨⟨bo, bk, [], [], none, 0, false⟩, ofOk_no hno (Nat.zero_le _)⟩ rfl (fun w ho => (Hold.add (A := sl (α := ID) none 0 []) (ho.ent : Hold _ _ [] w) sl_nil))
      · obtain ⟨hgo, hgk⟩ := row_none hd
        refine JC.drawN [.own b5 70 [.map (some bo), .map (some bk)], .omap bo (ents idV (ofM R)) (ofM R).length, .st (elA (.slice p (cids L).length q) j 32 bi oi), .st (ro bi oi (idc (idC L[j])))] mixed ?_
        refine JN.take 0 rfl (by kernel_rfl) rfl Vd rfl rfl ?_
        refine JN.take 1 rfl (by kernel_rfl) rfl Vc rfl rfl ?_
        refine JN.take 2 rfl (by kernel_rfl) rfl Va rfl rfl ?_
        refine JN.take 3 rfl (by kernel_rfl) rfl Va rfl rfl ?_
        refine JN.take 4 rfl (by kernel_rfl) rfl Ve rfl rfl ?_
        refine JN.take 5 rfl (by kernel_rfl) rfl Vc rfl rfl ?_
        refine JN.take 6 rfl (by kernel_rfl) rfl (OpV.lookupOk (M := ofM R) (v := .agg ⟨[.int .i64 0, .int .i64 0, .int .i64 0, .slice none 0 0, .int .i64 0, .string .empty, .string .empty, .int .i64 0]⟩) (is := false) (idC L[j]) hkO (by rw [hgo]; rfl) (by rw [hgo]; rfl)) rfl rfl ?_
        refine JN.take 7 rfl (by kernel_rfl) rfl Va rfl rfl ?_
        refine JN.take 8 rfl (by kernel_rfl) rfl Vq rfl rfl ?_
        refine JN.take 9 rfl (by kernel_rfl) rfl Vq rfl rfl ?_
        refine JN.op 10 (by kernel_rfl) rfl rfl (Wg rfl (fun b11 => Wd ⟨rfl, inferInstance, ?_⟩))
        refine JN.op 11 (by kernel_rfl) rfl rfl (Wi (Wd ⟨rfl, inferInstance, ?_⟩))
        refine JN.op 12 (by kernel_rfl) rfl rfl (Wf Vb rfl (Wd ⟨rfl, inferInstance, ?_⟩))
        refine JN.nil (by kernel_rfl) ?_
        repeat (first|refine Wa ?_|refine Wb ?_|refine Wc ?_|refine Wd ?_|refine We rfl ?_|refine Wf (by first|exact Va|exact Vb|exact Vc|exact Vd|exact Ve|exact Vf|exact Vg|exact Vh|exact Vi|exact Vj|exact Vk (by omega)|exact Vl|exact Vm|exact Vn|exact Vo|exact Vp|exact Vq|exact Vr|exact Vs (by omega)|exact Vt (by omega)|exact Vu (by omega)|exact Vv (by omega)|exact Vw|exact Vx|exact Vy|exact Vz|exact VA|exact VB|exact VC|exact VD|exact VE|exact VF) rfl ?_|(refine Wg rfl ?_; intro _)|(refine Wh rfl ?_; intro _)|refine Wi ?_|refine Wj ?_|refine Wk ?_|refine Wl ?_|refine Wm ?_|refine Wn ?_|refine Wo ?_|refine Wp ?_|refine Wq rfl ?_|refine Wr ?_|refine Ws ?_|refine Wt ?_|refine Wu ?_|refine Wv rfl rfl ?_|(refine Ww rfl ⟨rfl, by decide, by decide, by decide⟩ ?_; intro _))
        refine JC.openCommit (L := L) (.slice a L.length k) j hjn ?_
        intro bc oc pc qc
        have hfx := hf _ hjm
        cases hmer : merge L[j] with
        | true =>
          have hno : ¬ Closed L := fun hc => by have := (hstep hc).2.1; rw [hmer] at this; cases this
          refine JC.quiet mixed (by kernel_rfl) ?_
          repeat (first|refine Wy rfl (by first|exact Va|exact Vb|exact Vc|exact Vd|exact Ve|exact Vf|exact Vg|exact Vh|exact Vi|exact Vj|exact Vk (by omega)|exact Vl|exact Vm|exact Vn|exact Vo|exact Vp|exact Vq|exact Vr|exact Vs (by omega)|exact Vt (by omega)|exact Vu (by omega)|exact Vv (by omega)|exact Vw|exact Vx|exact Vy|exact Vz|exact VA|exact VB|exact VC|exact VD|exact VE|exact VF) rfl ?_|refine Wz rfl rfl ?_|refine WB ?_)
          refine JQ.call rfl rfl (fun w1 hw => merge_commit w1 _ (L[j]) pc qc hw.get hfx.1) ?_
          refine JQ.reslot 62 (.bool true) (by rw [hmer]) ?_
          repeat (first|refine Wy rfl (by first|exact Va|exact Vb|exact Vc|exact Vd|exact Ve|exact Vf|exact Vg|exact Vh|exact Vi|exact Vj|exact Vk (by omega)|exact Vl|exact Vm|exact Vn|exact Vo|exact Vp|exact Vq|exact Vr|exact Vs (by omega)|exact Vt (by omega)|exact Vu (by omega)|exact Vv (by omega)|exact Vw|exact Vx|exact Vy|exact Vz|exact VA|exact VB|exact VC|exact VD|exact VE|exact VF) rfl ?_|refine Wz rfl rfl ?_|refine WA rfl rfl ?_|refine WB ?_)
          repeat (first|refine Wa ?_|refine Wb ?_|refine Wc ?_|refine Wd ?_|refine We rfl ?_|refine Wf (by first|exact Va|exact Vb|exact Vc|exact Vd|exact Ve|exact Vf|exact Vg|exact Vh|exact Vi|exact Vj|exact Vk (by omega)|exact Vl|exact Vm|exact Vn|exact Vo|exact Vp|exact Vq|exact Vr|exact Vs (by omega)|exact Vt (by omega)|exact Vu (by omega)|exact Vv (by omega)|exact Vw|exact Vx|exact Vy|exact Vz|exact VA|exact VB|exact VC|exact VD|exact VE|exact VF) rfl ?_|(refine Wg rfl ?_; intro _)|(refine Wh rfl ?_; intro _)|refine Wi ?_|refine Wj ?_|refine Wk ?_|refine Wl ?_|refine Wm ?_|refine Wn ?_|refine Wo ?_|refine Wp ?_|refine Wq rfl ?_|refine Wr ?_|refine Ws ?_|refine Wt ?_|refine Wu ?_|refine Wv rfl rfl ?_|(refine Ww rfl ⟨rfl, by decide, by decide, by decide⟩ ?_; intro _))
          exact CT.done (Y := OfY L) ⟨⟨bo, bk, [], [], none, 0, false⟩, ofOk_no hno (Nat.zero_le _)⟩ rfl (fun w ho => (Hold.add (A := sl (α := ID) none 0 []) (ho.ent : Hold _ _ [] w) sl_nil))
        | false =>
          refine JC.draw 18 mixed ?_
          refine JM.take 0 rfl (by kernel_rfl) rfl Va rfl rfl ?_
          refine JM.take 1 rfl (by kernel_rfl) rfl Va rfl rfl ?_
          refine JM.take 2 rfl (by kernel_rfl) rfl Vc rfl rfl ?_
          refine JM.take 3 rfl (by kernel_rfl) rfl Va rfl rfl ?_
          refine JM.take 4 rfl (by kernel_rfl) rfl Ve rfl rfl ?_
          refine JM.take 5 rfl (by kernel_rfl) rfl Vc rfl rfl ?_
          refine JM.takeCall 6 rfl (by kernel_rfl) rfl (fun w1 hw => merge_commit w1 _ (L[j]) pc qc hw.get hfx.1) rfl rfl ?_
          refine JM.reslot 62 (.bool false) (by rw [hmer]) ?_
          refine JM.take 7 rfl (by kernel_rfl) rfl Vj rfl rfl ?_
          refine JM.take 8 rfl (by kernel_rfl) rfl Va rfl rfl ?_
          refine JM.take 9 rfl (by kernel_rfl) rfl Vc rfl rfl ?_
          refine JM.take 10 rfl (by kernel_rfl) rfl Va rfl rfl ?_
          refine JM.take 11 rfl (by kernel_rfl) rfl Va rfl rfl ?_
          refine JM.take 12 rfl (by kernel_rfl) rfl Ve rfl rfl ?_
          refine JM.take 13 rfl (by kernel_rfl) rfl Vc rfl rfl ?_
          refine JM.take 14 rfl (by kernel_rfl) rfl Vc rfl rfl ?_
          refine JM.take 15 rfl (by kernel_rfl) rfl Va rfl rfl ?_
          refine JM.take 16 rfl (by kernel_rfl) rfl Ve rfl rfl ?_
          refine JM.take 17 rfl (by kernel_rfl) rfl Vc rfl rfl ?_
          refine JM.last 18 (by kernel_rfl) rfl rfl rfl (JR.callW (v := fun y : AddY R L[j] => .bool y.1.2.2) rfl (fun w1 hw => add_graph (a := pc) (k := qc) (Γ := .own bO 3 (O.map natV) :: .own b2 70 [.map none, .map none] :: .own b5 70 [.map (some bo), .map (some bk)] :: .st (ro b1 0 [.slice a L.length k]) :: .st (sl a k L) :: .st (sl p q (cids L)) :: []) hR.nodup hS hd hgen hw.ent) (fun y => ?_))
          rcases y with ⟨⟨S, ba, ok⟩, hy1, hy2⟩
          dsimp only at hy1 hy2 ⊢
          cases ok with
          | false =>
            have hno : ¬ Closed L := fun hc => by
              have := hstep hc
              rw [this.2.2.1, this.2.2.2] at hy1; cases hy1
            rw [if_neg (by simp)]
            refine Wd ⟨rfl, ?_⟩
            refine JM.last 19 (by kernel_rfl) rfl rfl rfl (Wf Vh rfl (Wd ⟨rfl, ?_⟩))
            refine JM.last 20 (by kernel_rfl) rfl rfl rfl (Wf Vj rfl (Wd ⟨rfl, ?_⟩))
            refine JM.nil (by kernel_rfl) ?_
            repeat (first|refine Wa ?_|refine Wb ?_|refine Wc ?_|refine Wd ?_|refine We rfl ?_|refine Wf (by first|exact Va|exact Vb|exact Vc|exact Vd|exact Ve|exact Vf|exact Vg|exact Vh|exact Vi|exact Vj|exact Vk (by omega)|exact Vl|exact Vm|exact Vn|exact Vo|exact Vp|exact Vq|exact Vr|exact Vs (by omega)|exact Vt (by omega)|exact Vu (by omega)|exact Vv (by omega)|exact Vw|exact Vx|exact Vy|exact Vz|exact VA|exact VB|exact VC|exact VD|exact VE|exact VF) rfl ?_|(refine Wg rfl ?_; intro _)|(refine Wh rfl ?_; intro _)|refine Wi ?_|refine Wj ?_|refine Wk ?_|refine Wl ?_|refine Wm ?_|refine Wn ?_|refine Wo ?_|refine Wp ?_|refine Wq rfl ?_|refine Wr ?_|refine Ws ?_|refine Wt ?_|refine Wu ?_|refine Wv rfl rfl ?_|(refine Ww rfl ⟨rfl, by decide, by decide, by decide⟩ ?_; intro _))
            exact CT.done (Y := OfY L) ⟨⟨bo, bk, [], [], none, 0, false⟩, ofOk_no hno (Nat.zero_le _)⟩ rfl (fun w ho => (Hold.add (A := sl (α := ID) none 0 []) (ho.ent : Hold _ _ [] w) sl_nil))
          | true =>
            obtain ⟨hSn, hSk⟩ := hy2 rfl
            have hy1' := hy1.symm
            rw [Bool.and_eq_true] at hy1'
            rw [if_pos rfl]
            refine Wd ⟨rfl, ?_⟩
            refine JM.last 19 (by kernel_rfl) rfl rfl rfl (Wf Vh rfl (Wd ⟨rfl, ?_⟩))
            refine JM.last 20 (by kernel_rfl) rfl rfl rfl (Wf Vj rfl (Wd ⟨rfl, ?_⟩))
            refine JM.nil (by kernel_rfl) ?_
            repeat (first|refine Wa ?_|refine Wb ?_|refine Wc ?_|refine Wd ?_|refine We rfl ?_|refine Wf (by first|exact Va|exact Vb|exact Vc|exact Vd|exact Ve|exact Vf|exact Vg|exact Vh|exact Vi|exact Vj|exact Vk (by omega)|exact Vl|exact Vm|exact Vn|exact Vo|exact Vp|exact Vq|exact Vr|exact Vs (by omega)|exact Vt (by omega)|exact Vu (by omega)|exact Vv (by omega)|exact Vw|exact Vx|exact Vy|exact Vz|exact VA|exact VB|exact VC|exact VD|exact VE|exact VF) rfl ?_|(refine Wg rfl ?_; intro _)|(refine Wh rfl ?_; intro _)|refine Wi ?_|refine Wj ?_|refine Wk ?_|refine Wl ?_|refine Wm ?_|refine Wn ?_|refine Wo ?_|refine Wp ?_|refine Wq rfl ?_|refine Wr ?_|refine Ws ?_|refine Wt ?_|refine Wu ?_|refine Wv rfl rfl ?_|(refine Ww rfl ⟨rfl, by decide, by decide, by decide⟩ ?_; intro _))
            refine ⟨i + 1, R ++ [((L[j], S), (pc, qc, ba))], ⟨by omega, ?_, ?_, fun r hr => ?_⟩, by omega, inferInstance⟩
            · rw [grOf_snoc]; exact .snoc hB hd hmer hy1'.1 hy1'.2 hSk
            · rw [grOf_snoc, nodes_snoc, hnd, List.take_succ_eq_append_getElem hLi, hLoi]
            · rcases List.mem_append.1 hr with hr | hr
              · exact hS r hr
              · simp only [List.mem_singleton] at hr; subst hr; exact hSn
    · obtain rfl : i = L.length := by omega
      rw [List.take_of_length_le (by omega)] at hnd
      have hfin : Closed L ↔ evG R = true := by
        rw [evG_iff hR]
        constructor
        · intro hc c hcm d hdm
          rw [hnd] at hcm hdm ⊢
          exact (Closed.perm hLp.symm hc).ev c hcm d hdm
        · intro he
          have := hB.closed (fun c hc => hmay c (by rw [hnd] at hc; exact hLp.mem_iff.1 hc)) he
          rw [hnd] at this
          exact Closed.perm hLp this
      refine JC.more (Γ' := .st (rmap bo (ents idV (ofM R)) (ofM R).length) :: .st (rmap bk (ents idV (knM R)) (knM R).length) :: .st (graphA R) :: .own b2 70 [.map none, .map none] :: .own b5 70 [.map (some bo), .map (some bk)] :: .st (ro b1 0 [.slice a L.length k]) :: .st (sl a k L) :: .st (sl p q (cids L)) :: []) (fun w1 ho => ?_) ?_
      · have h1 : Hold _ _ (.omap bo (ents idV (ofM R)) (ofM R).length :: .omap bk (ents idV (knM R)) (knM R).length :: .st (graphA R) :: .own b2 70 [.map none, .map none] :: .own b5 70 [.map (some bo), .map (some bk)] :: .st (ro b1 0 [.slice a L.length k]) :: .st (sl a k L) :: .st (sl p q (cids L)) :: []) w1 := ho.ent
        have h2 : Hold _ _ (.omap bk (ents idV (knM R)) (knM R).length :: .st (rmap bo (ents idV (ofM R)) (ofM R).length) :: .st (graphA R) :: .own b2 70 [.map none, .map none] :: .own b5 70 [.map (some bo), .map (some bk)] :: .st (ro b1 0 [.slice a L.length k]) :: .st (sl a k L) :: .st (sl p q (cids L)) :: []) w1 := (h1.pubMap).ent
        exact (h2.pubMap).ent
      repeat (first|refine Wa ?_|refine Wb ?_|refine Wc ?_|refine Wd ?_|refine We rfl ?_|refine Wf (by first|exact Va|exact Vb|exact Vc|exact Vd|exact Ve|exact Vf|exact Vg|exact Vh|exact Vi|exact Vj|exact Vk (by omega)|exact Vl|exact Vm|exact Vn|exact Vo|exact Vp|exact Vq|exact Vr|exact Vs (by omega)|exact Vt (by omega)|exact Vu (by omega)|exact Vv (by omega)|exact Vw|exact Vx|exact Vy|exact Vz|exact VA|exact VB|exact VC|exact VD|exact VE|exact VF) rfl ?_|(refine Wg rfl ?_; intro _)|(refine Wh rfl ?_; intro _)|refine Wi ?_|refine Wj ?_|refine Wk ?_|refine Wl ?_|refine Wm ?_|refine Wn ?_|refine Wo ?_|refine Wp ?_|refine Wq rfl ?_|refine Wr ?_|refine Ws ?_|refine Wt ?_|refine Wu ?_|refine Wv rfl rfl ?_|(refine Ww rfl ⟨rfl, by decide, by decide, by decide⟩ ?_; intro _))
      refine JC.drawN [.own b5 70 [.map (some bo), .map (some bk)]] mixed ?_
      refine JN.take 0 rfl (by kernel_rfl) rfl Vc rfl rfl ?_
      refine JN.take 1 rfl (by kernel_rfl) rfl Va rfl rfl ?_
      refine JN.take 2 rfl (by kernel_rfl) rfl Vc rfl rfl ?_
      refine JN.op 3 (by kernel_rfl) rfl rfl (JR.callV rfl (fun w1 hw => events_graph w1 _ bo bk R hR.nodup hS hw.get hw.get hw.get) (Wd ⟨rfl, inferInstance, ?_⟩))
      refine JN.op 4 (by kernel_rfl) rfl rfl (Wi (Wd ⟨rfl, inferInstance, ?_⟩))
      refine JN.op 5 (by kernel_rfl) rfl rfl (Wf Vb rfl (Wd ⟨rfl, inferInstance, ?_⟩))
      refine JN.op 6 (by kernel_rfl) rfl rfl (Wf Vb rfl (Wd ⟨rfl, inferInstance, ?_⟩))
      refine JN.nil (by kernel_rfl) ?_
      repeat (first|refine Wa ?_|refine Wb ?_|refine Wc ?_|refine Wd ?_|refine We rfl ?_|refine Wf (by first|exact Va|exact Vb|exact Vc|exact Vd|exact Ve|exact Vf|exact Vg|exact Vh|exact Vi|exact Vj|exact Vk (by omega)|exact Vl|exact Vm|exact Vn|exact Vo|exact Vp|exact Vq|exact Vr|exact Vs (by omega)|exact Vt (by omega)|exact Vu (by omega)|exact Vv (by omega)|exact Vw|exact Vx|exact Vy|exact Vz|exact VA|exact VB|exact VC|exact VD|exact VE|exact VF) rfl ?_|(refine Wg rfl ?_; intro _)|(refine Wh rfl ?_; intro _)|refine Wi ?_|refine Wj ?_|refine Wk ?_|refine Wl ?_|refine Wm ?_|refine Wn ?_|refine Wo ?_|refine Wp ?_|refine Wq rfl ?_|refine Wr ?_|refine Ws ?_|refine Wt ?_|refine Wu ?_|refine Wv rfl rfl ?_|(refine Ww rfl ⟨rfl, by decide, by decide, by decide⟩ ?_; intro _))
      refine CT.done (Y := OfY L) ⟨⟨bo, bk, R, cids L, p, q, evG R⟩, ⟨hfin.symm, by show (cids L).length ≤ _; omega, fun _ => rfl, fun _ => hB, fun _ => by rw [hnd]; exact hLp, fun _ => hS⟩⟩ rfl (fun w ho => ?_)
      by_cases hev : evG R = true
      · rw [ofB, if_pos hev]; exact ho.ent
      · rw [ofB, if_neg hev]; exact ho.ent
end Ab
end Go.Proofs.YtcmfemfndadfmaaGreat

/- Contracts of dag.Closed, Anc, Part, Sorted. -/
namespace Go.Proofs.YtcmfemfndadfmaaGreat
namespace Ab
open Go Go.RowKit
set_option linter.unusedVariables false
set_option linter.unusedSimpArgs false
set_option synthInstance.maxSize 4000
set_option synthInstance.maxHeartbeats 400000
attribute [local irreducible] JC JO JR JQ andThen inBlock OpV Gives retTo JM JS

attribute [local irreducible] ents hashC graphA
theorem of_true {L : List Commit} {bo bk q : Nat} {R : List Row} {I : List ID} {p : Option Addr} (hy : OfOk L ⟨bo, bk, R, I, p, q, true⟩) :
    ofB (L := L) ⟨⟨bo, bk, R, I, p, q, true⟩, hy⟩ = [.st (rmap bo (ents idV (ofM R)) (ofM R).length), .st (rmap bk (ents idV (knM R)) (knM R).length), .st (graphA R), .st (sl p q I)] := if_pos rfl
theorem of_false {L : List Commit} {bo bk q : Nat} {R : List Row} {I : List ID} {p : Option Addr} (hy : OfOk L ⟨bo, bk, R, I, p, q, false⟩) :
    ofB (L := L) ⟨⟨bo, bk, R, I, p, q, false⟩, hy⟩ = [.st (sl p q I)] := if_neg (by simp)
/-- A truth value that tells whether commits are closed. -/
abbrev IsClosed (L : List Commit) := { b : Bool // b = true ↔ Closed L }
theorem closed_dag (w : World) (F : Nat → Prop) (a : Option Addr) (k : Nat) (L : List Commit) (h : (sl a k L).holds F w) (hl : L.length ≤ 1000000) (hf : ∀ x ∈ L, fine x) :
    Gives Tryz.prog 32 [.slice a L.length k] w F (fun y : IsClosed L => .bool y.1) (fun _ => []) := by
  refine gives_of Tryz.func32 rfl Tryz.ntmps32 rfl rfl [.st (sl a k L)] (.start1 h) ?_
  repeat (first|refine Wa ?_|refine Wb ?_|refine Wc ?_|refine Wd ?_|refine We rfl ?_|refine Wf (by first|exact Va|exact Vb|exact Vc|exact Vd|exact Ve|exact Vf|exact Vg|exact Vh|exact Vi|exact Vj|exact Vk (by omega)|exact Vl|exact Vm|exact Vn|exact Vo|exact Vp|exact Vq|exact Vr|exact Vs (by omega)|exact Vt (by omega)|exact Vu (by omega)|exact Vv (by omega)|exact Vw|exact Vx|exact Vy|exact Vz|exact VA|exact VB|exact VC|exact VD|exact VE|exact VF) rfl ?_|(refine Wg rfl ?_; intro _)|(refine Wh rfl ?_; intro _)|refine Wi ?_|refine Wj ?_|refine Wk ?_|refine Wl ?_|refine Wm ?_|refine Wn ?_|refine Wo ?_|refine Wp ?_|refine Wq rfl ?_|refine Wr ?_|refine Ws ?_|refine Wt ?_|refine Wu ?_|refine Wv rfl rfl ?_|(refine Ww rfl ⟨rfl, by decide, by decide, by decide⟩ ?_; intro _))
  refine JR.call (v := fun y : OfY L => ofV y) rfl (fun w1 hw => of_dag w1 _ a k L hw.get hl hf) ?_
  rintro ⟨⟨bo, bk, R, I, p, q, b⟩, hy⟩
  dsimp only [ofV]
  refine JO.more (Γ' := []) (fun w1 ho => ho.ent) ?_
  repeat (first|refine Wa ?_|refine Wb ?_|refine Wc ?_|refine Wd ?_|refine We rfl ?_|refine Wf (by first|exact Va|exact Vb|exact Vc|exact Vd|exact Ve|exact Vf|exact Vg|exact Vh|exact Vi|exact Vj|exact Vk (by omega)|exact Vl|exact Vm|exact Vn|exact Vo|exact Vp|exact Vq|exact Vr|exact Vs (by omega)|exact Vt (by omega)|exact Vu (by omega)|exact Vv (by omega)|exact Vw|exact Vx|exact Vy|exact Vz|exact VA|exact VB|exact VC|exact VD|exact VE|exact VF) rfl ?_|(refine Wg rfl ?_; intro _)|(refine Wh rfl ?_; intro _)|refine Wi ?_|refine Wj ?_|refine Wk ?_|refine Wl ?_|refine Wm ?_|refine Wn ?_|refine Wo ?_|refine Wp ?_|refine Wq rfl ?_|refine Wr ?_|refine Ws ?_|refine Wt ?_|refine Wu ?_|refine Wv rfl rfl ?_|(refine Ww rfl ⟨rfl, by decide, by decide, by decide⟩ ?_; intro _))
  exact CT.done (Y := IsClosed L) ⟨b, hy.iff⟩ rfl (fun w ho => ho.ent)

theorem nodup_len {α : Type} [DecidableEq α] : ∀ (S L : List α), S.Nodup → (∀ x ∈ S, x ∈ L) → S.length ≤ L.length
  | [], _, _, _ => Nat.zero_le _
  | x :: S, L, h, hs => by
    have h1 := List.nodup_cons.1 h
    have := nodup_len S (L.erase x) h1.2 (fun y hy => (List.mem_erase_of_ne (by intro e; subst e; exact h1.1 hy)).2 (hs y (by simp [hy])))
    have h2 := List.length_erase_of_mem (hs x (by simp))
    have h3 := List.length_pos_of_mem (hs x (by simp))
    simp only [List.length_cons]; omega
/-- Ids of which some stand behind some of A, or are of A. -/
def inAnc (L : List Commit) (A : List ID) (x : ID) : Prop := x ∈ cids L ∧ (x ∈ A ∨ ∃ y ∈ A, knows L y x)
structure AncR (L : List Commit) (A M : List ID) : Prop where
  sorted : M.Pairwise (fun x y => idLt y x = false)
  nodup : M.Nodup
  mem : Closed L → ∀ x, x ∈ M ↔ inAnc L A x
  not : ¬ Closed L → M = []
theorem AncR.unique {L : List Commit} {A M N : List ID} (h : AncR L A M) (k : AncR L A N) : M = N := by
  by_cases hc : Closed L
  · exact sorted_unique ((List.perm_ext_iff_of_nodup h.nodup k.nodup).2 fun x => (h.mem hc x).trans (k.mem hc x).symm) h.sorted k.sorted
  · rw [h.not hc, k.not hc]
abbrev AncY (L : List Commit) (A : List ID) := { y : List ID × Option Addr × Nat // AncR L A y.1 }
set_option maxHeartbeats 2000000 in
theorem anc_dag (w : World) (F : Nat → Prop) (a d : Option Addr) (k m : Nat) (L : List Commit) (A : List ID) (h : (sl a k L).holds F w) (h' : (sl d m A).holds F w) (hl : L.length ≤ 1000) (hA : A.length ≤ 1000) (hf : ∀ x ∈ L, fine x) :
    Gives Tryz.prog 26 [.slice a L.length k, .slice d A.length m] w F (fun y : AncY L A => .slice y.1.2.1 y.1.1.length y.1.2.2) (fun y => [.st (sl y.1.2.1 y.1.2.2 y.1.1)]) := by
  refine gives_of Tryz.func26 rfl Tryz.ntmps26 rfl rfl [.st (sl a k L), .st (sl d m A)] (.start2 h h') ?_
  repeat (first|refine Wa ?_|refine Wb ?_|refine Wc ?_|refine Wd ?_|refine We rfl ?_|refine Wf (by first|exact Va|exact Vb|exact Vc|exact Vd|exact Ve|exact Vf|exact Vg|exact Vh|exact Vi|exact Vj|exact Vk (by omega)|exact Vl|exact Vm|exact Vn|exact Vo|exact Vp|exact Vq|exact Vr|exact Vs (by omega)|exact Vt (by omega)|exact Vu (by omega)|exact Vv (by omega)|exact Vw|exact Vx|exact Vy|exact Vz|exact VA|exact VB|exact VC|exact VD|exact VE|exact VF) rfl ?_|(refine Wg rfl ?_; intro _)|(refine Wh rfl ?_; intro _)|refine Wi ?_|refine Wj ?_|refine Wk ?_|refine Wl ?_|refine Wm ?_|refine Wn ?_|refine Wo ?_|refine Wp ?_|refine Wq rfl ?_|refine Wr ?_|refine Ws ?_|refine Wt ?_|refine Wu ?_|refine Wv rfl rfl ?_|(refine Ww rfl ⟨rfl, by decide, by decide, by decide⟩ ?_; intro _))
  refine JR.call (v := fun y : OfY L => ofV y) rfl (fun w1 hw => of_dag w1 _ a k L hw.get (by omega) hf) ?_
  rintro ⟨⟨bo, bk, R, I, p, q, b⟩, hy⟩
  dsimp only [ofV]
  cases b with
  | false =>
    have hno : ¬ Closed L := fun hc => by have := hy.iff.2 hc; cases this
    refine JO.more (Γ' := []) (fun w1 ho => ho.ent) ?_
    repeat (first|refine Wa ?_|refine Wb ?_|refine Wc ?_|refine Wd ?_|refine We rfl ?_|refine Wf (by first|exact Va|exact Vb|exact Vc|exact Vd|exact Ve|exact Vf|exact Vg|exact Vh|exact Vi|exact Vj|exact Vk (by omega)|exact Vl|exact Vm|exact Vn|exact Vo|exact Vp|exact Vq|exact Vr|exact Vs (by omega)|exact Vt (by omega)|exact Vu (by omega)|exact Vv (by omega)|exact Vw|exact Vx|exact Vy|exact Vz|exact VA|exact VB|exact VC|exact VD|exact VE|exact VF) rfl ?_|(refine Wg rfl ?_; intro _)|(refine Wh rfl ?_; intro _)|refine Wi ?_|refine Wj ?_|refine Wk ?_|refine Wl ?_|refine Wm ?_|refine Wn ?_|refine Wo ?_|refine Wp ?_|refine Wq rfl ?_|refine Wr ?_|refine Ws ?_|refine Wt ?_|refine Wu ?_|refine Wv rfl rfl ?_|(refine Ww rfl ⟨rfl, by decide, by decide, by decide⟩ ?_; intro _))
    exact CT.done (Y := AncY L A) ⟨([], none, 0), ⟨List.Pairwise.nil, List.nodup_nil, fun hc => (hno hc).elim, fun _ => rfl⟩⟩ rfl (fun w ho => (Hold.add (A := sl (α := ID) none 0 []) (ho.ent : Hold _ _ [] w) sl_nil))
  | true =>
    have hc := hy.iff.1 rfl
    have hI := hy.ids rfl
    have hB := hy.built rfl
    have hP := hy.perm rfl
    have hS := hy.nodup rfl
    dsimp only at hI hB hP hS
    have hR := hB.right
    have hkO : ((ofM R).map (·.1)).Nodup := by rw [ofM_keys]; exact hR.nodup
    have hkK : ((knM R).map (·.1)).Nodup := by rw [knM_keys]; exact hR.nodup
    have hmem : ∀ x, x ∈ cids (nodes (grOf R)) ↔ x ∈ cids L := fun x => (cids_perm hP).mem_iff
    have hknow : knows (nodes (grOf R)) = knows L := knows_perm hP
    refine JO.more (Γ' := [.st (rmap bo (ents idV (ofM R)) (ofM R).length), .st (rmap bk (ents idV (knM R)) (knM R).length), .st (graphA R), .st (sl a k L), .st (sl d m A)]) (fun w1 ho => by rw [of_true hy] at ho; simp only [List.cons_append, List.nil_append] at ho; exact ho.ent) ?_
    repeat (first|refine Wa ?_|refine Wb ?_|refine Wc ?_|refine Wd ?_|refine We rfl ?_|refine Wf (by first|exact Va|exact Vb|exact Vc|exact Vd|exact Ve|exact Vf|exact Vg|exact Vh|exact Vi|exact Vj|exact Vk (by omega)|exact Vl|exact Vm|exact Vn|exact Vo|exact Vp|exact Vq|exact Vr|exact Vs (by omega)|exact Vt (by omega)|exact Vu (by omega)|exact Vv (by omega)|exact Vw|exact Vx|exact Vy|exact Vz|exact VA|exact VB|exact VC|exact VD|exact VE|exact VF) rfl ?_|(refine Wg rfl ?_; intro _)|(refine Wh rfl ?_; intro _)|refine Wi ?_|refine Wj ?_|refine Wk ?_|refine Wl ?_|refine Wm ?_|refine Wn ?_|refine Wo ?_|refine Wp ?_|refine Wq rfl ?_|refine Wr ?_|refine Ws ?_|refine Wt ?_|refine Wu ?_|refine Wv rfl rfl ?_|(refine Ww rfl ⟨rfl, by decide, by decide, by decide⟩ ?_; intro _))
    rename_i b5
    refine JC.buf_nil (α := ID) 48 ?_
    refine JC.loop4 (fun (i : Nat) (out : List ID) r s => [(5, .pointer (some ⟨b5, 0, none⟩)), (8, .slice r out.length s), (22, .slice d A.length m), (23, .int .i64 (A.length : Int)), (24, .int .i64 (i : Int))])
      (fun i out r s => [.res (buf r s 48 out), .own b5 70 [.map (some bo), .map (some bk)], .st (rmap bo (ents idV (ofM R)) (ofM R).length), .st (rmap bk (ents idV (knM R)) (knM R).length), .st (graphA R), .st (sl a k L), .st (sl d m A)])
      (fun i out r s => i ≤ A.length ∧ out.length ≤ i * 1001 ∧ ∀ x, x ∈ out ↔ ∃ y ∈ A.take i, y ∈ cids L ∧ (x = y ∨ knows L y x)) (fun i _ _ _ => A.length - i) 0 [] none 0 ⟨Nat.zero_le _, by simp, by simp⟩ inferInstance ?_
    intro i out r s ⟨hi, hol, hom⟩
    repeat (first|refine Wa ?_|refine Wb ?_|refine Wc ?_|refine Wd ?_|refine We rfl ?_|refine Wf (by first|exact Va|exact Vb|exact Vc|exact Vd|exact Ve|exact Vf|exact Vg|exact Vh|exact Vi|exact Vj|exact Vk (by omega)|exact Vl|exact Vm|exact Vn|exact Vo|exact Vp|exact Vq|exact Vr|exact Vs (by omega)|exact Vt (by omega)|exact Vu (by omega)|exact Vv (by omega)|exact Vw|exact Vx|exact Vy|exact Vz|exact VA|exact VB|exact VC|exact VD|exact VE|exact VF) rfl ?_|(refine Wg rfl ?_; intro _)|(refine Wh rfl ?_; intro _)|refine Wi ?_|refine Wj ?_|refine Wk ?_|refine Wl ?_|refine Wm ?_|refine Wn ?_|refine Wo ?_|refine Wp ?_|refine Wq rfl ?_|refine Wr ?_|refine Ws ?_|refine Wt ?_|refine Wu ?_|refine Wv rfl rfl ?_|(refine Ww rfl ⟨rfl, by decide, by decide, by decide⟩ ?_; intro _))
    refine JC.test (fun hlt => ?_) (fun hge => ?_)
    · have hlt' : i < A.length := by omega
      repeat (first|refine Wa ?_|refine Wb ?_|refine Wc ?_|refine Wd ?_|refine We rfl ?_|refine Wf (by first|exact Va|exact Vb|exact Vc|exact Vd|exact Ve|exact Vf|exact Vg|exact Vh|exact Vi|exact Vj|exact Vk (by omega)|exact Vl|exact Vm|exact Vn|exact Vo|exact Vp|exact Vq|exact Vr|exact Vs (by omega)|exact Vt (by omega)|exact Vu (by omega)|exact Vv (by omega)|exact Vw|exact Vx|exact Vy|exact Vz|exact VA|exact VB|exact VC|exact VD|exact VE|exact VF) rfl ?_|(refine Wg rfl ?_; intro _)|(refine Wh rfl ?_; intro _)|refine Wi ?_|refine Wj ?_|refine Wk ?_|refine Wl ?_|refine Wm ?_|refine Wn ?_|refine Wo ?_|refine Wp ?_|refine Wq rfl ?_|refine Wr ?_|refine Ws ?_|refine Wt ?_|refine Wu ?_|refine Wv rfl rfl ?_|(refine Ww rfl ⟨rfl, by decide, by decide, by decide⟩ ?_; intro _))
      refine JR.indexID rfl hlt' ?_
      intro bi oi
      repeat (first|refine Wa ?_|refine Wb ?_|refine Wc ?_|refine Wd ?_|refine We rfl ?_|refine Wf (by first|exact Va|exact Vb|exact Vc|exact Vd|exact Ve|exact Vf|exact Vg|exact Vh|exact Vi|exact Vj|exact Vk (by omega)|exact Vl|exact Vm|exact Vn|exact Vo|exact Vp|exact Vq|exact Vr|exact Vs (by omega)|exact Vt (by omega)|exact Vu (by omega)|exact Vv (by omega)|exact Vw|exact Vx|exact Vy|exact Vz|exact VA|exact VB|exact VC|exact VD|exact VE|exact VF) rfl ?_|(refine Wg rfl ?_; intro _)|(refine Wh rfl ?_; intro _)|refine Wi ?_|refine Wj ?_|refine Wk ?_|refine Wl ?_|refine Wm ?_|refine Wn ?_|refine Wo ?_|refine Wp ?_|refine Wq rfl ?_|refine Wr ?_|refine Ws ?_|refine Wt ?_|refine Wu ?_|refine Wv rfl rfl ?_|(refine Ww rfl ⟨rfl, by decide, by decide, by decide⟩ ?_; intro _))
      by_cases hd : A[i] ∈ cids (nodes (grOf R))
      · obtain ⟨rw_, hr, hre, hgo, hgk, hkn⟩ := row_of hR.nodup hd
        have hSm : ∀ x, x ∈ rw_.1.2 ↔ knows L A[i] x := fun x => by rw [← hkn, hR.known _ hd, hknow]
        have hSl : rw_.1.2.length ≤ 1000 := by
          have := nodup_len rw_.1.2 (cids L) (hS rw_ hr) (fun x hx => (knows_ids ((hSm x).1 hx)).2)
          rw [cids_length] at this; omega
        refine Wf (OpV.lookupOk (M := ofM R) (v := commitV rw_.1.1 rw_.2.1 rw_.2.2.1) (is := true) A[i] hkO (by rw [hgo]; rfl) (by rw [hgo]; rfl)) rfl ?_
        repeat (first|refine Wa ?_|refine Wb ?_|refine Wc ?_|refine Wd ?_|refine We rfl ?_|refine Wf (by first|exact Va|exact Vb|exact Vc|exact Vd|exact Ve|exact Vf|exact Vg|exact Vh|exact Vi|exact Vj|exact Vk (by omega)|exact Vl|exact Vm|exact Vn|exact Vo|exact Vp|exact Vq|exact Vr|exact Vs (by omega)|exact Vt (by omega)|exact Vu (by omega)|exact Vv (by omega)|exact Vw|exact Vx|exact Vy|exact Vz|exact VA|exact VB|exact VC|exact VD|exact VE|exact VF) rfl ?_|(refine Wg rfl ?_; intro _)|(refine Wh rfl ?_; intro _)|refine Wi ?_|refine Wj ?_|refine Wk ?_|refine Wl ?_|refine Wm ?_|refine Wn ?_|refine Wo ?_|refine Wp ?_|refine Wq rfl ?_|refine Wr ?_|refine Ws ?_|refine Wt ?_|refine Wu ?_|refine Wv rfl rfl ?_|(refine Ww rfl ⟨rfl, by decide, by decide, by decide⟩ ?_; intro _))
        refine JR.append1 (u := A[i]) rfl (by exact ⟨rfl, rfl, by decide⟩) (by omega) ?_
        intro r2 s2
        repeat (first|refine Wa ?_|refine Wb ?_|refine Wc ?_|refine Wd ?_|refine We rfl ?_|refine Wf (by first|exact Va|exact Vb|exact Vc|exact Vd|exact Ve|exact Vf|exact Vg|exact Vh|exact Vi|exact Vj|exact Vk (by omega)|exact Vl|exact Vm|exact Vn|exact Vo|exact Vp|exact Vq|exact Vr|exact Vs (by omega)|exact Vt (by omega)|exact Vu (by omega)|exact Vv (by omega)|exact Vw|exact Vx|exact Vy|exact Vz|exact VA|exact VB|exact VC|exact VD|exact VE|exact VF) rfl ?_|(refine Wg rfl ?_; intro _)|(refine Wh rfl ?_; intro _)|refine Wi ?_|refine Wj ?_|refine Wk ?_|refine Wl ?_|refine Wm ?_|refine Wn ?_|refine Wo ?_|refine Wp ?_|refine Wq rfl ?_|refine Wr ?_|refine Ws ?_|refine Wt ?_|refine Wu ?_|refine Wv rfl rfl ?_|(refine Ww rfl ⟨rfl, by decide, by decide, by decide⟩ ?_; intro _))
        refine Wf (OpV.lookupNo (M := knM R) (v := .map (some rw_.2.2.2)) A[i] hkK (by rw [hgk]; rfl)) rfl ?_
        refine JO.more (fun w1 ho => ho.add (A := rmap rw_.2.2.2 (ents idV (sety rw_.1.2)) rw_.1.2.length) (graph_row (ho.get (A := graphA R)) hr).2) ?_
        refine We rfl ?_
        refine JR.rangeS rfl ?_
        intro ri
        repeat (first|refine Wa ?_|refine Wb ?_|refine Wc ?_|refine Wd ?_|refine We rfl ?_|refine Wf (by first|exact Va|exact Vb|exact Vc|exact Vd|exact Ve|exact Vf|exact Vg|exact Vh|exact Vi|exact Vj|exact Vk (by omega)|exact Vl|exact Vm|exact Vn|exact Vo|exact Vp|exact Vq|exact Vr|exact Vs (by omega)|exact Vt (by omega)|exact Vu (by omega)|exact Vv (by omega)|exact Vw|exact Vx|exact Vy|exact Vz|exact VA|exact VB|exact VC|exact VD|exact VE|exact VF) rfl ?_|(refine Wg rfl ?_; intro _)|(refine Wh rfl ?_; intro _)|refine Wi ?_|refine Wj ?_|refine Wk ?_|refine Wl ?_|refine Wm ?_|refine Wn ?_|refine Wo ?_|refine Wp ?_|refine Wq rfl ?_|refine Wr ?_|refine Ws ?_|refine Wt ?_|refine Wu ?_|refine Wv rfl rfl ?_|(refine Ww rfl ⟨rfl, by decide, by decide, by decide⟩ ?_; intro _))
        refine JC.loop4 (fun (S : List Nat) (o2 : List ID) r3 s3 => [(5, .pointer (some ⟨b5, 0, none⟩)), (8, .slice r3 o2.length s3), (22, .slice d A.length m), (23, .int .i64 (A.length : Int)), (24, .int .i64 (i : Int)), (45, .pointer (some ⟨ri, 0, none⟩))])
          (fun S o2 r3 s3 => [.res (buf r3 s3 48 o2), .obj ri (.mapIter (some rw_.2.2.2) rw_.1.2.length S.toArray rw_.1.2.length), .own b5 70 [.map (some bo), .map (some bk)], .st (rmap rw_.2.2.2 (ents idV (sety rw_.1.2)) rw_.1.2.length), .st (rmap bo (ents idV (ofM R)) (ofM R).length), .st (rmap bk (ents idV (knM R)) (knM R).length), .st (graphA R), .st (sl a k L), .st (sl d m A)])
          (fun S o2 _ _ => S.Nodup ∧ (∀ j ∈ S, j < rw_.1.2.length) ∧ o2.length = out.length + 1 + S.length ∧ ∀ x, x ∈ o2 ↔ x ∈ out ∨ x = A[i] ∨ ∃ j ∈ S, rw_.1.2[j]? = some x)
          (fun S _ _ _ => rw_.1.2.length - S.length) [] (out ++ [A[i]]) r2 s2 ⟨List.nodup_nil, by simp, by simp, by simp⟩ inferInstance ?_
        intro S o2 r3 s3 ⟨hS1, hS2, hlen, hmem2⟩
        have hSl2 : S.length ≤ rw_.1.2.length := nodup_le hS1 hS2
        repeat (first|refine Wa ?_|refine Wb ?_|refine Wc ?_|refine Wd ?_|refine We rfl ?_|refine Wf (by first|exact Va|exact Vb|exact Vc|exact Vd|exact Ve|exact Vf|exact Vg|exact Vh|exact Vi|exact Vj|exact Vk (by omega)|exact Vl|exact Vm|exact Vn|exact Vo|exact Vp|exact Vq|exact Vr|exact Vs (by omega)|exact Vt (by omega)|exact Vu (by omega)|exact Vv (by omega)|exact Vw|exact Vx|exact Vy|exact Vz|exact VA|exact VB|exact VC|exact VD|exact VE|exact VF) rfl ?_|(refine Wg rfl ?_; intro _)|(refine Wh rfl ?_; intro _)|refine Wi ?_|refine Wj ?_|refine Wk ?_|refine Wl ?_|refine Wm ?_|refine Wn ?_|refine Wo ?_|refine Wp ?_|refine Wq rfl ?_|refine Wr ?_|refine Ws ?_|refine Wt ?_|refine Wu ?_|refine Wv rfl rfl ?_|(refine Ww rfl ⟨rfl, by decide, by decide, by decide⟩ ?_; intro _))
        refine JR.nextS rfl hS2 (fun hall => ?_) (fun j hj hjS => ?_)
        · repeat (first|refine Wa ?_|refine Wb ?_|refine Wc ?_|refine Wd ?_|refine We rfl ?_|refine Wf (by first|exact Va|exact Vb|exact Vc|exact Vd|exact Ve|exact Vf|exact Vg|exact Vh|exact Vi|exact Vj|exact Vk (by omega)|exact Vl|exact Vm|exact Vn|exact Vo|exact Vp|exact Vq|exact Vr|exact Vs (by omega)|exact Vt (by omega)|exact Vu (by omega)|exact Vv (by omega)|exact Vw|exact Vx|exact Vy|exact Vz|exact VA|exact VB|exact VC|exact VD|exact VE|exact VF) rfl ?_|(refine Wg rfl ?_; intro _)|(refine Wh rfl ?_; intro _)|refine Wi ?_|refine Wj ?_|refine Wk ?_|refine Wl ?_|refine Wm ?_|refine Wn ?_|refine Wo ?_|refine Wp ?_|refine Wq rfl ?_|refine Wr ?_|refine Ws ?_|refine Wt ?_|refine Wu ?_|refine Wv rfl rfl ?_|(refine Ww rfl ⟨rfl, by decide, by decide, by decide⟩ ?_; intro _))
          refine ⟨i + 1, o2, r3, s3, ⟨by omega, by omega, fun x => ?_⟩, by omega, inferInstance⟩
          rw [hmem2, hom]
          constructor
          · rintro (⟨y, hy, hx⟩ | rfl | ⟨j, hj, hx⟩)
            · exact ⟨y, (mem_take_succ hlt').2 (.inl hy), hx⟩
            · exact ⟨A[i], (mem_take_succ hlt').2 (.inr rfl), (hmem _).1 hd, .inl rfl⟩
            · exact ⟨A[i], (mem_take_succ hlt').2 (.inr rfl), (hmem _).1 hd, .inr ((hSm x).1 (List.mem_of_getElem? hx))⟩
          · rintro ⟨y, hy, hyc, hx⟩
            rcases (mem_take_succ hlt').1 hy with hy | rfl
            · exact .inl ⟨y, hy, hyc, hx⟩
            · rcases hx with rfl | hx
              · exact .inr (.inl rfl)
              · obtain ⟨j, hj, hjx⟩ := List.getElem_of_mem ((hSm x).2 hx)
                exact .inr (.inr ⟨j, hall j hj, by rw [List.getElem?_eq_getElem hj, hjx]⟩)
        · repeat (first|refine Wa ?_|refine Wb ?_|refine Wc ?_|refine Wd ?_|refine We rfl ?_|refine Wf (by first|exact Va|exact Vb|exact Vc|exact Vd|exact Ve|exact Vf|exact Vg|exact Vh|exact Vi|exact Vj|exact Vk (by omega)|exact Vl|exact Vm|exact Vn|exact Vo|exact Vp|exact Vq|exact Vr|exact Vs (by omega)|exact Vt (by omega)|exact Vu (by omega)|exact Vv (by omega)|exact Vw|exact Vx|exact Vy|exact Vz|exact VA|exact VB|exact VC|exact VD|exact VE|exact VF) rfl ?_|(refine Wg rfl ?_; intro _)|(refine Wh rfl ?_; intro _)|refine Wi ?_|refine Wj ?_|refine Wk ?_|refine Wl ?_|refine Wm ?_|refine Wn ?_|refine Wo ?_|refine Wp ?_|refine Wq rfl ?_|refine Wr ?_|refine Ws ?_|refine Wt ?_|refine Wu ?_|refine Wv rfl rfl ?_|(refine Ww rfl ⟨rfl, by decide, by decide, by decide⟩ ?_; intro _))
          refine Wf (OpV.entryS hj) rfl ?_
          repeat (first|refine Wa ?_|refine Wb ?_|refine Wc ?_|refine Wd ?_|refine We rfl ?_|refine Wf (by first|exact Va|exact Vb|exact Vc|exact Vd|exact Ve|exact Vf|exact Vg|exact Vh|exact Vi|exact Vj|exact Vk (by omega)|exact Vl|exact Vm|exact Vn|exact Vo|exact Vp|exact Vq|exact Vr|exact Vs (by omega)|exact Vt (by omega)|exact Vu (by omega)|exact Vv (by omega)|exact Vw|exact Vx|exact Vy|exact Vz|exact VA|exact VB|exact VC|exact VD|exact VE|exact VF) rfl ?_|(refine Wg rfl ?_; intro _)|(refine Wh rfl ?_; intro _)|refine Wi ?_|refine Wj ?_|refine Wk ?_|refine Wl ?_|refine Wm ?_|refine Wn ?_|refine Wo ?_|refine Wp ?_|refine Wq rfl ?_|refine Wr ?_|refine Ws ?_|refine Wt ?_|refine Wu ?_|refine Wv rfl rfl ?_|(refine Ww rfl ⟨rfl, by decide, by decide, by decide⟩ ?_; intro _))
          have hS3 : (S ++ [j]).Nodup := List.nodup_append.2 ⟨hS1, by simp, fun x hx y hy => by simp at hy; subst hy; exact fun e => hjS (e ▸ hx)⟩
          have hS4 : ∀ i ∈ S ++ [j], i < rw_.1.2.length := fun i hi => by
            rcases List.mem_append.1 hi with hi | hi
            · exact hS2 i hi
            · simp at hi; subst hi; exact hj
          have hlt2 := nodup_le hS3 hS4
          refine JR.append1 (u := rw_.1.2[j]) rfl (by exact ⟨rfl, rfl, by decide⟩) (by omega) ?_
          intro r4 s4
          repeat (first|refine Wa ?_|refine Wb ?_|refine Wc ?_|refine Wd ?_|refine We rfl ?_|refine Wf (by first|exact Va|exact Vb|exact Vc|exact Vd|exact Ve|exact Vf|exact Vg|exact Vh|exact Vi|exact Vj|exact Vk (by omega)|exact Vl|exact Vm|exact Vn|exact Vo|exact Vp|exact Vq|exact Vr|exact Vs (by omega)|exact Vt (by omega)|exact Vu (by omega)|exact Vv (by omega)|exact Vw|exact Vx|exact Vy|exact Vz|exact VA|exact VB|exact VC|exact VD|exact VE|exact VF) rfl ?_|(refine Wg rfl ?_; intro _)|(refine Wh rfl ?_; intro _)|refine Wi ?_|refine Wj ?_|refine Wk ?_|refine Wl ?_|refine Wm ?_|refine Wn ?_|refine Wo ?_|refine Wp ?_|refine Wq rfl ?_|refine Wr ?_|refine Ws ?_|refine Wt ?_|refine Wu ?_|refine Wv rfl rfl ?_|(refine Ww rfl ⟨rfl, by decide, by decide, by decide⟩ ?_; intro _))
          refine ⟨S ++ [j], o2 ++ [rw_.1.2[j]], r4, s4, ⟨hS3, hS4, by simp; omega, fun x => ?_⟩, by simp at hlt2 ⊢; omega, inferInstance⟩
          rw [List.mem_append, hmem2, List.mem_singleton]
          constructor
          · rintro ((h | h | ⟨y, hy, hx⟩) | rfl)
            · exact .inl h
            · exact .inr (.inl h)
            · exact .inr (.inr ⟨y, by simp [hy], hx⟩)
            · exact .inr (.inr ⟨j, by simp, List.getElem?_eq_getElem hj⟩)
          · rintro (h | h | ⟨y, hy, hx⟩)
            · exact .inl (.inl h)
            · exact .inl (.inr (.inl h))
            · rcases List.mem_append.1 hy with hy | hy
              · exact .inl (.inr (.inr ⟨y, hy, hx⟩))
              · simp at hy; subst hy
                rw [List.getElem?_eq_getElem hj] at hx
                injection hx with hx
                exact .inr hx.symm
      · obtain ⟨hgo, hgk⟩ := row_none hd
        refine Wf (OpV.lookupOk (M := ofM R) (v := .agg ⟨[.int .i64 0, .int .i64 0, .int .i64 0, .slice none 0 0, .int .i64 0, .string .empty, .string .empty, .int .i64 0]⟩) (is := false) A[i] hkO (by rw [hgo]; rfl) (by rw [hgo]; rfl)) rfl ?_
        repeat (first|refine Wa ?_|refine Wb ?_|refine Wc ?_|refine Wd ?_|refine We rfl ?_|refine Wf (by first|exact Va|exact Vb|exact Vc|exact Vd|exact Ve|exact Vf|exact Vg|exact Vh|exact Vi|exact Vj|exact Vk (by omega)|exact Vl|exact Vm|exact Vn|exact Vo|exact Vp|exact Vq|exact Vr|exact Vs (by omega)|exact Vt (by omega)|exact Vu (by omega)|exact Vv (by omega)|exact Vw|exact Vx|exact Vy|exact Vz|exact VA|exact VB|exact VC|exact VD|exact VE|exact VF) rfl ?_|(refine Wg rfl ?_; intro _)|(refine Wh rfl ?_; intro _)|refine Wi ?_|refine Wj ?_|refine Wk ?_|refine Wl ?_|refine Wm ?_|refine Wn ?_|refine Wo ?_|refine Wp ?_|refine Wq rfl ?_|refine Wr ?_|refine Ws ?_|refine Wt ?_|refine Wu ?_|refine Wv rfl rfl ?_|(refine Ww rfl ⟨rfl, by decide, by decide, by decide⟩ ?_; intro _))
        refine ⟨i + 1, out, r, s, ⟨by omega, Nat.le_trans hol (Nat.mul_le_mul_right 1001 (Nat.le_succ i)), fun x => ?_⟩, by omega, inferInstance⟩
        rw [hom]
        constructor
        · rintro ⟨y, hy, hx⟩; exact ⟨y, (mem_take_succ hlt').2 (.inl hy), hx⟩
        · rintro ⟨y, hy, hyc, hx⟩
          rcases (mem_take_succ hlt').1 hy with hy | rfl
          · exact ⟨y, hy, hyc, hx⟩
          · exact (hd ((hmem _).2 hyc)).elim
    · obtain rfl : i = A.length := by omega
      rw [List.take_length] at hom
      refine JC.more (fun w1 ho => ho.pub) ?_
      repeat (first|refine Wa ?_|refine Wb ?_|refine Wc ?_|refine Wd ?_|refine We rfl ?_|refine Wf (by first|exact Va|exact Vb|exact Vc|exact Vd|exact Ve|exact Vf|exact Vg|exact Vh|exact Vi|exact Vj|exact Vk (by omega)|exact Vl|exact Vm|exact Vn|exact Vo|exact Vp|exact Vq|exact Vr|exact Vs (by omega)|exact Vt (by omega)|exact Vu (by omega)|exact Vv (by omega)|exact Vw|exact Vx|exact Vy|exact Vz|exact VA|exact VB|exact VC|exact VD|exact VE|exact VF) rfl ?_|(refine Wg rfl ?_; intro _)|(refine Wh rfl ?_; intro _)|refine Wi ?_|refine Wj ?_|refine Wk ?_|refine Wl ?_|refine Wm ?_|refine Wn ?_|refine Wo ?_|refine Wp ?_|refine Wq rfl ?_|refine Wr ?_|refine Ws ?_|refine Wt ?_|refine Wu ?_|refine Wv rfl rfl ?_|(refine Ww rfl ⟨rfl, by decide, by decide, by decide⟩ ?_; intro _))
      refine JR.callBuf rfl (fun w1 hw => sort_ids w1 _ r s out hw.get (by omega)) ?_
      intro p3 q3
      refine JO.more (fun w1 ho => ho.pub) ?_
      repeat (first|refine Wa ?_|refine Wb ?_|refine Wc ?_|refine Wd ?_|refine We rfl ?_|refine Wf (by first|exact Va|exact Vb|exact Vc|exact Vd|exact Ve|exact Vf|exact Vg|exact Vh|exact Vi|exact Vj|exact Vk (by omega)|exact Vl|exact Vm|exact Vn|exact Vo|exact Vp|exact Vq|exact Vr|exact Vs (by omega)|exact Vt (by omega)|exact Vu (by omega)|exact Vv (by omega)|exact Vw|exact Vx|exact Vy|exact Vz|exact VA|exact VB|exact VC|exact VD|exact VE|exact VF) rfl ?_|(refine Wg rfl ?_; intro _)|(refine Wh rfl ?_; intro _)|refine Wi ?_|refine Wj ?_|refine Wk ?_|refine Wl ?_|refine Wm ?_|refine Wn ?_|refine Wo ?_|refine Wp ?_|refine Wq rfl ?_|refine Wr ?_|refine Ws ?_|refine Wt ?_|refine Wu ?_|refine Wv rfl rfl ?_|(refine Ww rfl ⟨rfl, by decide, by decide, by decide⟩ ?_; intro _))
      refine CT.done (Y := AncY L A) ⟨(sortL (setOf out), p3, q3), ⟨sortL_pairwise _, (sortL_perm' _).nodup_iff.2 (setOf_nodup _), fun _ x => ?_, fun hno => (hno hc).elim⟩⟩ rfl (fun w ho => ho.ent)
      rw [mem_sortL, mem_setOf, hom, inAnc]
      constructor
      · rintro ⟨y, hy, hyc, (rfl | hx)⟩
        · exact ⟨hyc, .inl hy⟩
        · exact ⟨(knows_ids hx).2, .inr ⟨y, hy, hx⟩⟩
      · rintro ⟨hx, (hxA | ⟨y, hy, hk⟩)⟩
        · exact ⟨x, hxA, hx, .inl rfl⟩
        · exact ⟨y, hy, (knows_ids hk).1, .inr hk⟩
end Ab
end Go.Proofs.YtcmfemfndadfmaaGreat

/- Contracts of dag.Part, Sorted. -/
namespace Go.Proofs.YtcmfemfndadfmaaGreat
namespace Ab
open Go Go.RowKit
set_option linter.unusedVariables false
set_option linter.unusedSimpArgs false
set_option synthInstance.maxSize 4000
set_option synthInstance.maxHeartbeats 400000
attribute [local irreducible] JC JO JR JQ andThen inBlock OpV Gives retTo JM JS

attribute [local irreducible] ents hashC graphA
/-- The commits of some ids, of closed ones. -/
structure PartR (L : List Commit) (A : List ID) (M : List Commit) : Prop where
  part : Closed L → M = L.filter (fun c => decide (idC c ∈ A))
  not : ¬ Closed L → M = []
abbrev PartY (L : List Commit) (A : List ID) := { y : List Commit × Option Addr × Nat // PartR L A y.1 }
set_option maxHeartbeats 2000000 in
theorem part_dag (w : World) (F : Nat → Prop) (a d : Option Addr) (k m : Nat) (L : List Commit) (A : List ID) (h : (sl a k L).holds F w) (h' : (sl d m A).holds F w) (hl : L.length ≤ 1000) (hf : ∀ x ∈ L, fine x) :
    Gives Tryz.prog 28 [.slice a L.length k, .slice d A.length m] w F (fun y : PartY L A => .slice y.1.2.1 y.1.1.length y.1.2.2) (fun y => [.st (sl y.1.2.1 y.1.2.2 y.1.1)]) := by
  refine gives_of Tryz.func28 rfl Tryz.ntmps28 rfl rfl [.st (sl a k L), .st (sl d m A)] (.start2 h h') ?_
  repeat (first|refine Wa ?_|refine Wb ?_|refine Wc ?_|refine Wd ?_|refine We rfl ?_|refine Wf (by first|exact Va|exact Vb|exact Vc|exact Vd|exact Ve|exact Vf|exact Vg|exact Vh|exact Vi|exact Vj|exact Vk (by omega)|exact Vl|exact Vm|exact Vn|exact Vo|exact Vp|exact Vq|exact Vr|exact Vs (by omega)|exact Vt (by omega)|exact Vu (by omega)|exact Vv (by omega)|exact Vw|exact Vx|exact Vy|exact Vz|exact VA|exact VB|exact VC|exact VD|exact VE|exact VF) rfl ?_|(refine Wg rfl ?_; intro _)|(refine Wh rfl ?_; intro _)|refine Wi ?_|refine Wj ?_|refine Wk ?_|refine Wl ?_|refine Wm ?_|refine Wn ?_|refine Wo ?_|refine Wp ?_|refine Wq rfl ?_|refine Wr ?_|refine Ws ?_|refine Wt ?_|refine Wu ?_|refine Wv rfl rfl ?_|(refine Ww rfl ⟨rfl, by decide, by decide, by decide⟩ ?_; intro _))
  refine JR.call (v := fun y : OfY L => ofV y) rfl (fun w1 hw => of_dag w1 _ a k L hw.get (by omega) hf) ?_
  rintro ⟨⟨bo, bk, R, I, p, q, b⟩, hy⟩
  dsimp only [ofV]
  have hIl : I.length ≤ L.length := hy.len
  refine JO.more (Γ' := [.st (sl p q I), .st (sl a k L), .st (sl d m A)]) (fun w1 ho => by
    cases b with
    | false => rw [of_false hy] at ho; simp only [List.cons_append, List.nil_append] at ho; exact ho.ent
    | true => rw [of_true hy] at ho; simp only [List.cons_append, List.nil_append] at ho; exact ho.ent) ?_
  repeat (first|refine Wa ?_|refine Wb ?_|refine Wc ?_|refine Wd ?_|refine We rfl ?_|refine Wf (by first|exact Va|exact Vb|exact Vc|exact Vd|exact Ve|exact Vf|exact Vg|exact Vh|exact Vi|exact Vj|exact Vk (by omega)|exact Vl|exact Vm|exact Vn|exact Vo|exact Vp|exact Vq|exact Vr|exact Vs (by omega)|exact Vt (by omega)|exact Vu (by omega)|exact Vv (by omega)|exact Vw|exact Vx|exact Vy|exact Vz|exact VA|exact VB|exact VC|exact VD|exact VE|exact VF) rfl ?_|(refine Wg rfl ?_; intro _)|(refine Wh rfl ?_; intro _)|refine Wi ?_|refine Wj ?_|refine Wk ?_|refine Wl ?_|refine Wm ?_|refine Wn ?_|refine Wo ?_|refine Wp ?_|refine Wq rfl ?_|refine Wr ?_|refine Ws ?_|refine Wt ?_|refine Wu ?_|refine Wv rfl rfl ?_|(refine Ww rfl ⟨rfl, by decide, by decide, by decide⟩ ?_; intro _))
  refine JC.buf_nil (α := Commit) 29 ?_
  cases b with
  | false =>
    have hno : ¬ Closed L := fun hc => by have := hy.iff.2 hc; cases this
    refine JC.loop1 (fun (i : Nat) => [(0, .slice a L.length k), (1, .slice d A.length m), (6, .slice p I.length q), (7, .bool false), (8, .slice none 0 0), (17, .int .i64 (I.length : Int)), (18, .int .i64 (i : Int))])
      (fun i => [.st (sl p q I), .st (sl a k L), .st (sl d m A)]) (fun i => i ≤ I.length) (fun i => I.length - i) 0 (Nat.zero_le _) inferInstance ?_
    intro i hi
    repeat (first|refine Wa ?_|refine Wb ?_|refine Wc ?_|refine Wd ?_|refine We rfl ?_|refine Wf (by first|exact Va|exact Vb|exact Vc|exact Vd|exact Ve|exact Vf|exact Vg|exact Vh|exact Vi|exact Vj|exact Vk (by omega)|exact Vl|exact Vm|exact Vn|exact Vo|exact Vp|exact Vq|exact Vr|exact Vs (by omega)|exact Vt (by omega)|exact Vu (by omega)|exact Vv (by omega)|exact Vw|exact Vx|exact Vy|exact Vz|exact VA|exact VB|exact VC|exact VD|exact VE|exact VF) rfl ?_|(refine Wg rfl ?_; intro _)|(refine Wh rfl ?_; intro _)|refine Wi ?_|refine Wj ?_|refine Wk ?_|refine Wl ?_|refine Wm ?_|refine Wn ?_|refine Wo ?_|refine Wp ?_|refine Wq rfl ?_|refine Wr ?_|refine Ws ?_|refine Wt ?_|refine Wu ?_|refine Wv rfl rfl ?_|(refine Ww rfl ⟨rfl, by decide, by decide, by decide⟩ ?_; intro _))
    refine JC.test (fun hlt => ?_) (fun hge => ?_)
    · repeat (first|refine Wa ?_|refine Wb ?_|refine Wc ?_|refine Wd ?_|refine We rfl ?_|refine Wf (by first|exact Va|exact Vb|exact Vc|exact Vd|exact Ve|exact Vf|exact Vg|exact Vh|exact Vi|exact Vj|exact Vk (by omega)|exact Vl|exact Vm|exact Vn|exact Vo|exact Vp|exact Vq|exact Vr|exact Vs (by omega)|exact Vt (by omega)|exact Vu (by omega)|exact Vv (by omega)|exact Vw|exact Vx|exact Vy|exact Vz|exact VA|exact VB|exact VC|exact VD|exact VE|exact VF) rfl ?_|(refine Wg rfl ?_; intro _)|(refine Wh rfl ?_; intro _)|refine Wi ?_|refine Wj ?_|refine Wk ?_|refine Wl ?_|refine Wm ?_|refine Wn ?_|refine Wo ?_|refine Wp ?_|refine Wq rfl ?_|refine Wr ?_|refine Ws ?_|refine Wt ?_|refine Wu ?_|refine Wv rfl rfl ?_|(refine Ww rfl ⟨rfl, by decide, by decide, by decide⟩ ?_; intro _)|refine Wx rfl rfl ?_)
      exact ⟨i + 1, by omega, by omega, inferInstance⟩
    · repeat (first|refine Wa ?_|refine Wb ?_|refine Wc ?_|refine Wd ?_|refine We rfl ?_|refine Wf (by first|exact Va|exact Vb|exact Vc|exact Vd|exact Ve|exact Vf|exact Vg|exact Vh|exact Vi|exact Vj|exact Vk (by omega)|exact Vl|exact Vm|exact Vn|exact Vo|exact Vp|exact Vq|exact Vr|exact Vs (by omega)|exact Vt (by omega)|exact Vu (by omega)|exact Vv (by omega)|exact Vw|exact Vx|exact Vy|exact Vz|exact VA|exact VB|exact VC|exact VD|exact VE|exact VF) rfl ?_|(refine Wg rfl ?_; intro _)|(refine Wh rfl ?_; intro _)|refine Wi ?_|refine Wj ?_|refine Wk ?_|refine Wl ?_|refine Wm ?_|refine Wn ?_|refine Wo ?_|refine Wp ?_|refine Wq rfl ?_|refine Wr ?_|refine Ws ?_|refine Wt ?_|refine Wu ?_|refine Wv rfl rfl ?_|(refine Ww rfl ⟨rfl, by decide, by decide, by decide⟩ ?_; intro _))
      exact CT.done (Y := PartY L A) ⟨([], none, 0), ⟨fun hc => (hno hc).elim, fun _ => rfl⟩⟩ rfl (fun w ho => (Hold.add (A := sl (α := Commit) none 0 []) (ho.ent : Hold _ _ [] w) sl_nil))
  | true =>
    have hc := hy.iff.1 rfl
    have hI : I = cids L := hy.ids rfl
    subst hI
    have hcl : (cids L).length = L.length := cids_length L
    refine JC.loop4 (fun (i : Nat) (out : List Commit) r s => [(0, .slice a L.length k), (1, .slice d A.length m), (6, .slice p (cids L).length q), (7, .bool true), (8, .slice r out.length s), (17, .int .i64 ((cids L).length : Int)), (18, .int .i64 (i : Int))])
      (fun i out r s => [.res (buf r s 29 out), .st (sl p q (cids L)), .st (sl a k L), .st (sl d m A)]) (fun i out _ _ => i ≤ L.length ∧ out.length ≤ i ∧ out = (L.take i).filter (fun c => decide (idC c ∈ A))) (fun i _ _ _ => L.length - i) 0 [] none 0 ⟨Nat.zero_le _, by simp, by simp⟩ inferInstance ?_
    intro i out r s ⟨hi, hol, hout⟩
    repeat (first|refine Wa ?_|refine Wb ?_|refine Wc ?_|refine Wd ?_|refine We rfl ?_|refine Wf (by first|exact Va|exact Vb|exact Vc|exact Vd|exact Ve|exact Vf|exact Vg|exact Vh|exact Vi|exact Vj|exact Vk (by omega)|exact Vl|exact Vm|exact Vn|exact Vo|exact Vp|exact Vq|exact Vr|exact Vs (by omega)|exact Vt (by omega)|exact Vu (by omega)|exact Vv (by omega)|exact Vw|exact Vx|exact Vy|exact Vz|exact VA|exact VB|exact VC|exact VD|exact VE|exact VF) rfl ?_|(refine Wg rfl ?_; intro _)|(refine Wh rfl ?_; intro _)|refine Wi ?_|refine Wj ?_|refine Wk ?_|refine Wl ?_|refine Wm ?_|refine Wn ?_|refine Wo ?_|refine Wp ?_|refine Wq rfl ?_|refine Wr ?_|refine Ws ?_|refine Wt ?_|refine Wu ?_|refine Wv rfl rfl ?_|(refine Ww rfl ⟨rfl, by decide, by decide, by decide⟩ ?_; intro _))
    refine JC.test (fun hlt => ?_) (fun hge => ?_)
    · have hlt' : i < L.length := by omega
      have hxe : (cids L)[i]'(by omega) = idC L[i] := cids_get L i (by omega)
      have hfx := hf _ (List.getElem_mem hlt')
      have hnx : (L.take (i + 1)).filter (fun c => decide (idC c ∈ A)) = out ++ (if idC L[i] ∈ A then [L[i]] else []) := by
        rw [List.take_succ_eq_append_getElem hlt', List.filter_append, ← hout]
        congr 1
        by_cases hA : idC L[i] ∈ A <;> simp [hA]
      repeat (first|refine Wa ?_|refine Wb ?_|refine Wc ?_|refine Wd ?_|refine We rfl ?_|refine Wf (by first|exact Va|exact Vb|exact Vc|exact Vd|exact Ve|exact Vf|exact Vg|exact Vh|exact Vi|exact Vj|exact Vk (by omega)|exact Vl|exact Vm|exact Vn|exact Vo|exact Vp|exact Vq|exact Vr|exact Vs (by omega)|exact Vt (by omega)|exact Vu (by omega)|exact Vv (by omega)|exact Vw|exact Vx|exact Vy|exact Vz|exact VA|exact VB|exact VC|exact VD|exact VE|exact VF) rfl ?_|(refine Wg rfl ?_; intro _)|(refine Wh rfl ?_; intro _)|refine Wi ?_|refine Wj ?_|refine Wk ?_|refine Wl ?_|refine Wm ?_|refine Wn ?_|refine Wo ?_|refine Wp ?_|refine Wq rfl ?_|refine Wr ?_|refine Ws ?_|refine Wt ?_|refine Wu ?_|refine Wv rfl rfl ?_|(refine Ww rfl ⟨rfl, by decide, by decide, by decide⟩ ?_; intro _)|refine Wx rfl rfl ?_)
      refine JR.indexID (L := cids L) rfl (by omega) ?_
      intro bi oi
      rw [hxe]
      repeat (first|refine Wa ?_|refine Wb ?_|refine Wc ?_|refine Wd ?_|refine We rfl ?_|refine Wf (by first|exact Va|exact Vb|exact Vc|exact Vd|exact Ve|exact Vf|exact Vg|exact Vh|exact Vi|exact Vj|exact Vk (by omega)|exact Vl|exact Vm|exact Vn|exact Vo|exact Vp|exact Vq|exact Vr|exact Vs (by omega)|exact Vt (by omega)|exact Vu (by omega)|exact Vv (by omega)|exact Vw|exact Vx|exact Vy|exact Vz|exact VA|exact VB|exact VC|exact VD|exact VE|exact VF) rfl ?_|(refine Wg rfl ?_; intro _)|(refine Wh rfl ?_; intro _)|refine Wi ?_|refine Wj ?_|refine Wk ?_|refine Wl ?_|refine Wm ?_|refine Wn ?_|refine Wo ?_|refine Wp ?_|refine Wq rfl ?_|refine Wr ?_|refine Ws ?_|refine Wt ?_|refine Wu ?_|refine Wv rfl rfl ?_|(refine Ww rfl ⟨rfl, by decide, by decide, by decide⟩ ?_; intro _)|refine Wx rfl rfl ?_)
      refine JR.callV rfl (fun w1 hw => has_ids w1 _ d m A (idC L[i]) hw.get) ?_
      repeat (first|refine Wa ?_|refine Wb ?_|refine Wc ?_|refine Wd ?_|refine We rfl ?_|refine Wf (by first|exact Va|exact Vb|exact Vc|exact Vd|exact Ve|exact Vf|exact Vg|exact Vh|exact Vi|exact Vj|exact Vk (by omega)|exact Vl|exact Vm|exact Vn|exact Vo|exact Vp|exact Vq|exact Vr|exact Vs (by omega)|exact Vt (by omega)|exact Vu (by omega)|exact Vv (by omega)|exact Vw|exact Vx|exact Vy|exact Vz|exact VA|exact VB|exact VC|exact VD|exact VE|exact VF) rfl ?_|(refine Wg rfl ?_; intro _)|(refine Wh rfl ?_; intro _)|refine Wi ?_|refine Wj ?_|refine Wk ?_|refine Wl ?_|refine Wm ?_|refine Wn ?_|refine Wo ?_|refine Wp ?_|refine Wq rfl ?_|refine Wr ?_|refine Ws ?_|refine Wt ?_|refine Wu ?_|refine Wv rfl rfl ?_|(refine Ww rfl ⟨rfl, by decide, by decide, by decide⟩ ?_; intro _)|refine Wx rfl rfl ?_)
      refine JC.test (fun hA => ?_) (fun hA => ?_)
      · repeat (first|refine Wa ?_|refine Wb ?_|refine Wc ?_|refine Wd ?_|refine We rfl ?_|refine Wf (by first|exact Va|exact Vb|exact Vc|exact Vd|exact Ve|exact Vf|exact Vg|exact Vh|exact Vi|exact Vj|exact Vk (by omega)|exact Vl|exact Vm|exact Vn|exact Vo|exact Vp|exact Vq|exact Vr|exact Vs (by omega)|exact Vt (by omega)|exact Vu (by omega)|exact Vv (by omega)|exact Vw|exact Vx|exact Vy|exact Vz|exact VA|exact VB|exact VC|exact VD|exact VE|exact VF) rfl ?_|(refine Wg rfl ?_; intro _)|(refine Wh rfl ?_; intro _)|refine Wi ?_|refine Wj ?_|refine Wk ?_|refine Wl ?_|refine Wm ?_|refine Wn ?_|refine Wo ?_|refine Wp ?_|refine Wq rfl ?_|refine Wr ?_|refine Ws ?_|refine Wt ?_|refine Wu ?_|refine Wv rfl rfl ?_|(refine Ww rfl ⟨rfl, by decide, by decide, by decide⟩ ?_; intro _)|refine Wx rfl rfl ?_)
        refine JR.indexCommit rfl hlt' ?_
        intro b1 o1 p1 q1
        repeat (first|refine Wa ?_|refine Wb ?_|refine Wc ?_|refine Wd ?_|refine We rfl ?_|refine Wf (by first|exact Va|exact Vb|exact Vc|exact Vd|exact Ve|exact Vf|exact Vg|exact Vh|exact Vi|exact Vj|exact Vk (by omega)|exact Vl|exact Vm|exact Vn|exact Vo|exact Vp|exact Vq|exact Vr|exact Vs (by omega)|exact Vt (by omega)|exact Vu (by omega)|exact Vv (by omega)|exact Vw|exact Vx|exact Vy|exact Vz|exact VA|exact VB|exact VC|exact VD|exact VE|exact VF) rfl ?_|(refine Wg rfl ?_; intro _)|(refine Wh rfl ?_; intro _)|refine Wi ?_|refine Wj ?_|refine Wk ?_|refine Wl ?_|refine Wm ?_|refine Wn ?_|refine Wo ?_|refine Wp ?_|refine Wq rfl ?_|refine Wr ?_|refine Ws ?_|refine Wt ?_|refine Wu ?_|refine Wv rfl rfl ?_|(refine Ww rfl ⟨rfl, by decide, by decide, by decide⟩ ?_; intro _)|refine Wx rfl rfl ?_)
        refine JR.call1 rfl (fun w1 hw => own_dag w1 _ (L[i]) p1 q1 hw.get hfx.2) ?_
        rintro ⟨p2, q2⟩
        dsimp only
        repeat (first|refine Wa ?_|refine Wb ?_|refine Wc ?_|refine Wd ?_|refine We rfl ?_|refine Wf (by first|exact Va|exact Vb|exact Vc|exact Vd|exact Ve|exact Vf|exact Vg|exact Vh|exact Vi|exact Vj|exact Vk (by omega)|exact Vl|exact Vm|exact Vn|exact Vo|exact Vp|exact Vq|exact Vr|exact Vs (by omega)|exact Vt (by omega)|exact Vu (by omega)|exact Vv (by omega)|exact Vw|exact Vx|exact Vy|exact Vz|exact VA|exact VB|exact VC|exact VD|exact VE|exact VF) rfl ?_|(refine Wg rfl ?_; intro _)|(refine Wh rfl ?_; intro _)|refine Wi ?_|refine Wj ?_|refine Wk ?_|refine Wl ?_|refine Wm ?_|refine Wn ?_|refine Wo ?_|refine Wp ?_|refine Wq rfl ?_|refine Wr ?_|refine Ws ?_|refine Wt ?_|refine Wu ?_|refine Wv rfl rfl ?_|(refine Ww rfl ⟨rfl, by decide, by decide, by decide⟩ ?_; intro _)|refine Wx rfl rfl ?_)
        refine JR.append1 (u := L[i]) rfl (by exact ⟨rfl, rfl, by decide⟩) (by omega) ?_
        intro r2 s2
        repeat (first|refine Wa ?_|refine Wb ?_|refine Wc ?_|refine Wd ?_|refine We rfl ?_|refine Wf (by first|exact Va|exact Vb|exact Vc|exact Vd|exact Ve|exact Vf|exact Vg|exact Vh|exact Vi|exact Vj|exact Vk (by omega)|exact Vl|exact Vm|exact Vn|exact Vo|exact Vp|exact Vq|exact Vr|exact Vs (by omega)|exact Vt (by omega)|exact Vu (by omega)|exact Vv (by omega)|exact Vw|exact Vx|exact Vy|exact Vz|exact VA|exact VB|exact VC|exact VD|exact VE|exact VF) rfl ?_|(refine Wg rfl ?_; intro _)|(refine Wh rfl ?_; intro _)|refine Wi ?_|refine Wj ?_|refine Wk ?_|refine Wl ?_|refine Wm ?_|refine Wn ?_|refine Wo ?_|refine Wp ?_|refine Wq rfl ?_|refine Wr ?_|refine Ws ?_|refine Wt ?_|refine Wu ?_|refine Wv rfl rfl ?_|(refine Ww rfl ⟨rfl, by decide, by decide, by decide⟩ ?_; intro _)|refine Wx rfl rfl ?_)
        exact ⟨i + 1, out ++ [L[i]], r2, s2, ⟨by omega, by simp; omega, by rw [hnx, if_pos hA]⟩, by omega, inferInstance⟩
      · repeat (first|refine Wa ?_|refine Wb ?_|refine Wc ?_|refine Wd ?_|refine We rfl ?_|refine Wf (by first|exact Va|exact Vb|exact Vc|exact Vd|exact Ve|exact Vf|exact Vg|exact Vh|exact Vi|exact Vj|exact Vk (by omega)|exact Vl|exact Vm|exact Vn|exact Vo|exact Vp|exact Vq|exact Vr|exact Vs (by omega)|exact Vt (by omega)|exact Vu (by omega)|exact Vv (by omega)|exact Vw|exact Vx|exact Vy|exact Vz|exact VA|exact VB|exact VC|exact VD|exact VE|exact VF) rfl ?_|(refine Wg rfl ?_; intro _)|(refine Wh rfl ?_; intro _)|refine Wi ?_|refine Wj ?_|refine Wk ?_|refine Wl ?_|refine Wm ?_|refine Wn ?_|refine Wo ?_|refine Wp ?_|refine Wq rfl ?_|refine Wr ?_|refine Ws ?_|refine Wt ?_|refine Wu ?_|refine Wv rfl rfl ?_|(refine Ww rfl ⟨rfl, by decide, by decide, by decide⟩ ?_; intro _)|refine Wx rfl rfl ?_)
        exact ⟨i + 1, out, r, s, ⟨by omega, by omega, by rw [hnx, if_neg hA, List.append_nil]⟩, by omega, inferInstance⟩
    · obtain rfl : i = L.length := by omega
      rw [List.take_length] at hout
      refine JC.more (fun w1 ho => ho.pub) ?_
      repeat (first|refine Wa ?_|refine Wb ?_|refine Wc ?_|refine Wd ?_|refine We rfl ?_|refine Wf (by first|exact Va|exact Vb|exact Vc|exact Vd|exact Ve|exact Vf|exact Vg|exact Vh|exact Vi|exact Vj|exact Vk (by omega)|exact Vl|exact Vm|exact Vn|exact Vo|exact Vp|exact Vq|exact Vr|exact Vs (by omega)|exact Vt (by omega)|exact Vu (by omega)|exact Vv (by omega)|exact Vw|exact Vx|exact Vy|exact Vz|exact VA|exact VB|exact VC|exact VD|exact VE|exact VF) rfl ?_|(refine Wg rfl ?_; intro _)|(refine Wh rfl ?_; intro _)|refine Wi ?_|refine Wj ?_|refine Wk ?_|refine Wl ?_|refine Wm ?_|refine Wn ?_|refine Wo ?_|refine Wp ?_|refine Wq rfl ?_|refine Wr ?_|refine Ws ?_|refine Wt ?_|refine Wu ?_|refine Wv rfl rfl ?_|(refine Ww rfl ⟨rfl, by decide, by decide, by decide⟩ ?_; intro _))
      exact CT.done (Y := PartY L A) ⟨(out, r, s), ⟨fun _ => hout, fun hn => (hn hc).elim⟩⟩ rfl (fun w ho => ho.ent)

/- Sorted -/
def leS (c d : Commit) : Prop := c.gen < d.gen ∨ (c.gen = d.gen ∧ idLt (idC d) (idC c) = false)
structure SortedR (L M : List Commit) : Prop where
  perm : Closed L → M.Perm L
  sorted : Closed L → M.Pairwise leS
  not : ¬ Closed L → M = []
theorem sorted_uniqueC {L M N : List Commit} (h : (cids L).Nodup) (h1 : M.Perm L) (h2 : N.Perm L) (h3 : M.Pairwise leS) (h4 : N.Pairwise leS) : M = N := by
  refine List.Perm.eq_of_pairwise (le := leS) (fun c d hc hd h5 h6 => ?_) h3 h4 (h1.trans h2.symm)
  have e : idC c = idC d := by
    rcases h5 with h5 | ⟨h5, h7⟩ <;> rcases h6 with h6 | ⟨h6, h8⟩
    · omega
    · omega
    · omega
    · exact idLt_total h8 h7
  exact id_inj h (h1.mem_iff.1 hc) (h2.mem_iff.1 hd) e
abbrev SortY (L : List Commit) := { y : List Commit × Option Addr × Nat // SortedR L y.1 }
def idAt (L : List Commit) (i : Nat) : ID := idC (L.getD i commit0)
def cfS (L : List Commit) (i j : Nat) : Int := orL [cmpI (genC L i) (genC L j), idCmp (idAt L i) (idAt L j)]
theorem cmpI_zero (a b : Int) : cmpI a b ≠ 0 ↔ a ≠ b := by
  unfold cmpI
  split
  · simp; omega
  · split
    · simp; omega
    · simp; omega
theorem cfS_lt (L : List Commit) (i j : Nat) : cfS L i j < 0 ↔ genC L i < genC L j ∨ (genC L i = genC L j ∧ idLt (idAt L i) (idAt L j) = true) := by
  unfold cfS
  simp only [orL]
  by_cases h : genC L i = genC L j
  · rw [if_neg (by rw [cmpI_zero]; simpa using h)]
    have : (if idCmp (idAt L i) (idAt L j) ≠ 0 then idCmp (idAt L i) (idAt L j) else 0) = idCmp (idAt L i) (idAt L j) := by split <;> simp_all
    rw [this]
    simp [h, idLt]
  · rw [if_pos (by rw [cmpI_zero]; exact h), cmpI_lt]
    simp [h]
theorem swo_sorted (L : List Commit) : Go.Sort.SWO (Go.Proofs.ltOf (cfS L)) := by
  have h : ∀ i j, Go.Proofs.ltOf (cfS L) i j = true ↔ genC L i < genC L j ∨ (genC L i = genC L j ∧ idLt (idAt L i) (idAt L j) = true) := fun i j => by
    simp only [Go.Proofs.ltOf, decide_eq_true_eq, cfS_lt]
  have h' : ∀ i j, Go.Proofs.ltOf (cfS L) i j = false ↔ ¬ (genC L i < genC L j ∨ (genC L i = genC L j ∧ idLt (idAt L i) (idAt L j) = true)) := fun i j => by
    rw [← h]; simp
  refine ⟨fun x => ?_, fun x y z h1 h2 => ?_, fun x y z h1 h2 => ?_⟩
  · rw [h']; simp [idLt_irrefl]
  · rw [h] at h1 h2 ⊢
    rcases h1 with h1 | ⟨h1, h3⟩ <;> rcases h2 with h2 | ⟨h2, h4⟩
    · exact .inl (by omega)
    · exact .inl (by omega)
    · exact .inl (by omega)
    · exact .inr ⟨by omega, idLt_trans h3 h4⟩
  · rw [h'] at h1 h2 ⊢
    rintro (h3 | ⟨h3, h4⟩)
    · have h5 : ¬ genC L x < genC L y := fun h => h1 (.inl h)
      have h6 : ¬ genC L y < genC L z := fun h => h2 (.inl h)
      omega
    · have h5 : ¬ genC L x < genC L y := fun h => h1 (.inl h)
      have h6 : ¬ genC L y < genC L z := fun h => h2 (.inl h)
      have e1 : genC L x = genC L y := by omega
      have e2 : genC L y = genC L z := by omega
      have h7 : idLt (idAt L x) (idAt L y) = false := by rw [← Bool.not_eq_true]; exact fun h => h1 (.inr ⟨e1, h⟩)
      have h8 : idLt (idAt L y) (idAt L z) = false := by rw [← Bool.not_eq_true]; exact fun h => h2 (.inr ⟨e2, h⟩)
      have := idLe_trans h8 h7
      rw [this] at h4; cases h4
theorem sortFunc_sorted {w0 w : World} {F : Nat → Prop} {Γ : List Fact} {b c el bl ba k m : Nat} {a d : Option Addr} {L : List Commit} (hl : L.length ≤ 1000000)
    (ho : Hold w0 F (.own b el ((List.range L.length).map natV) :: .st (ro bl 0 [.slice a L.length k]) :: .st (sl a k L) :: .st (ro ba 0 [.slice d (cids L).length m]) :: .st (sl d m (cids L)) :: Γ) w) :
    Calls Tryz.prog 63 ⟨[.slice (some ⟨b, 0, none⟩) L.length c, .func (.func 64) ⟨[]⟩ ⟨[.pointer (some ⟨bl, 0, none⟩), .pointer (some ⟨ba, 0, none⟩)]⟩]⟩ w fun x w' =>
      ∃ O : Order (cfS L) L.length, x = .returned (.tuple ⟨[]⟩) ∧ Hold w0 F (.own b el (O.1.map natV) :: .st (ro bl 0 [.slice a L.length k]) :: .st (sl a k L) :: .st (ro ba 0 [.slice d (cids L).length m]) :: .st (sl d m (cids L)) :: Γ) w' := by
  refine sort_order sortInt _ (swo_sorted L) _ _ hl ho (fun W hW x y hx hy => ?_)
  have h1 := hW (sl a k L) (ho.get (A := sl a k L))
  have h2 := hW (ro bl 0 [.slice a L.length k]) (ho.get (A := ro bl 0 [.slice a L.length k]))
  have h3 := hW (sl d m (cids L)) (ho.get (A := sl d m (cids L)))
  have h4 := hW (ro ba 0 [.slice d (cids L).length m]) (ho.get (A := ro ba 0 [.slice d (cids L).length m]))
  have hx' : x < (cids L).length := by rw [cids_length]; exact hx
  have hy' : y < (cids L).length := by rw [cids_length]; exact hy
  have := @sorted1_dag ⟨True⟩ W _ a d k m bl ba L (cids L) x y hx hy hx' hy' h1 h2 h3 h4
  rw [cids_get L x hx', cids_get L y hy'] at this
  simpa [cfS, genC, idAt, List.getD_eq_getElem?_getD, hx, hy] using this
set_option maxHeartbeats 2000000 in
theorem sorted_dag (w : World) (F : Nat → Prop) (a : Option Addr) (k : Nat) (L : List Commit) (h : (sl a k L).holds F w) (hl : L.length ≤ 1000) (hf : ∀ x ∈ L, fine x) :
    Gives Tryz.prog 30 [.slice a L.length k] w F (fun y : SortY L => .slice y.1.2.1 y.1.1.length y.1.2.2) (fun y => [.st (sl y.1.2.1 y.1.2.2 y.1.1)]) := by
  refine gives_of Tryz.func30 rfl Tryz.ntmps30 rfl rfl [.st (sl a k L)] (.start1 h) ?_
  repeat (first|refine Wa ?_|refine Wb ?_|refine Wc ?_|refine Wd ?_|refine We rfl ?_|refine Wf (by first|exact Va|exact Vb|exact Vc|exact Vd|exact Ve|exact Vf|exact Vg|exact Vh|exact Vi|exact Vj|exact Vk (by omega)|exact Vl|exact Vm|exact Vn|exact Vo|exact Vp|exact Vq|exact Vr|exact Vs (by omega)|exact Vt (by omega)|exact Vu (by omega)|exact Vv (by omega)|exact Vw|exact Vx|exact Vy|exact Vz|exact VA|exact VB|exact VC|exact VD|exact VE|exact VF) rfl ?_|(refine Wg rfl ?_; intro _)|(refine Wh rfl ?_; intro _)|refine Wi ?_|refine Wj ?_|refine Wk ?_|refine Wl ?_|refine Wm ?_|refine Wn ?_|refine Wo ?_|refine Wp ?_|refine Wq rfl ?_|refine Wr ?_|refine Ws ?_|refine Wt ?_|refine Wu ?_|refine Wv rfl rfl ?_|(refine Ww rfl ⟨rfl, by decide, by decide, by decide⟩ ?_; intro _))
  rename_i b1
  refine JR.pubOwn b1 ?_
  refine JR.call (v := fun y : OfY L => ofV y) rfl (fun w1 hw => of_dag w1 _ a k L hw.get (by omega) hf) ?_
  rintro ⟨⟨bo, bk, R, I, p, q, b⟩, hy⟩
  dsimp only [ofV]
  refine JO.more (Γ' := [.st (sl p q I), .st (ro b1 0 [.slice a L.length k]), .st (sl a k L)]) (fun w1 ho => by
    cases b with
    | false => rw [of_false hy] at ho; simp only [List.cons_append, List.nil_append] at ho; exact ho.ent
    | true => rw [of_true hy] at ho; simp only [List.cons_append, List.nil_append] at ho; exact ho.ent) ?_
  repeat (first|refine Wa ?_|refine Wb ?_|refine Wc ?_|refine Wd ?_|refine We rfl ?_|refine Wf (by first|exact Va|exact Vb|exact Vc|exact Vd|exact Ve|exact Vf|exact Vg|exact Vh|exact Vi|exact Vj|exact Vk (by omega)|exact Vl|exact Vm|exact Vn|exact Vo|exact Vp|exact Vq|exact Vr|exact Vs (by omega)|exact Vt (by omega)|exact Vu (by omega)|exact Vv (by omega)|exact Vw|exact Vx|exact Vy|exact Vz|exact VA|exact VB|exact VC|exact VD|exact VE|exact VF) rfl ?_|(refine Wg rfl ?_; intro _)|(refine Wh rfl ?_; intro _)|refine Wi ?_|refine Wj ?_|refine Wk ?_|refine Wl ?_|refine Wm ?_|refine Wn ?_|refine Wo ?_|refine Wp ?_|refine Wq rfl ?_|refine Wr ?_|refine Ws ?_|refine Wt ?_|refine Wu ?_|refine Wv rfl rfl ?_|(refine Ww rfl ⟨rfl, by decide, by decide, by decide⟩ ?_; intro _))
  cases b with
  | false =>
    have hno : ¬ Closed L := fun hc => by have := hy.iff.2 hc; cases this
    repeat (first|refine Wa ?_|refine Wb ?_|refine Wc ?_|refine Wd ?_|refine We rfl ?_|refine Wf (by first|exact Va|exact Vb|exact Vc|exact Vd|exact Ve|exact Vf|exact Vg|exact Vh|exact Vi|exact Vj|exact Vk (by omega)|exact Vl|exact Vm|exact Vn|exact Vo|exact Vp|exact Vq|exact Vr|exact Vs (by omega)|exact Vt (by omega)|exact Vu (by omega)|exact Vv (by omega)|exact Vw|exact Vx|exact Vy|exact Vz|exact VA|exact VB|exact VC|exact VD|exact VE|exact VF) rfl ?_|(refine Wg rfl ?_; intro _)|(refine Wh rfl ?_; intro _)|refine Wi ?_|refine Wj ?_|refine Wk ?_|refine Wl ?_|refine Wm ?_|refine Wn ?_|refine Wo ?_|refine Wp ?_|refine Wq rfl ?_|refine Wr ?_|refine Ws ?_|refine Wt ?_|refine Wu ?_|refine Wv rfl rfl ?_|(refine Ww rfl ⟨rfl, by decide, by decide, by decide⟩ ?_; intro _))
    exact CT.done (Y := SortY L) ⟨([], none, 0), ⟨fun hc => (hno hc).elim, fun hc => (hno hc).elim, fun _ => rfl⟩⟩ rfl (fun w ho => (Hold.add (A := sl (α := Commit) none 0 []) (ho.ent : Hold _ _ [] w) sl_nil))
  | true =>
    have hc := hy.iff.1 rfl
    have hI : I = cids L := hy.ids rfl
    subst hI
    have hcl : (cids L).length = L.length := cids_length L
    repeat (first|refine Wa ?_|refine Wb ?_|refine Wc ?_|refine Wd ?_|refine We rfl ?_|refine Wf (by first|exact Va|exact Vb|exact Vc|exact Vd|exact Ve|exact Vf|exact Vg|exact Vh|exact Vi|exact Vj|exact Vk (by omega)|exact Vl|exact Vm|exact Vn|exact Vo|exact Vp|exact Vq|exact Vr|exact Vs (by omega)|exact Vt (by omega)|exact Vu (by omega)|exact Vv (by omega)|exact Vw|exact Vx|exact Vy|exact Vz|exact VA|exact VB|exact VC|exact VD|exact VE|exact VF) rfl ?_|(refine Wg rfl ?_; intro _)|(refine Wh rfl ?_; intro _)|refine Wi ?_|refine Wj ?_|refine Wk ?_|refine Wl ?_|refine Wm ?_|refine Wn ?_|refine Wo ?_|refine Wp ?_|refine Wq rfl ?_|refine Wr ?_|refine Ws ?_|refine Wt ?_|refine Wu ?_|refine Wv rfl rfl ?_|(refine Ww rfl ⟨rfl, by decide, by decide, by decide⟩ ?_; intro _))
    rename_i b3 b4
    refine JR.makeInts rfl rfl (by omega) ?_
    intro bO
    repeat (first|refine Wa ?_|refine Wb ?_|refine Wc ?_|refine Wd ?_|refine We rfl ?_|refine Wf (by first|exact Va|exact Vb|exact Vc|exact Vd|exact Ve|exact Vf|exact Vg|exact Vh|exact Vi|exact Vj|exact Vk (by omega)|exact Vl|exact Vm|exact Vn|exact Vo|exact Vp|exact Vq|exact Vr|exact Vs (by omega)|exact Vt (by omega)|exact Vu (by omega)|exact Vv (by omega)|exact Vw|exact Vx|exact Vy|exact Vz|exact VA|exact VB|exact VC|exact VD|exact VE|exact VF) rfl ?_|(refine Wg rfl ?_; intro _)|(refine Wh rfl ?_; intro _)|refine Wi ?_|refine Wj ?_|refine Wk ?_|refine Wl ?_|refine Wm ?_|refine Wn ?_|refine Wo ?_|refine Wp ?_|refine Wq rfl ?_|refine Wr ?_|refine Ws ?_|refine Wt ?_|refine Wu ?_|refine Wv rfl rfl ?_|(refine Ww rfl ⟨rfl, by decide, by decide, by decide⟩ ?_; intro _))
    refine JC.pubOwn b4 ?_
    refine JC.loop1 (fun (i : Nat) => [(1, .pointer (some ⟨b1, 0, none⟩)), (4, .pointer (some ⟨b4, 0, none⟩)), (6, .slice (some ⟨bO, 0, none⟩) L.length L.length), (23, .int .i64 (L.length : Int)), (24, .int .i64 (i : Int))])
      (fun i => .own bO 3 ((List.range i ++ List.replicate (L.length - i) 0).map natV) :: .st (ro b1 0 [.slice a L.length k]) :: .st (sl a k L) :: .st (ro b4 0 [.slice p (cids L).length q]) :: .st (sl p q (cids L)) :: [])
      (fun i => i ≤ L.length) (fun i => L.length - i) 0 (Nat.zero_le _) (by rw [List.range_zero, List.nil_append, Nat.sub_zero]; infer_instance) ?_
    intro i hi
    repeat (first|refine Wa ?_|refine Wb ?_|refine Wc ?_|refine Wd ?_|refine We rfl ?_|refine Wf (by first|exact Va|exact Vb|exact Vc|exact Vd|exact Ve|exact Vf|exact Vg|exact Vh|exact Vi|exact Vj|exact Vk (by omega)|exact Vl|exact Vm|exact Vn|exact Vo|exact Vp|exact Vq|exact Vr|exact Vs (by omega)|exact Vt (by omega)|exact Vu (by omega)|exact Vv (by omega)|exact Vw|exact Vx|exact Vy|exact Vz|exact VA|exact VB|exact VC|exact VD|exact VE|exact VF) rfl ?_|(refine Wg rfl ?_; intro _)|(refine Wh rfl ?_; intro _)|refine Wi ?_|refine Wj ?_|refine Wk ?_|refine Wl ?_|refine Wm ?_|refine Wn ?_|refine Wo ?_|refine Wp ?_|refine Wq rfl ?_|refine Wr ?_|refine Ws ?_|refine Wt ?_|refine Wu ?_|refine Wv rfl rfl ?_|(refine Ww rfl ⟨rfl, by decide, by decide, by decide⟩ ?_; intro _))
    refine JC.test (fun hlt => ?_) (fun hge => ?_)
    · have hlt' : i < L.length := by omega
      have e : (List.range i ++ List.replicate (L.length - i) 0).set i i = List.range (i + 1) ++ List.replicate (L.length - (i + 1)) 0 := by
        obtain ⟨m, hm⟩ : ∃ m, L.length - i = m + 1 := ⟨L.length - i - 1, by omega⟩
        rw [hm, List.replicate_succ, List.set_append_right _ _ (by simp), List.length_range, Nat.sub_self, List.set_cons_zero, List.range_succ, List.append_assoc, show L.length - (i + 1) = m by omega]
        rfl
      repeat (first|refine Wa ?_|refine Wb ?_|refine Wc ?_|refine Wd ?_|refine We rfl ?_|refine Wf (by first|exact Va|exact Vb|exact Vc|exact Vd|exact Ve|exact Vf|exact Vg|exact Vh|exact Vi|exact Vj|exact Vk (by omega)|exact Vl|exact Vm|exact Vn|exact Vo|exact Vp|exact Vq|exact Vr|exact Vs (by omega)|exact Vt (by omega)|exact Vu (by omega)|exact Vv (by omega)|exact Vw|exact Vx|exact Vy|exact Vz|exact VA|exact VB|exact VC|exact VD|exact VE|exact VF) rfl ?_|(refine Wg rfl ?_; intro _)|(refine Wh rfl ?_; intro _)|refine Wi ?_|refine Wj ?_|refine Wk ?_|refine Wl ?_|refine Wm ?_|refine Wn ?_|refine Wo ?_|refine Wp ?_|refine Wq rfl ?_|refine Wr ?_|refine Ws ?_|refine Wt ?_|refine Wu ?_|refine Wv rfl rfl ?_|(refine Ww rfl ⟨rfl, by decide, by decide, by decide⟩ ?_; intro _))
      refine Wf (OpV.indexBuf (k := i) hlt') rfl ?_
      refine We rfl ?_
      refine JR.setW (f := natV) i i (by simp; omega) (by omega) rfl ?_
      rw [e]
      repeat (first|refine Wa ?_|refine Wb ?_|refine Wc ?_|refine Wd ?_|refine We rfl ?_|refine Wf (by first|exact Va|exact Vb|exact Vc|exact Vd|exact Ve|exact Vf|exact Vg|exact Vh|exact Vi|exact Vj|exact Vk (by omega)|exact Vl|exact Vm|exact Vn|exact Vo|exact Vp|exact Vq|exact Vr|exact Vs (by omega)|exact Vt (by omega)|exact Vu (by omega)|exact Vv (by omega)|exact Vw|exact Vx|exact Vy|exact Vz|exact VA|exact VB|exact VC|exact VD|exact VE|exact VF) rfl ?_|(refine Wg rfl ?_; intro _)|(refine Wh rfl ?_; intro _)|refine Wi ?_|refine Wj ?_|refine Wk ?_|refine Wl ?_|refine Wm ?_|refine Wn ?_|refine Wo ?_|refine Wp ?_|refine Wq rfl ?_|refine Wr ?_|refine Ws ?_|refine Wt ?_|refine Wu ?_|refine Wv rfl rfl ?_|(refine Ww rfl ⟨rfl, by decide, by decide, by decide⟩ ?_; intro _))
      exact ⟨i + 1, by omega, by omega, inferInstance⟩
    obtain rfl : i = L.length := by omega
    rw [show List.range L.length ++ List.replicate (L.length - L.length) 0 = List.range L.length by simp]
    repeat (first|refine Wa ?_|refine Wb ?_|refine Wc ?_|refine Wd ?_|refine We rfl ?_|refine Wf (by first|exact Va|exact Vb|exact Vc|exact Vd|exact Ve|exact Vf|exact Vg|exact Vh|exact Vi|exact Vj|exact Vk (by omega)|exact Vl|exact Vm|exact Vn|exact Vo|exact Vp|exact Vq|exact Vr|exact Vs (by omega)|exact Vt (by omega)|exact Vu (by omega)|exact Vv (by omega)|exact Vw|exact Vx|exact Vy|exact Vz|exact VA|exact VB|exact VC|exact VD|exact VE|exact VF) rfl ?_|(refine Wg rfl ?_; intro _)|(refine Wh rfl ?_; intro _)|refine Wi ?_|refine Wj ?_|refine Wk ?_|refine Wl ?_|refine Wm ?_|refine Wn ?_|refine Wo ?_|refine Wp ?_|refine Wq rfl ?_|refine Wr ?_|refine Ws ?_|refine Wt ?_|refine Wu ?_|refine Wv rfl rfl ?_|(refine Ww rfl ⟨rfl, by decide, by decide, by decide⟩ ?_; intro _))
    refine JR.callW (v := fun _ : Order (cfS L) L.length => .tuple ⟨[]⟩) rfl (fun w1 hw => sortFunc_sorted (el := 3) (a := a) (k := k) (d := p) (m := q) (Γ := []) (by omega) hw.ent) ?_
    rintro ⟨O, hO1, hO2⟩
    dsimp only
    have hOl : O.length = L.length := by rw [hO1.length_eq, List.length_range]
    repeat (first|refine Wa ?_|refine Wb ?_|refine Wc ?_|refine Wd ?_|refine We rfl ?_|refine Wf (by first|exact Va|exact Vb|exact Vc|exact Vd|exact Ve|exact Vf|exact Vg|exact Vh|exact Vi|exact Vj|exact Vk (by omega)|exact Vl|exact Vm|exact Vn|exact Vo|exact Vp|exact Vq|exact Vr|exact Vs (by omega)|exact Vt (by omega)|exact Vu (by omega)|exact Vv (by omega)|exact Vw|exact Vx|exact Vy|exact Vz|exact VA|exact VB|exact VC|exact VD|exact VE|exact VF) rfl ?_|(refine Wg rfl ?_; intro _)|(refine Wh rfl ?_; intro _)|refine Wi ?_|refine Wj ?_|refine Wk ?_|refine Wl ?_|refine Wm ?_|refine Wn ?_|refine Wo ?_|refine Wp ?_|refine Wq rfl ?_|refine Wr ?_|refine Ws ?_|refine Wt ?_|refine Wu ?_|refine Wv rfl rfl ?_|(refine Ww rfl ⟨rfl, by decide, by decide, by decide⟩ ?_; intro _))
    refine JC.buf_nil (α := Commit) 29 ?_
    refine JC.loop3 (fun (i : Nat) r s => [(1, .pointer (some ⟨b1, 0, none⟩)), (8, .slice r (byO L (O.take i)).length s), (35, .slice (some ⟨bO, 0, none⟩) L.length L.length), (36, .int .i64 (L.length : Int)), (37, .int .i64 (i : Int))])
      (fun i r s => .res (buf r s 29 (byO L (O.take i))) :: .own bO 3 (O.map natV) :: .st (ro b1 0 [.slice a L.length k]) :: .st (sl a k L) :: [])
      (fun i _ _ => i ≤ L.length) (fun i _ _ => L.length - i) 0 none 0 (Nat.zero_le _) (by rw [List.take_zero, show byO L [] = [] from rfl]; infer_instance) ?_
    intro i r s hi
    repeat (first|refine Wa ?_|refine Wb ?_|refine Wc ?_|refine Wd ?_|refine We rfl ?_|refine Wf (by first|exact Va|exact Vb|exact Vc|exact Vd|exact Ve|exact Vf|exact Vg|exact Vh|exact Vi|exact Vj|exact Vk (by omega)|exact Vl|exact Vm|exact Vn|exact Vo|exact Vp|exact Vq|exact Vr|exact Vs (by omega)|exact Vt (by omega)|exact Vu (by omega)|exact Vv (by omega)|exact Vw|exact Vx|exact Vy|exact Vz|exact VA|exact VB|exact VC|exact VD|exact VE|exact VF) rfl ?_|(refine Wg rfl ?_; intro _)|(refine Wh rfl ?_; intro _)|refine Wi ?_|refine Wj ?_|refine Wk ?_|refine Wl ?_|refine Wm ?_|refine Wn ?_|refine Wo ?_|refine Wp ?_|refine Wq rfl ?_|refine Wr ?_|refine Ws ?_|refine Wt ?_|refine Wu ?_|refine Wv rfl rfl ?_|(refine Ww rfl ⟨rfl, by decide, by decide, by decide⟩ ?_; intro _))
    refine JC.test (fun hlt => ?_) (fun hge => ?_)
    · have hlt' : i < L.length := by omega
      have hiO : i < O.length := by omega
      obtain ⟨j, hj⟩ : ∃ j, j = O[i] := ⟨_, rfl⟩
      have hjn : j < L.length := by rw [hj]; exact List.mem_range.1 (hO1.mem_iff.1 (List.getElem_mem hiO))
      have hfx := hf _ (List.getElem_mem hjn)
      have hnx : byO L (O.take (i + 1)) = byO L (O.take i) ++ [L[j]] := by
        rw [List.take_succ_eq_append_getElem hiO, byO, List.map_append, ← hj]
        simp [byO, List.getD_eq_getElem?_getD, hjn]
      have hbl : (byO L (O.take i)).length ≤ i := by simp [byO]; omega
      repeat (first|refine Wa ?_|refine Wb ?_|refine Wc ?_|refine Wd ?_|refine We rfl ?_|refine Wf (by first|exact Va|exact Vb|exact Vc|exact Vd|exact Ve|exact Vf|exact Vg|exact Vh|exact Vi|exact Vj|exact Vk (by omega)|exact Vl|exact Vm|exact Vn|exact Vo|exact Vp|exact Vq|exact Vr|exact Vs (by omega)|exact Vt (by omega)|exact Vu (by omega)|exact Vv (by omega)|exact Vw|exact Vx|exact Vy|exact Vz|exact VA|exact VB|exact VC|exact VD|exact VE|exact VF) rfl ?_|(refine Wg rfl ?_; intro _)|(refine Wh rfl ?_; intro _)|refine Wi ?_|refine Wj ?_|refine Wk ?_|refine Wl ?_|refine Wm ?_|refine Wn ?_|refine Wo ?_|refine Wp ?_|refine Wq rfl ?_|refine Wr ?_|refine Ws ?_|refine Wt ?_|refine Wu ?_|refine Wv rfl rfl ?_|(refine Ww rfl ⟨rfl, by decide, by decide, by decide⟩ ?_; intro _))
      refine Wf (OpV.indexBuf (k := i) (by omega)) rfl ?_
      refine We rfl ?_
      refine Wf (OpV.getW (f := natV) i (by omega) (by omega) rfl) rfl ?_
      refine JO.reslot 40 (natV j) (by rw [hj]) ?_
      repeat (first|refine Wa ?_|refine Wb ?_|refine Wc ?_|refine Wd ?_|refine We rfl ?_|refine Wf (by first|exact Va|exact Vb|exact Vc|exact Vd|exact Ve|exact Vf|exact Vg|exact Vh|exact Vi|exact Vj|exact Vk (by omega)|exact Vl|exact Vm|exact Vn|exact Vo|exact Vp|exact Vq|exact Vr|exact Vs (by omega)|exact Vt (by omega)|exact Vu (by omega)|exact Vv (by omega)|exact Vw|exact Vx|exact Vy|exact Vz|exact VA|exact VB|exact VC|exact VD|exact VE|exact VF) rfl ?_|(refine Wg rfl ?_; intro _)|(refine Wh rfl ?_; intro _)|refine Wi ?_|refine Wj ?_|refine Wk ?_|refine Wl ?_|refine Wm ?_|refine Wn ?_|refine Wo ?_|refine Wp ?_|refine Wq rfl ?_|refine Wr ?_|refine Ws ?_|refine Wt ?_|refine Wu ?_|refine Wv rfl rfl ?_|(refine Ww rfl ⟨rfl, by decide, by decide, by decide⟩ ?_; intro _))
      refine JR.indexCommit rfl hjn ?_
      intro bc oc pc qc
      repeat (first|refine Wa ?_|refine Wb ?_|refine Wc ?_|refine Wd ?_|refine We rfl ?_|refine Wf (by first|exact Va|exact Vb|exact Vc|exact Vd|exact Ve|exact Vf|exact Vg|exact Vh|exact Vi|exact Vj|exact Vk (by omega)|exact Vl|exact Vm|exact Vn|exact Vo|exact Vp|exact Vq|exact Vr|exact Vs (by omega)|exact Vt (by omega)|exact Vu (by omega)|exact Vv (by omega)|exact Vw|exact Vx|exact Vy|exact Vz|exact VA|exact VB|exact VC|exact VD|exact VE|exact VF) rfl ?_|(refine Wg rfl ?_; intro _)|(refine Wh rfl ?_; intro _)|refine Wi ?_|refine Wj ?_|refine Wk ?_|refine Wl ?_|refine Wm ?_|refine Wn ?_|refine Wo ?_|refine Wp ?_|refine Wq rfl ?_|refine Wr ?_|refine Ws ?_|refine Wt ?_|refine Wu ?_|refine Wv rfl rfl ?_|(refine Ww rfl ⟨rfl, by decide, by decide, by decide⟩ ?_; intro _))
      refine JR.call1 rfl (fun w1 hw => own_dag w1 _ (L[j]) pc qc hw.get hfx.2) ?_
      rintro ⟨p2, q2⟩
      dsimp only
      repeat (first|refine Wa ?_|refine Wb ?_|refine Wc ?_|refine Wd ?_|refine We rfl ?_|refine Wf (by first|exact Va|exact Vb|exact Vc|exact Vd|exact Ve|exact Vf|exact Vg|exact Vh|exact Vi|exact Vj|exact Vk (by omega)|exact Vl|exact Vm|exact Vn|exact Vo|exact Vp|exact Vq|exact Vr|exact Vs (by omega)|exact Vt (by omega)|exact Vu (by omega)|exact Vv (by omega)|exact Vw|exact Vx|exact Vy|exact Vz|exact VA|exact VB|exact VC|exact VD|exact VE|exact VF) rfl ?_|(refine Wg rfl ?_; intro _)|(refine Wh rfl ?_; intro _)|refine Wi ?_|refine Wj ?_|refine Wk ?_|refine Wl ?_|refine Wm ?_|refine Wn ?_|refine Wo ?_|refine Wp ?_|refine Wq rfl ?_|refine Wr ?_|refine Ws ?_|refine Wt ?_|refine Wu ?_|refine Wv rfl rfl ?_|(refine Ww rfl ⟨rfl, by decide, by decide, by decide⟩ ?_; intro _))
      refine JR.append1 (u := L[j]) rfl (by exact ⟨rfl, rfl, by decide⟩) (by omega) ?_
      intro r2 s2
      repeat (first|refine Wa ?_|refine Wb ?_|refine Wc ?_|refine Wd ?_|refine We rfl ?_|refine Wf (by first|exact Va|exact Vb|exact Vc|exact Vd|exact Ve|exact Vf|exact Vg|exact Vh|exact Vi|exact Vj|exact Vk (by omega)|exact Vl|exact Vm|exact Vn|exact Vo|exact Vp|exact Vq|exact Vr|exact Vs (by omega)|exact Vt (by omega)|exact Vu (by omega)|exact Vv (by omega)|exact Vw|exact Vx|exact Vy|exact Vz|exact VA|exact VB|exact VC|exact VD|exact VE|exact VF) rfl ?_|(refine Wg rfl ?_; intro _)|(refine Wh rfl ?_; intro _)|refine Wi ?_|refine Wj ?_|refine Wk ?_|refine Wl ?_|refine Wm ?_|refine Wn ?_|refine Wo ?_|refine Wp ?_|refine Wq rfl ?_|refine Wr ?_|refine Ws ?_|refine Wt ?_|refine Wu ?_|refine Wv rfl rfl ?_|(refine Ww rfl ⟨rfl, by decide, by decide, by decide⟩ ?_; intro _))
      exact ⟨i + 1, r2, s2, by omega, by omega, by rw [hnx]; infer_instance⟩
    · obtain rfl : i = L.length := by omega
      rw [List.take_of_length_le (by omega)]
      refine JC.more (fun w1 ho => ho.pub) ?_
      repeat (first|refine Wa ?_|refine Wb ?_|refine Wc ?_|refine Wd ?_|refine We rfl ?_|refine Wf (by first|exact Va|exact Vb|exact Vc|exact Vd|exact Ve|exact Vf|exact Vg|exact Vh|exact Vi|exact Vj|exact Vk (by omega)|exact Vl|exact Vm|exact Vn|exact Vo|exact Vp|exact Vq|exact Vr|exact Vs (by omega)|exact Vt (by omega)|exact Vu (by omega)|exact Vv (by omega)|exact Vw|exact Vx|exact Vy|exact Vz|exact VA|exact VB|exact VC|exact VD|exact VE|exact VF) rfl ?_|(refine Wg rfl ?_; intro _)|(refine Wh rfl ?_; intro _)|refine Wi ?_|refine Wj ?_|refine Wk ?_|refine Wl ?_|refine Wm ?_|refine Wn ?_|refine Wo ?_|refine Wp ?_|refine Wq rfl ?_|refine Wr ?_|refine Ws ?_|refine Wt ?_|refine Wu ?_|refine Wv rfl rfl ?_|(refine Ww rfl ⟨rfl, by decide, by decide, by decide⟩ ?_; intro _))
      refine CT.done (Y := SortY L) ⟨(byO L O, r, s), ⟨fun _ => byO_perm hO1, fun _ => ?_, fun hn => (hn hc).elim⟩⟩ rfl (fun w ho => ho.ent)
      rw [byO, List.pairwise_map]
      refine hO2.imp ?_
      intro i j hij
      rw [cfS_lt] at hij
      simp only [leS]
      by_cases h1 : genC L j < genC L i
      · exact (hij (.inl h1)).elim
      · by_cases h2 : genC L i < genC L j
        · exact .inl h2
        · refine .inr ⟨by have : genC L i = genC L j := by omega
                          exact this, ?_⟩
          rw [← Bool.not_eq_true]
          exact fun h => hij (.inr ⟨by omega, h⟩)
end Ab
end Go.Proofs.YtcmfemfndadfmaaGreat

/- Contracts: the laws' two commits. -/
namespace Go.Proofs.YtcmfemfndadfmaaGreat
namespace Ab
open Go Go.RowKit
set_option linter.unusedVariables false
set_option linter.unusedSimpArgs false
set_option synthInstance.maxSize 4000
set_option synthInstance.maxHeartbeats 400000
attribute [local irreducible] JC JO JR JQ andThen inBlock OpV Gives retTo JM JS

attribute [local irreducible] hashC
theorem Hold.pubRow {α : Type} [ic : Cell α] {w0 w : World} {F : Nat → Prop} {Γ : List Fact} {b : Nat} {t : TypeId} {vs : List Value} (r : List (α × Cell.Ix α)) (h : Hold w0 F (.own b t vs :: Γ) w) (hvs : vs = flat r)
    (hf : ∀ p ∈ r, ∀ A ∈ Cell.facts p.1 p.2, .st A ∈ Γ) (hl : r.length ≤ 1048576) : Hold w0 F (.st (sl (some ⟨b, 0, none⟩) r.length (r.map (·.1))) :: Γ) w := by
  have hw : w.heap[b]? = some (.cells vs.toArray t (0, 0)) := h.sat (.own b t _) (by simp)
  refine h.publish fun hk => ?_
  have hb := hk b (.inr rfl)
  refine ⟨by simp, by simp only [maxLen]; omega, by simp only [List.length_map, lim]; omega, fun hne => ⟨b, 0, rfl, hb, (Array.getElem?_eq_some_iff.1 hw).1, fun i hi => ?_⟩⟩
  have hi' : i < r.length := by simpa using hi
  refine ⟨(r[i]).2, ?_, fun A hA => ?_⟩
  · intro j v hv
    simp only [List.getElem_map] at hv
    have := flat_at r i hi' j v hv
    rw [cell_of_row w b _ _ _ _ hw, hvs]
    simpa using this
  · simp only [List.getElem_map] at hA
    exact h.tail.sat (.st A) (hf _ (List.getElem_mem hi') A hA)

def keyA : ByteArray := ⟨#[97]⟩
def l0 : Commit := ⟨⟨0, 1⟩, 1, [], ⟨0, keyA, .empty, 1⟩⟩
def idA : ID := (hashC l0).1
def l1 : Commit := ⟨⟨0, 2⟩, 2, [idA], ⟨0, keyA, .empty, 2⟩⟩

theorem some_law (w : World) (F : Nat → Prop) : GivesV Tryz.prog 76 [] w F (commitV l0 none 0) := by
  refine gives_of Tryz.func76 rfl Tryz.ntmps76 rfl rfl [] (.start w F) ?_
  repeat (first|refine Wa ?_|refine Wb ?_|refine Wc ?_|refine Wd ?_|refine We rfl ?_|refine Wf (by first|exact Va|exact Vb|exact Vc|exact Vd|exact Ve|exact Vf|exact Vg|exact Vh|exact Vi|exact Vj|exact Vk (by omega)|exact Vl|exact Vm|exact Vn|exact Vo|exact Vp|exact Vq|exact Vr|exact Vs (by omega)|exact Vt (by omega)|exact Vu (by omega)|exact Vv (by omega)|exact Vw|exact Vx|exact Vy|exact Vz|exact VA|exact VB|exact VC|exact VD|exact VE|exact VF) rfl ?_|(refine Wg rfl ?_; intro _)|(refine Wh rfl ?_; intro _)|refine Wi ?_|refine Wj ?_|refine Wk ?_|refine Wl ?_|refine Wm ?_|refine Wn ?_|refine Wo ?_|refine Wp ?_|refine Wq rfl ?_|refine Wr ?_|refine Ws ?_|refine Wt ?_|refine Wu ?_|refine Wv rfl rfl ?_|(refine Ww rfl ⟨rfl, by decide, by decide, by decide⟩ ?_; intro _))
  refine Wf (OpV.build [.int .i64 0, .int .i64 1] (by kernel_rfl)) rfl ?_
  repeat (first|refine Wa ?_|refine Wb ?_|refine Wc ?_|refine Wd ?_|refine We rfl ?_|refine Wf (by first|exact Va|exact Vb|exact Vc|exact Vd|exact Ve|exact Vf|exact Vg|exact Vh|exact Vi|exact Vj|exact Vk (by omega)|exact Vl|exact Vm|exact Vn|exact Vo|exact Vp|exact Vq|exact Vr|exact Vs (by omega)|exact Vt (by omega)|exact Vu (by omega)|exact Vv (by omega)|exact Vw|exact Vx|exact Vy|exact Vz|exact VA|exact VB|exact VC|exact VD|exact VE|exact VF) rfl ?_|(refine Wg rfl ?_; intro _)|(refine Wh rfl ?_; intro _)|refine Wi ?_|refine Wj ?_|refine Wk ?_|refine Wl ?_|refine Wm ?_|refine Wn ?_|refine Wo ?_|refine Wp ?_|refine Wq rfl ?_|refine Wr ?_|refine Ws ?_|refine Wt ?_|refine Wu ?_|refine Wv rfl rfl ?_|(refine Ww rfl ⟨rfl, by decide, by decide, by decide⟩ ?_; intro _))
  refine Wf (OpV.build [.int .i64 0, .string keyA, .string .empty, .int .i64 1] (by kernel_rfl)) rfl ?_
  repeat (first|refine Wa ?_|refine Wb ?_|refine Wc ?_|refine Wd ?_|refine We rfl ?_|refine Wf (by first|exact Va|exact Vb|exact Vc|exact Vd|exact Ve|exact Vf|exact Vg|exact Vh|exact Vi|exact Vj|exact Vk (by omega)|exact Vl|exact Vm|exact Vn|exact Vo|exact Vp|exact Vq|exact Vr|exact Vs (by omega)|exact Vt (by omega)|exact Vu (by omega)|exact Vv (by omega)|exact Vw|exact Vx|exact Vy|exact Vz|exact VA|exact VB|exact VC|exact VD|exact VE|exact VF) rfl ?_|(refine Wg rfl ?_; intro _)|(refine Wh rfl ?_; intro _)|refine Wi ?_|refine Wj ?_|refine Wk ?_|refine Wl ?_|refine Wm ?_|refine Wn ?_|refine Wo ?_|refine Wp ?_|refine Wq rfl ?_|refine Wr ?_|refine Ws ?_|refine Wt ?_|refine Wu ?_|refine Wv rfl rfl ?_|(refine Ww rfl ⟨rfl, by decide, by decide, by decide⟩ ?_; intro _))
  refine Wf (OpV.build [.int .i64 0, .int .i64 1, .int .i64 1, .slice none 0 0, .int .i64 0, .string keyA, .string .empty, .int .i64 1] (by kernel_rfl)) rfl ?_
  repeat (first|refine Wa ?_|refine Wb ?_|refine Wc ?_|refine Wd ?_|refine We rfl ?_|refine Wf (by first|exact Va|exact Vb|exact Vc|exact Vd|exact Ve|exact Vf|exact Vg|exact Vh|exact Vi|exact Vj|exact Vk (by omega)|exact Vl|exact Vm|exact Vn|exact Vo|exact Vp|exact Vq|exact Vr|exact Vs (by omega)|exact Vt (by omega)|exact Vu (by omega)|exact Vv (by omega)|exact Vw|exact Vx|exact Vy|exact Vz|exact VA|exact VB|exact VC|exact VD|exact VE|exact VF) rfl ?_|(refine Wg rfl ?_; intro _)|(refine Wh rfl ?_; intro _)|refine Wi ?_|refine Wj ?_|refine Wk ?_|refine Wl ?_|refine Wm ?_|refine Wn ?_|refine Wo ?_|refine Wp ?_|refine Wq rfl ?_|refine Wr ?_|refine Ws ?_|refine Wt ?_|refine Wu ?_|refine Wv rfl rfl ?_|(refine Ww rfl ⟨rfl, by decide, by decide, by decide⟩ ?_; intro _))
  exact CT.done () rfl (fun w ho => ho.ent)

set_option maxHeartbeats 1000000 in
theorem two_law (w : World) (F : Nat → Prop) : GivesSl Tryz.prog 41 [] w F [l0, l1] := by
  refine gives_of Tryz.func41 rfl Tryz.ntmps41 rfl rfl [] (.start w F) ?_
  repeat (first|refine Wa ?_|refine Wb ?_|refine Wc ?_|refine Wd ?_|refine We rfl ?_|refine Wf (by first|exact Va|exact Vb|exact Vc|exact Vd|exact Ve|exact Vf|exact Vg|exact Vh|exact Vi|exact Vj|exact Vk (by omega)|exact Vl|exact Vm|exact Vn|exact Vo|exact Vp|exact Vq|exact Vr|exact Vs (by omega)|exact Vt (by omega)|exact Vu (by omega)|exact Vv (by omega)|exact Vw|exact Vx|exact Vy|exact Vz|exact VA|exact VB|exact VC|exact VD|exact VE|exact VF) rfl ?_|(refine Wg rfl ?_; intro _)|(refine Wh rfl ?_; intro _)|refine Wi ?_|refine Wj ?_|refine Wk ?_|refine Wl ?_|refine Wm ?_|refine Wn ?_|refine Wo ?_|refine Wp ?_|refine Wq rfl ?_|refine Wr ?_|refine Ws ?_|refine Wt ?_|refine Wu ?_|refine Wv rfl rfl ?_|(refine Ww rfl ⟨rfl, by decide, by decide, by decide⟩ ?_; intro _))
  refine JR.callV rfl (fun w1 hw => some_law w1 _) ?_
  repeat (first|refine Wa ?_|refine Wb ?_|refine Wc ?_|refine Wd ?_|refine We rfl ?_|refine Wf (by first|exact Va|exact Vb|exact Vc|exact Vd|exact Ve|exact Vf|exact Vg|exact Vh|exact Vi|exact Vj|exact Vk (by omega)|exact Vl|exact Vm|exact Vn|exact Vo|exact Vp|exact Vq|exact Vr|exact Vs (by omega)|exact Vt (by omega)|exact Vu (by omega)|exact Vv (by omega)|exact Vw|exact Vx|exact Vy|exact Vz|exact VA|exact VB|exact VC|exact VD|exact VE|exact VF) rfl ?_|(refine Wg rfl ?_; intro _)|(refine Wh rfl ?_; intro _)|refine Wi ?_|refine Wj ?_|refine Wk ?_|refine Wl ?_|refine Wm ?_|refine Wn ?_|refine Wo ?_|refine Wp ?_|refine Wq rfl ?_|refine Wr ?_|refine Ws ?_|refine Wt ?_|refine Wu ?_|refine Wv rfl rfl ?_|(refine Ww rfl ⟨rfl, by decide, by decide, by decide⟩ ?_; intro _))
  rename_i b0
  refine JR.callV rfl (fun w1 hw => hash_commit w1 _ l0 none 0 sl_nil ⟨by decide, by decide⟩) ?_
  repeat (first|refine Wa ?_|refine Wb ?_|refine Wc ?_|refine Wd ?_|refine We rfl ?_|refine Wf (by first|exact Va|exact Vb|exact Vc|exact Vd|exact Ve|exact Vf|exact Vg|exact Vh|exact Vi|exact Vj|exact Vk (by omega)|exact Vl|exact Vm|exact Vn|exact Vo|exact Vp|exact Vq|exact Vr|exact Vs (by omega)|exact Vt (by omega)|exact Vu (by omega)|exact Vv (by omega)|exact Vw|exact Vx|exact Vy|exact Vz|exact VA|exact VB|exact VC|exact VD|exact VE|exact VF) rfl ?_|(refine Wg rfl ?_; intro _)|(refine Wh rfl ?_; intro _)|refine Wi ?_|refine Wj ?_|refine Wk ?_|refine Wl ?_|refine Wm ?_|refine Wn ?_|refine Wo ?_|refine Wp ?_|refine Wq rfl ?_|refine Wr ?_|refine Ws ?_|refine Wt ?_|refine Wu ?_|refine Wv rfl rfl ?_|(refine Ww rfl ⟨rfl, by decide, by decide, by decide⟩ ?_; intro _))
  refine Wf (OpV.build [.int .i64 0, .int .i64 2] (by kernel_rfl)) rfl ?_
  repeat (first|refine Wa ?_|refine Wb ?_|refine Wc ?_|refine Wd ?_|refine We rfl ?_|refine Wf (by first|exact Va|exact Vb|exact Vc|exact Vd|exact Ve|exact Vf|exact Vg|exact Vh|exact Vi|exact Vj|exact Vk (by omega)|exact Vl|exact Vm|exact Vn|exact Vo|exact Vp|exact Vq|exact Vr|exact Vs (by omega)|exact Vt (by omega)|exact Vu (by omega)|exact Vv (by omega)|exact Vw|exact Vx|exact Vy|exact Vz|exact VA|exact VB|exact VC|exact VD|exact VE|exact VF) rfl ?_|(refine Wg rfl ?_; intro _)|(refine Wh rfl ?_; intro _)|refine Wi ?_|refine Wj ?_|refine Wk ?_|refine Wl ?_|refine Wm ?_|refine Wn ?_|refine Wo ?_|refine Wp ?_|refine Wq rfl ?_|refine Wr ?_|refine Ws ?_|refine Wt ?_|refine Wu ?_|refine Wv rfl rfl ?_|(refine Ww rfl ⟨rfl, by decide, by decide, by decide⟩ ?_; intro _))
  rename_i bi bl
  refine Wf (OpV.build [.int .i64 0, .string keyA, .string .empty, .int .i64 2] (by kernel_rfl)) rfl ?_
  repeat (first|refine Wa ?_|refine Wb ?_|refine Wc ?_|refine Wd ?_|refine We rfl ?_|refine Wf (by first|exact Va|exact Vb|exact Vc|exact Vd|exact Ve|exact Vf|exact Vg|exact Vh|exact Vi|exact Vj|exact Vk (by omega)|exact Vl|exact Vm|exact Vn|exact Vo|exact Vp|exact Vq|exact Vr|exact Vs (by omega)|exact Vt (by omega)|exact Vu (by omega)|exact Vv (by omega)|exact Vw|exact Vx|exact Vy|exact Vz|exact VA|exact VB|exact VC|exact VD|exact VE|exact VF) rfl ?_|(refine Wg rfl ?_; intro _)|(refine Wh rfl ?_; intro _)|refine Wi ?_|refine Wj ?_|refine Wk ?_|refine Wl ?_|refine Wm ?_|refine Wn ?_|refine Wo ?_|refine Wp ?_|refine Wq rfl ?_|refine Wr ?_|refine Ws ?_|refine Wt ?_|refine Wu ?_|refine Wv rfl rfl ?_|(refine Ww rfl ⟨rfl, by decide, by decide, by decide⟩ ?_; intro _))
  refine Wf (OpV.build [.int .i64 0, .int .i64 2, .int .i64 2, .slice (some ⟨bl, 0, none⟩) 1 1, .int .i64 0, .string keyA, .string .empty, .int .i64 2] (by kernel_rfl)) rfl ?_
  repeat (first|refine Wa ?_|refine Wb ?_|refine Wc ?_|refine Wd ?_|refine We rfl ?_|refine Wf (by first|exact Va|exact Vb|exact Vc|exact Vd|exact Ve|exact Vf|exact Vg|exact Vh|exact Vi|exact Vj|exact Vk (by omega)|exact Vl|exact Vm|exact Vn|exact Vo|exact Vp|exact Vq|exact Vr|exact Vs (by omega)|exact Vt (by omega)|exact Vu (by omega)|exact Vv (by omega)|exact Vw|exact Vx|exact Vy|exact Vz|exact VA|exact VB|exact VC|exact VD|exact VE|exact VF) rfl ?_|(refine Wg rfl ?_; intro _)|(refine Wh rfl ?_; intro _)|refine Wi ?_|refine Wj ?_|refine Wk ?_|refine Wl ?_|refine Wm ?_|refine Wn ?_|refine Wo ?_|refine Wp ?_|refine Wq rfl ?_|refine Wr ?_|refine Ws ?_|refine Wt ?_|refine Wu ?_|refine Wv rfl rfl ?_|(refine Ww rfl ⟨rfl, by decide, by decide, by decide⟩ ?_; intro _))
  rename_i lb
  refine CT.done (some ⟨lb, 0, none⟩, 2) rfl (fun w ho => ?_)
  have h0 : Hold _ _ [.own bl 48 (idc (hashC l0).1), .own lb 29 [.int .i64 l0.ev.node, .int .i64 l0.ev.seq, .int .i64 l0.gen, .slice none l0.parents.length 0, .int .i64 l0.op.kind, .string l0.op.key, .string l0.op.elem, .int .i64 l0.op.n, .int .i64 0, .int .i64 2, .int .i64 2, .slice (some ⟨bl, 0, none⟩) 1 1, .int .i64 0, .string keyA, .string .empty, .int .i64 2]] w := ho.ent
  have h1 : Hold _ _ [.own bl 48 (idc idA), .own lb 29 (commitCells l0 none 0 ++ commitCells l1 (some ⟨bl, 0, none⟩) 1)] w := h0
  have h2 := Hold.pubRow [(idA, (() : Cell.Ix ID))] h1 (by simp [flat]; rfl) (by simp [Cell.facts]) (by decide)
  have h3 : Hold _ _ [.own lb 29 (commitCells l0 none 0 ++ commitCells l1 (some ⟨bl, 0, none⟩) 1), .st (sl (some ⟨bl, 0, none⟩) 1 [idA])] w := h2.perm (List.Perm.swap _ _ _)
  have h4 : Hold _ _ (.own lb 29 (commitCells l0 none 0 ++ commitCells l1 (some ⟨bl, 0, none⟩) 1) :: [.st (sl none 0 ([] : List ID)), .st (sl (some ⟨bl, 0, none⟩) 1 [idA])]) w :=
    (h3.add (A := sl none 0 ([] : List ID)) sl_nil).perm (List.Perm.swap _ _ _)
  have h5 := Hold.pubRow [(l0, ((none, 0) : Cell.Ix Commit)), (l1, ((some ⟨bl, 0, none⟩, 1) : Cell.Ix Commit))] h4 (by simp [flat]; rfl) (by simp [Cell.facts, l0, l1]) (by simp)
  exact Hold.left (Γ := [.st (sl (some ⟨lb, 0, none⟩) 2 [l0, l1])]) h5
end Ab
end Go.Proofs.YtcmfemfndadfmaaGreat

/- The laws' example: its two commits have two ids (evaluated by the kernel); awake returns true. -/
namespace Go.Proofs.YtcmfemfndadfmaaGreat
namespace Ab
open Go Go.RowKit
set_option linter.unusedVariables false
set_option linter.unusedSimpArgs false
set_option synthInstance.maxSize 4000
set_option synthInstance.maxHeartbeats 400000
attribute [local irreducible] JC JO JR JQ andThen inBlock OpV Gives retTo JM JS

theorem may_l0 : may l0 = true := by decide +kernel
theorem idA_eq : idA = sumI (commitPut l0) := by simp only [idA, hashC, may_l0, if_true]
theorem hash_l0 : hashC l0 = (idA, 0) := by
  have h : (hashC l0).2 = 0 := by simp only [hashC, may_l0, if_true]
  rw [← h]; rfl
set_option maxRecDepth 100000 in
theorem may_l1 : may l1 = true := by decide +kernel
def idB : ID := (hashC l1).1
theorem hash_l1 : hashC l1 = (idB, 0) := by
  have h : (hashC l1).2 = 0 := by simp only [hashC, may_l1, if_true]
  rw [← h]; rfl
set_option maxRecDepth 100000 in
theorem sums_differ : sumL (commitPut l0) ≠ sumL (commitPut l1) := by decide +kernel
theorem idA_ne : idA ≠ idB := by
  intro h
  have h1 : idB = sumI (commitPut l1) := by simp only [idB, hashC, may_l1, if_true]
  rw [idA_eq, h1] at h
  exact sums_differ (congrArg (·.1) h)
theorem texts_l0 : texts l0 := ⟨by decide, by decide⟩
theorem fine_l0 : fine l0 := ⟨texts_l0, by decide⟩
theorem fine_l1 : fine l1 := ⟨⟨by decide, by decide⟩, by simp [l1]⟩
attribute [local irreducible] hashC idA l0 l1

end Ab
end Go.Proofs.YtcmfemfndadfmaaGreat

/- dag's functions with their results named; the laws' example of layer 11. -/
namespace Go.Proofs.YtcmfemfndadfmaaGreat
namespace Ab
open Go Go.RowKit
set_option linter.unusedVariables false
set_option linter.unusedSimpArgs false
set_option synthInstance.maxSize 4000
set_option synthInstance.maxHeartbeats 400000
attribute [local irreducible] JC JO JR JQ andThen inBlock OpV Gives retTo JM JS

attribute [local irreducible] hashC
theorem closed_yes (w : World) (F : Nat → Prop) (a : Option Addr) (k : Nat) (L : List Commit) (h : (sl a k L).holds F w) (hl : L.length ≤ 1000000) (hf : ∀ x ∈ L, fine x) (hc : Closed L) :
    GivesV Tryz.prog 32 [.slice a L.length k] w F (.bool true) := by
  have h0 := closed_dag w F a k L h hl hf
  unfold Gives at h0
  unfold GivesV Gives
  refine Calls.mono h0 ?_
  rintro e w' ⟨y, rfl, hb, hB⟩
  exact ⟨(), by dsimp only; rw [y.2.2 hc], hb, hB⟩
theorem closed_no (w : World) (F : Nat → Prop) (a : Option Addr) (k : Nat) (L : List Commit) (h : (sl a k L).holds F w) (hl : L.length ≤ 1000000) (hf : ∀ x ∈ L, fine x) (hc : ¬ Closed L) :
    GivesV Tryz.prog 32 [.slice a L.length k] w F (.bool false) := by
  have h0 := closed_dag w F a k L h hl hf
  unfold Gives at h0
  unfold GivesV Gives
  refine Calls.mono h0 ?_
  rintro e w' ⟨y, rfl, hb, hB⟩
  refine ⟨(), ?_, hb, hB⟩
  have : y.1 = false := by rw [← Bool.not_eq_true]; exact fun h => hc (y.2.1 h)
  dsimp only
  rw [this]
theorem anc_sl (w : World) (F : Nat → Prop) (a d : Option Addr) (k m : Nat) (L : List Commit) (A M : List ID) (h : (sl a k L).holds F w) (h' : (sl d m A).holds F w) (hl : L.length ≤ 1000) (hA : A.length ≤ 1000) (hf : ∀ x ∈ L, fine x) (hM : AncR L A M) :
    GivesSl Tryz.prog 26 [.slice a L.length k, .slice d A.length m] w F M := by
  have h0 := anc_dag w F a d k m L A h h' hl hA hf
  unfold Gives at h0
  unfold GivesSl Gives
  refine Calls.mono h0 ?_
  rintro e w' ⟨⟨⟨N, p, q⟩, hN⟩, rfl, hb, hB⟩
  have : N = M := hN.unique hM
  subst this
  exact ⟨(p, q), rfl, hb, hB⟩
theorem part_sl (w : World) (F : Nat → Prop) (a d : Option Addr) (k m : Nat) (L : List Commit) (A : List ID) (h : (sl a k L).holds F w) (h' : (sl d m A).holds F w) (hl : L.length ≤ 1000) (hf : ∀ x ∈ L, fine x) (hc : Closed L) :
    GivesSl Tryz.prog 28 [.slice a L.length k, .slice d A.length m] w F (L.filter fun c => decide (idC c ∈ A)) := by
  have h0 := part_dag w F a d k m L A h h' hl hf
  unfold Gives at h0
  unfold GivesSl Gives
  refine Calls.mono h0 ?_
  rintro e w' ⟨⟨⟨N, p, q⟩, hN⟩, rfl, hb, hB⟩
  have : N = L.filter fun c => decide (idC c ∈ A) := hN.part hc
  subst this
  exact ⟨(p, q), rfl, hb, hB⟩
theorem sorted_sl (w : World) (F : Nat → Prop) (a : Option Addr) (k : Nat) (L M : List Commit) (h : (sl a k L).holds F w) (hl : L.length ≤ 1000) (hf : ∀ x ∈ L, fine x) (hc : Closed L) (hM : M.Perm L) (hM2 : M.Pairwise leS) :
    GivesSl Tryz.prog 30 [.slice a L.length k] w F M := by
  have h0 := sorted_dag w F a k L h hl hf
  unfold Gives at h0
  unfold GivesSl Gives
  refine Calls.mono h0 ?_
  rintro e w' ⟨⟨⟨N, p, q⟩, hN⟩, rfl, hb, hB⟩
  have : N = M := sorted_uniqueC hc.nodup (hN.perm hc) hM (hN.sorted hc) hM2
  subst this
  exact ⟨(p, q), rfl, hb, hB⟩
theorem anc_ex (L : List Commit) (A : List ID) : ∃ M, AncR L A M := by
  by_cases hc : Closed L
  · refine ⟨sortL ((cids L).filter fun x => @decide (inAnc L A x) (Classical.propDecidable _)), sortL_pairwise _, (sortL_perm' _).nodup_iff.2 (hc.nodup.sublist List.filter_sublist), fun _ x => ?_, fun h => (h hc).elim⟩
    rw [mem_sortL, List.mem_filter]
    constructor
    · rintro ⟨_, h⟩; exact @of_decide_eq_true _ (Classical.propDecidable _) h
    · intro h; exact ⟨h.1, @decide_eq_true _ (Classical.propDecidable _) h⟩
  · exact ⟨[], List.Pairwise.nil, List.nodup_nil, fun h => (hc h).elim, fun _ => rfl⟩
theorem anc_len {L : List Commit} {A M : List ID} (h : AncR L A M) : M.length ≤ L.length := by
  by_cases hc : Closed L
  · have := nodup_len M (cids L) h.nodup (fun x hx => ((h.mem hc x).1 hx).1)
    rwa [cids_length] at this
  · rw [h.not hc]; simp
/- the example -/
theorem idC_l0 : idC l0 = idA := rfl
theorem idC_l1 : idC l1 = idB := rfl
theorem cids_two : cids [l0, l1] = [idA, idB] := rfl
theorem par_two {x y : ID} : par [l0, l1] x y ↔ x = idB ∧ y = idA := by
  constructor
  · rintro ⟨c, hc, rfl, hy, _⟩
    simp only [List.mem_cons, List.not_mem_nil, or_false] at hc
    rcases hc with rfl | rfl
    · simp [l0] at hy
    · exact ⟨rfl, by simpa [l1] using hy⟩
  · rintro ⟨rfl, rfl⟩
    exact ⟨l1, by simp, rfl, by simp [l1], by rw [cids_two]; simp⟩
theorem knows_two {x y : ID} : knows [l0, l1] x y ↔ x = idB ∧ y = idA := by
  constructor
  · intro h
    induction h with
    | single h1 => exact par_two.1 h1
    | tail _ h1 ih =>
      have := par_two.1 h1
      exact absurd (ih.2.symm.trans this.1) (by exact fun e => idA_ne e)
  · intro h; exact .single (par_two.2 h)
theorem closed_two : Closed [l0, l1] := by
  have hn : (cids [l0, l1]).Nodup := by rw [cids_two]; simp [idA_ne]
  refine ⟨by simp [may_l0, may_l1], hn, fun c hc => ?_, fun c hc d hd hne hnode => ?_⟩
  · simp only [List.mem_cons, List.not_mem_nil, or_false] at hc
    rcases hc with rfl | rfl
    · exact ⟨by simp [merge, l0], by simp [l0], by simp [l0], by simp [l0, maxGen]⟩
    · refine ⟨by simp [merge, l1], ?_, ?_, ?_⟩
      · rw [cids_two]; simp [l1]
      · intro p hp q hq hk
        have h1 := knows_two.1 hk
        have h2 : p = idA := by simpa [l1] using hp
        exact idA_ne (h2.symm.trans h1.1)
      · have : genAt [l0, l1] idA = l0.gen := genAt_of hn (c := l0) (by simp)
        show l1.gen = maxGen [l0, l1] [idA] + 1
        rw [maxGen, List.foldl_cons, List.foldl_nil, this]; rfl
  · simp only [List.mem_cons, List.not_mem_nil, or_false] at hc hd
    rcases hc with rfl | rfl <;> rcases hd with rfl | rfl
    · exact (hne rfl).elim
    · exact ⟨by simp [l0, l1], fun h => by simp [l0, l1] at h⟩
    · exact ⟨by simp [l0, l1], fun _ => knows_two.2 ⟨rfl, rfl⟩⟩
    · exact (hne rfl).elim
theorem closed_not : ¬ Closed [l1] := fun h => by
  have := (h.fine l1 (by simp)).here idA (by simp [l1])
  have e : cids [l1] = [idB] := rfl
  rw [e] at this
  simp at this
  exact idA_ne this
theorem find_l1 : findR [l0, l1] idB = (l1, true) := by
  have h0 : hashO l0 = some idA := by simp [hashO, hash_l0]
  have h1 : hashO l1 = some idB := by simp [hashO, hash_l1]
  have : findC [l0, l1] idB = some l1 := by
    simp only [findC, List.find?_cons, h0, h1]
    simp [idA_ne]
  simp [findR, this]
theorem leS_two : [l0, l1].Pairwise leS := by
  simp only [List.pairwise_cons, List.mem_cons, List.not_mem_nil, or_false, forall_eq, List.Pairwise.nil, and_true]
  exact ⟨.inl (by simp [l0, l1]), by simp⟩
theorem part_two : ([l0, l1].filter fun c => decide (idC c ∈ [idA])).length = 1 := by
  have e : idB ≠ idA := fun e => idA_ne e.symm
  have h0 : decide (idC l0 ∈ [idA]) = true := decide_eq_true (by rw [idC_l0]; simp)
  have h1 : decide (idC l1 ∈ [idA]) = false := decide_eq_false (by rw [idC_l1]; simpa using e)
  rw [List.filter_cons, if_pos h0, List.filter_cons, if_neg (by rw [h1]; simp)]
  rfl
theorem anc_two : ∃ M, AncR [l0, l1] [idB] M ∧ M.length = 2 := by
  obtain ⟨M, hM⟩ := anc_ex [l0, l1] [idB]
  refine ⟨M, hM, ?_⟩
  have : M.Perm [idA, idB] := (List.perm_ext_iff_of_nodup hM.nodup (by simp [idA_ne])).2 fun x => by
    rw [hM.mem closed_two, inAnc, cids_two]
    constructor
    · exact fun h => h.1
    · intro h
      refine ⟨h, ?_⟩
      simp only [List.mem_cons, List.not_mem_nil, or_false] at h
      rcases h with rfl | rfl
      · exact .inr ⟨idB, by simp, knows_two.2 ⟨rfl, rfl⟩⟩
      · exact .inl (by simp)
  simpa using this.length_eq
end Ab
end Go.Proofs.YtcmfemfndadfmaaGreat

/- The laws' example of layer 11: awake returns true. -/
namespace Go.Proofs.YtcmfemfndadfmaaGreat
namespace Ab
open Go Go.RowKit
set_option linter.unusedVariables false
set_option linter.unusedSimpArgs false
set_option synthInstance.maxSize 4000
set_option synthInstance.maxHeartbeats 400000
attribute [local irreducible] JC JO JR JQ andThen inBlock OpV Gives retTo JM JS

attribute [local irreducible] hashC idA l0 l1 ents
theorem fine_two : ∀ x ∈ [l0, l1], fine x := by
  intro x hx
  simp only [List.mem_cons, List.not_mem_nil, or_false] at hx
  rcases hx with rfl | rfl
  · exact fine_l0
  · exact fine_l1
theorem ids_two (w : World) (F : Nat → Prop) (a : Option Addr) (k : Nat) (h : (sl a k [l0, l1]).holds F w) : GivesSl Tryz.prog 23 [.slice a [l0, l1].length k] w F [idA, idB] := by
  have := ids_dag w F a k [l0, l1] h (by simp) fine_two
  rw [idsP_all closed_two.may, cids_two] at this
  exact this
theorem find_two (w : World) (F : Nat → Prop) (a : Option Addr) (k : Nat) (h : (sl a k [l0, l1]).holds F w) :
    Gives Tryz.prog 33 [.slice a [l0, l1].length k, .agg ⟨idc idB⟩] w F (fun y : Option Addr × Nat => .tuple ⟨[commitV l1 y.1 y.2, .bool true]⟩) (fun y => [.st (sl y.1 y.2 l1.parents)]) := by
  have := find_dag w F a k [l0, l1] idB h fine_two
  rw [find_l1] at this
  exact this
set_option maxHeartbeats 4000000 in
theorem awake_dag (w : World) (F : Nat → Prop) : GivesV Tryz.prog 22 [] w F (.bool true) := by
  obtain ⟨M, hM, hMl⟩ := anc_two
  have hN := part_two
  obtain ⟨N, hNe⟩ : ∃ N, N = [l0, l1].filter fun c => decide (idC c ∈ [idA]) := ⟨_, rfl⟩
  rw [← hNe] at hN
  refine gives_of Tryz.func22 rfl Tryz.ntmps22 rfl rfl [] (.start w F) ?_
  repeat (first|refine Wa ?_|refine Wb ?_|refine Wc ?_|refine Wd ?_|refine We rfl ?_|refine Wf (by first|exact Va|exact Vb|exact Vc|exact Vd|exact Ve|exact Vf|exact Vg|exact Vh|exact Vi|exact Vj|exact Vk (by omega)|exact Vl|exact Vm|exact Vn|exact Vo|exact Vp|exact Vq|exact Vr|exact Vs (by omega)|exact Vt (by omega)|exact Vu (by omega)|exact Vv (by omega)|exact Vw|exact Vx|exact Vy|exact Vz|exact VA|exact VB|exact VC|exact VD|exact VE|exact VF) rfl ?_|(refine Wg rfl ?_; intro _)|(refine Wh rfl ?_; intro _)|refine Wi ?_|refine Wj ?_|refine Wk ?_|refine Wl ?_|refine Wm ?_|refine Wn ?_|refine Wo ?_|refine Wp ?_|refine Wq rfl ?_|refine Wr ?_|refine Ws ?_|refine Wt ?_|refine Wu ?_|refine Wv rfl rfl ?_|(refine Ww rfl ⟨rfl, by decide, by decide, by decide⟩ ?_; intro _))
  refine JR.callSl (L := [l0, l1]) rfl (fun w1 hw => two_law w1 _) ?_
  intro al cl
  repeat (first|refine Wa ?_|refine Wb ?_|refine Wc ?_|refine Wd ?_|refine We rfl ?_|refine Wf (by first|exact Va|exact Vb|exact Vc|exact Vd|exact Ve|exact Vf|exact Vg|exact Vh|exact Vi|exact Vj|exact Vk (by omega)|exact Vl|exact Vm|exact Vn|exact Vo|exact Vp|exact Vq|exact Vr|exact Vs (by omega)|exact Vt (by omega)|exact Vu (by omega)|exact Vv (by omega)|exact Vw|exact Vx|exact Vy|exact Vz|exact VA|exact VB|exact VC|exact VD|exact VE|exact VF) rfl ?_|(refine Wg rfl ?_; intro _)|(refine Wh rfl ?_; intro _)|refine Wi ?_|refine Wj ?_|refine Wk ?_|refine Wl ?_|refine Wm ?_|refine Wn ?_|refine Wo ?_|refine Wp ?_|refine Wq rfl ?_|refine Wr ?_|refine Ws ?_|refine Wt ?_|refine Wu ?_|refine Wv rfl rfl ?_|(refine Ww rfl ⟨rfl, by decide, by decide, by decide⟩ ?_; intro _))
  refine JR.callSl (L := [idA, idB]) rfl (fun w1 hw => ids_two w1 _ al cl hw.get) ?_
  intro ap cp
  repeat (first|refine Wa ?_|refine Wb ?_|refine Wc ?_|refine Wd ?_|refine We rfl ?_|refine Wf (by first|exact Va|exact Vb|exact Vc|exact Vd|exact Ve|exact Vf|exact Vg|exact Vh|exact Vi|exact Vj|exact Vk (by omega)|exact Vl|exact Vm|exact Vn|exact Vo|exact Vp|exact Vq|exact Vr|exact Vs (by omega)|exact Vt (by omega)|exact Vu (by omega)|exact Vv (by omega)|exact Vw|exact Vx|exact Vy|exact Vz|exact VA|exact VB|exact VC|exact VD|exact VE|exact VF) rfl ?_|(refine Wg rfl ?_; intro _)|(refine Wh rfl ?_; intro _)|refine Wi ?_|refine Wj ?_|refine Wk ?_|refine Wl ?_|refine Wm ?_|refine Wn ?_|refine Wo ?_|refine Wp ?_|refine Wq rfl ?_|refine Wr ?_|refine Ws ?_|refine Wt ?_|refine Wu ?_|refine Wv rfl rfl ?_|(refine Ww rfl ⟨rfl, by decide, by decide, by decide⟩ ?_; intro _))
  refine JR.indexID (L := [idA, idB]) (k := 1) rfl (by decide) ?_
  intro bi oi
  simp only [List.getElem_cons_succ, List.getElem_cons_zero]
  repeat (first|refine Wa ?_|refine Wb ?_|refine Wc ?_|refine Wd ?_|refine We rfl ?_|refine Wf (by first|exact Va|exact Vb|exact Vc|exact Vd|exact Ve|exact Vf|exact Vg|exact Vh|exact Vi|exact Vj|exact Vk (by omega)|exact Vl|exact Vm|exact Vn|exact Vo|exact Vp|exact Vq|exact Vr|exact Vs (by omega)|exact Vt (by omega)|exact Vu (by omega)|exact Vv (by omega)|exact Vw|exact Vx|exact Vy|exact Vz|exact VA|exact VB|exact VC|exact VD|exact VE|exact VF) rfl ?_|(refine Wg rfl ?_; intro _)|(refine Wh rfl ?_; intro _)|refine Wi ?_|refine Wj ?_|refine Wk ?_|refine Wl ?_|refine Wm ?_|refine Wn ?_|refine Wo ?_|refine Wp ?_|refine Wq rfl ?_|refine Wr ?_|refine Ws ?_|refine Wt ?_|refine Wu ?_|refine Wv rfl rfl ?_|(refine Ww rfl ⟨rfl, by decide, by decide, by decide⟩ ?_; intro _))
  refine JR.call1 rfl (fun w1 hw => find_two w1 _ al cl hw.get) ?_
  rintro ⟨pf, qf⟩
  dsimp only
  repeat (first|refine Wa ?_|refine Wb ?_|refine Wc ?_|refine Wd ?_|refine We rfl ?_|refine Wf (by first|exact Va|exact Vb|exact Vc|exact Vd|exact Ve|exact Vf|exact Vg|exact Vh|exact Vi|exact Vj|exact Vk (by omega)|exact Vl|exact Vm|exact Vn|exact Vo|exact Vp|exact Vq|exact Vr|exact Vs (by omega)|exact Vt (by omega)|exact Vu (by omega)|exact Vv (by omega)|exact Vw|exact Vx|exact Vy|exact Vz|exact VA|exact VB|exact VC|exact VD|exact VE|exact VF) rfl ?_|(refine Wg rfl ?_; intro _)|(refine Wh rfl ?_; intro _)|refine Wi ?_|refine Wj ?_|refine Wk ?_|refine Wl ?_|refine Wm ?_|refine Wn ?_|refine Wo ?_|refine Wp ?_|refine Wq rfl ?_|refine Wr ?_|refine Ws ?_|refine Wt ?_|refine Wu ?_|refine Wv rfl rfl ?_|(refine Ww rfl ⟨rfl, by decide, by decide, by decide⟩ ?_; intro _))
  rename_i bf
  refine JC.openCommit (L := [l0, l1]) (.slice al [l0, l1].length cl) 1 (by decide) ?_
  intro b4 o4 p4 q4
  simp only [List.getElem_cons_succ, List.getElem_cons_zero]
  refine JC.more (Γ' := [.st (sl (fromA al cl 1 8) (cl - 1) [l1]), .st (sl (fromA ap cp 1 32) (cp - 1) [idB]), .st (sl ap cp [idA]), .st (elA (.slice al [l0, l1].length cl) 1 8 b4 o4), .st (ro b4 o4 [.int .i64 l1.ev.node, .int .i64 l1.ev.seq, .int .i64 l1.gen, .slice p4 l1.parents.length q4, .int .i64 l1.op.kind, .string l1.op.key, .string l1.op.elem, .int .i64 l1.op.n]), .st (sl p4 q4 l1.parents), .st (sl al cl [l0, l1]), .st (sl ap cp [idA, idB]), .st (sl pf qf l1.parents),
    .own bf 29 [.int .i64 l1.ev.node, .int .i64 l1.ev.seq, .int .i64 l1.gen, .slice pf l1.parents.length qf, .int .i64 l1.op.kind, .string l1.op.key, .string l1.op.elem, .int .i64 l1.op.n]]) (fun w1 ho => ?_) ?_
  · have h1 := ho.add (A := sl ap cp [idA]) (sl_take (k := 1) (c' := cp) (ho.get (A := sl ap cp [idA, idB])) (by decide) ⟨by have := (ho.get (A := sl ap cp [idA, idB])).1; simp at this; omega, Nat.le_refl _⟩)
    have h2 := h1.add (A := sl (fromA ap cp 1 32) (cp - 1) [idB]) (sl_from (k := 1) (h1.get (A := sl ap cp [idA, idB])) (by decide))
    have h3 := h2.add (A := sl (fromA al cl 1 8) (cl - 1) [l1]) (sl_from (k := 1) (h2.get (A := sl al cl [l0, l1])) (by decide))
    exact h3.ent
  refine JC.draw 41 mixed ?_
  refine JM.take 0 rfl (by kernel_rfl) rfl Va rfl rfl ?_
  refine JM.takeCall 1 rfl (by kernel_rfl) rfl (fun w1 hw => closed_yes w1 _ al cl [l0, l1] hw.get (by decide) fine_two closed_two) rfl rfl ?_
  refine JM.take 2 rfl (by kernel_rfl) rfl Va rfl rfl ?_
  refine JM.take 3 rfl (by kernel_rfl) rfl Va rfl rfl ?_
  refine JM.take 4 rfl (by kernel_rfl) rfl (OpV.sliceFromA (l := 1) (s := 8) rfl (fun w1 ho => ⟨by decide, (Hold.get (A := sl al cl [l0, l1]) ho).1⟩)) rfl rfl ?_
  refine JM.reslot 23 (.slice (fromA al cl 1 8) [l1].length (cl - 1)) rfl ?_
  refine JM.takeCall 5 rfl (by kernel_rfl) rfl (fun w1 hw => closed_no w1 _ (fromA al cl 1 8) (cl - 1) [l1] hw.get (by decide) (fun x hx => by simp at hx; subst hx; exact fine_l1) closed_not) rfl rfl ?_
  refine JM.take 6 rfl (by kernel_rfl) rfl Vh rfl rfl ?_
  refine JM.take 7 rfl (by kernel_rfl) rfl Vi rfl rfl ?_
  refine JM.take 8 rfl (by kernel_rfl) rfl Va rfl rfl ?_
  refine JM.take 9 rfl (by kernel_rfl) rfl Va rfl rfl ?_
  refine JM.take 10 rfl (by kernel_rfl) rfl Vi rfl rfl ?_
  refine JM.take 11 rfl (by kernel_rfl) rfl Va rfl rfl ?_
  refine JM.take 12 rfl (by kernel_rfl) rfl Vc rfl rfl ?_
  refine JM.take 13 rfl (by kernel_rfl) rfl Va rfl rfl ?_
  refine JM.take 14 rfl (by kernel_rfl) rfl Ve rfl rfl ?_
  refine JM.take 15 rfl (by kernel_rfl) rfl Vc rfl rfl ?_
  refine JM.takeCall 16 rfl (by kernel_rfl) rfl (fun w1 hw => same_commit w1 _ l1 l1 pf p4 qf q4 hw.get hw.get) rfl rfl ?_
  refine JM.reslot 35 (.bool true) (by simp) ?_
  refine JM.take 17 rfl (by kernel_rfl) rfl Vi rfl rfl ?_
  refine JM.take 18 rfl (by kernel_rfl) rfl Va rfl rfl ?_
  refine JM.take 19 rfl (by kernel_rfl) rfl Va rfl rfl ?_
  refine JM.take 20 rfl (by kernel_rfl) rfl Va rfl rfl ?_
  refine JM.take 21 rfl (by kernel_rfl) rfl (OpV.sliceFromA (l := 1) (s := 32) rfl (fun w1 ho => ⟨by decide, (Hold.get (A := sl ap cp [idA, idB]) ho).1⟩)) rfl rfl ?_
  refine JM.reslot 40 (.slice (fromA ap cp 1 32) [idB].length (cp - 1)) rfl ?_
  refine JM.one 22 (by kernel_rfl) rfl rfl rfl rfl (JS.callSl (L := M) rfl (fun w1 hw => anc_sl w1 _ al (fromA ap cp 1 32) cl (cp - 1) [l0, l1] [idB] M hw.get hw.get (by decide) (by decide) fine_two hM) fun am cm => ?_)
  refine JM.take 23 rfl (by kernel_rfl) rfl Vf rfl rfl ?_
  refine JM.take 24 rfl (by kernel_rfl) rfl Vl rfl rfl ?_
  refine JM.reslot 43 (.bool true) (by rw [hMl]; rfl) ?_
  refine JM.take 25 rfl (by kernel_rfl) rfl Vi rfl rfl ?_
  refine JM.take 26 rfl (by kernel_rfl) rfl Va rfl rfl ?_
  refine JM.take 27 rfl (by kernel_rfl) rfl Va rfl rfl ?_
  refine JM.take 28 rfl (by kernel_rfl) rfl Va rfl rfl ?_
  refine JM.take 29 rfl (by kernel_rfl) rfl (OpV.sliceToV (k := 1) (fun w1 ho => by have := (Hold.get (A := sl ap cp [idA, idB]) ho).1; simp at this; omega)) rfl rfl ?_
  refine JM.reslot 48 (.slice ap [idA].length cp) rfl ?_
  refine JM.one 30 (by kernel_rfl) rfl rfl rfl rfl (JS.callSl (L := N) rfl (fun w1 hw => hNe ▸ part_sl w1 _ al ap cl cp [l0, l1] [idA] hw.get hw.get (by decide) fine_two closed_two) fun an cn => ?_)
  refine JM.take 31 rfl (by kernel_rfl) rfl Vf rfl rfl ?_
  refine JM.take 32 rfl (by kernel_rfl) rfl Vl rfl rfl ?_
  refine JM.reslot 51 (.bool true) (by rw [hN]; rfl) ?_
  refine JM.take 33 rfl (by kernel_rfl) rfl Vi rfl rfl ?_
  refine JM.take 34 rfl (by kernel_rfl) rfl Va rfl rfl ?_
  refine JM.take 35 rfl (by kernel_rfl) rfl Va rfl rfl ?_
  refine JM.one 36 (by kernel_rfl) rfl rfl rfl rfl (JS.callSl (L := [l0, l1]) rfl (fun w1 hw => sorted_sl w1 _ al cl [l0, l1] [l0, l1] hw.get (by decide) fine_two closed_two (List.Perm.refl _) leS_two) fun as_ cs => ?_)
  refine JM.take 37 rfl (by kernel_rfl) rfl Vf rfl rfl ?_
  refine JM.take 38 rfl (by kernel_rfl) rfl Vl rfl rfl ?_
  refine JM.reslot 57 (.bool true) (by simp) ?_
  refine JM.take 39 rfl (by kernel_rfl) rfl Vi rfl rfl ?_
  refine JM.take 40 rfl (by kernel_rfl) rfl Vb rfl rfl ?_
  refine JM.nil (by kernel_rfl) ?_
  repeat (first|refine Wa ?_|refine Wb ?_|refine Wc ?_|refine Wd ?_|refine We rfl ?_|refine Wf (by first|exact Va|exact Vb|exact Vc|exact Vd|exact Ve|exact Vf|exact Vg|exact Vh|exact Vi|exact Vj|exact Vk (by omega)|exact Vl|exact Vm|exact Vn|exact Vo|exact Vp|exact Vq|exact Vr|exact Vs (by omega)|exact Vt (by omega)|exact Vu (by omega)|exact Vv (by omega)|exact Vw|exact Vx|exact Vy|exact Vz|exact VA|exact VB|exact VC|exact VD|exact VE|exact VF) rfl ?_|(refine Wg rfl ?_; intro _)|(refine Wh rfl ?_; intro _)|refine Wi ?_|refine Wj ?_|refine Wk ?_|refine Wl ?_|refine Wm ?_|refine Wn ?_|refine Wo ?_|refine Wp ?_|refine Wq rfl ?_|refine Wr ?_|refine Ws ?_|refine Wt ?_|refine Wu ?_|refine Wv rfl rfl ?_|(refine Ww rfl ⟨rfl, by decide, by decide, by decide⟩ ?_; intro _))
  exact CT.done () rfl (fun w ho => ho.ent)
end Ab
end Go.Proofs.YtcmfemfndadfmaaGreat

/- Few commits are fine; wait.Ready with its result named. -/
namespace Go.Proofs.YtcmfemfndadfmaaGreat
namespace Ab
open Go Go.RowKit
set_option linter.unusedVariables false
set_option linter.unusedSimpArgs false
set_option synthInstance.maxSize 4000
set_option synthInstance.maxHeartbeats 400000
attribute [local irreducible] JC JO JR JQ andThen inBlock OpV Gives retTo JM JS

attribute [local irreducible] hashC
theorem fine_few {c : Commit} (h : fewC c = true) : fine c := by
  simp only [fewC, Bool.and_eq_true, decide_eq_true_eq] at h
  exact ⟨⟨by omega, by omega⟩, by omega⟩
theorem few_fine {L : List Commit} {m : Nat} (h : fewL L m = true) : L.length ≤ m ∧ ∀ x ∈ L, fine x := by
  simp only [fewL, Bool.and_eq_true, decide_eq_true_eq, List.all_eq_true] at h
  exact ⟨h.1, fun x hx => fine_few (h.2 x hx)⟩

end Ab
end Go.Proofs.YtcmfemfndadfmaaGreat

/- The law DagSorted returns true. -/
namespace Go.Proofs.YtcmfemfndadfmaaGreat
namespace Ab
open Go Go.RowKit
set_option linter.unusedVariables false
set_option linter.unusedSimpArgs false
set_option synthInstance.maxSize 4000
set_option synthInstance.maxHeartbeats 400000
attribute [local irreducible] JC JO JR JQ andThen inBlock OpV Gives retTo JM JS

attribute [local irreducible] hashC idA l0 l1 ents
end Ab
end Go.Proofs.YtcmfemfndadfmaaGreat

/- The law DagWhole returns true. -/
namespace Go.Proofs.YtcmfemfndadfmaaGreat
namespace Ab
open Go Go.RowKit
set_option linter.unusedVariables false
set_option linter.unusedSimpArgs false
set_option synthInstance.maxSize 4000
set_option synthInstance.maxHeartbeats 400000
attribute [local irreducible] JC JO JR JQ andThen inBlock OpV Gives retTo JM JS

attribute [local irreducible] hashC idA l0 l1 ents
theorem find_at {L : List Commit} (hc : Closed L) (i : Nat) (hi : i < L.length) : findR L (idC L[i]) = (L[i], true) := by
  have h1 : ∀ c ∈ L, hashO c = some (idC c) := fun c hm => by
    have := (hash_err c).2 (hc.may c hm)
    simp [hashO, this, idC]
  have hfd : findC L (idC L[i]) = some L[i] := by
    rw [findC, List.find?_eq_some_iff_getElem]
    refine ⟨by simp [h1 _ (List.getElem_mem hi)], i, hi, rfl, fun j hj => ?_⟩
    rw [h1 _ (List.getElem_mem (by omega))]
    have := List.pairwise_iff_getElem.1 (show (cids L).Pairwise _ from hc.nodup) j i (by rw [cids_length]; omega) (by rw [cids_length]; exact hi) hj
    rw [cids_get, cids_get] at this
    simpa using this
  simp [findR, hfd]
end Ab
end Go.Proofs.YtcmfemfndadfmaaGreat

/- Contracts: slices.Grow, slices.Concat of ids; ids.Both, Common. -/
namespace Go.Proofs.YtcmfemfndadfmaaGreat
namespace Ab
open Go Go.RowKit
set_option linter.unusedVariables false
set_option linter.unusedSimpArgs false
set_option synthInstance.maxSize 4000
set_option synthInstance.maxHeartbeats 400000
attribute [local irreducible] JC JO JR JQ andThen inBlock OpV Gives retTo JM JS

attribute [local irreducible] hashC
instance : Cell (List ID) where
  Ix := Option Addr × Nat
  sz := 1
  cells l y := [.slice y.1 l.length y.2]
  facts l y := [sl y.1 y.2 l]
  len _ _ := rfl
  one l y := by simp [Value.oneCell']
  pos := by decide
section
variable {P : Program} {n : Nat} {w0 : World} {F : Nat → Prop} {ops : Array Oper} {i d : Nat} {t : TypeId} {pos : String} {aft : Array Edge} {g : Option (Nat × Bool)} {os : List Oper} {Q : Cont} {e : E} {Γ : List Fact} [Dr]
theorem JR.indexIds {x ix : Operand} {v : Value} {L : List (List ID)} {kk : IntKind} {j : Int} {k : Nat} {ty el : TypeId} {sz by_ eb : Nat} {z ez : Value} {ed : TypeDesc}
    [hx : Ev e x v] [hL : HasSl Γ v (List ID) inferInstance L] [hi : Ev e ix (.int kk j)] [hk : NatI j k] [hT : Ty P ty (.slice el) sz by_ z] [hE : Ty P el ed 1 eb ez] (hd : Nat.blt d n = true) (h : k < L.length)
    (K : ∀ b o p q, JO P n w0 F ops (i + 1) os Q ((d, .pointer (some ⟨b, o, none⟩)) :: e) (.st (ro b o [.slice p (L[k]'h).length q]) :: .st (sl p q (L[k]'h)) :: Γ)) :
    JR P n w0 F ops i ⟨some d, .indexAddr ty x ix, t, pos, aft, g⟩ os Q e Γ := JR.index hd rfl h fun b o (y : Option Addr × Nat) => K b o y.1 y.2
end

theorem grow_idl (w : World) (F : Nat → Prop) (k : Nat) (hk : k ≤ 1048576) : GivesBuf Tryz.prog 96 [.slice none 0 0, .int .i64 (k : Int)] w F 48 ([] : List ID) := by
  refine gives_of Tryz.func96 rfl Tryz.ntmps96 rfl rfl [] (.start w F) ?_
  repeat (first|refine Wa ?_|refine Wb ?_|refine Wc ?_|refine Wd ?_|refine We rfl ?_|refine Wf (by first|exact Va|exact Vb|exact Vc|exact Vd|exact Ve|exact Vf|exact Vg|exact Vh|exact Vi|exact Vj|exact Vk (by omega)|exact Vl|exact Vm|exact Vn|exact Vo|exact Vp|exact Vq|exact Vr|exact Vs (by omega)|exact Vt (by omega)|exact Vu (by omega)|exact Vv (by omega)|exact Vw|exact Vx|exact Vy|exact Vz|exact VA|exact VB|exact VC|exact VD|exact VE|exact VF) rfl ?_|(refine Wg rfl ?_; intro _)|(refine Wh rfl ?_; intro _)|refine Wi ?_|refine Wj ?_|refine Wk ?_|refine Wl ?_|refine Wm ?_|refine Wn ?_|refine Wo ?_|refine Wp ?_|refine Wq rfl ?_|refine Wr ?_|refine Ws ?_|refine Wt ?_|refine Wu ?_|refine Wv rfl rfl ?_|(refine Ww rfl ⟨rfl, by decide, by decide, by decide⟩ ?_; intro _))
  refine Wf OpV.cap rfl ?_
  repeat (first|refine Wa ?_|refine Wb ?_|refine Wc ?_|refine Wd ?_|refine We rfl ?_|refine Wf (by first|exact Va|exact Vb|exact Vc|exact Vd|exact Ve|exact Vf|exact Vg|exact Vh|exact Vi|exact Vj|exact Vk (by omega)|exact Vl|exact Vm|exact Vn|exact Vo|exact Vp|exact Vq|exact Vr|exact Vs (by omega)|exact Vt (by omega)|exact Vu (by omega)|exact Vv (by omega)|exact Vw|exact Vx|exact Vy|exact Vz|exact VA|exact VB|exact VC|exact VD|exact VE|exact VF) rfl ?_|(refine Wg rfl ?_; intro _)|(refine Wh rfl ?_; intro _)|refine Wi ?_|refine Wj ?_|refine Wk ?_|refine Wl ?_|refine Wm ?_|refine Wn ?_|refine Wo ?_|refine Wp ?_|refine Wq rfl ?_|refine Wr ?_|refine Ws ?_|refine Wt ?_|refine Wu ?_|refine Wv rfl rfl ?_|(refine Ww rfl ⟨rfl, by decide, by decide, by decide⟩ ?_; intro _))
  refine JC.reslot 1 (.int .i64 (k : Int)) (by first | rfl | (congr 1 <;> omega)) ?_
  refine JC.test (fun hlt => ?_) (fun hge => ?_)
  · repeat (first|refine Wa ?_|refine Wb ?_|refine Wc ?_|refine Wd ?_|refine We rfl ?_|refine Wf (by first|exact Va|exact Vb|exact Vc|exact Vd|exact Ve|exact Vf|exact Vg|exact Vh|exact Vi|exact Vj|exact Vk (by omega)|exact Vl|exact Vm|exact Vn|exact Vo|exact Vp|exact Vq|exact Vr|exact Vs (by omega)|exact Vt (by omega)|exact Vu (by omega)|exact Vv (by omega)|exact Vw|exact Vx|exact Vy|exact Vz|exact VA|exact VB|exact VC|exact VD|exact VE|exact VF) rfl ?_|(refine Wg rfl ?_; intro _)|(refine Wh rfl ?_; intro _)|refine Wi ?_|refine Wj ?_|refine Wk ?_|refine Wl ?_|refine Wm ?_|refine Wn ?_|refine Wo ?_|refine Wp ?_|refine Wq rfl ?_|refine Wr ?_|refine Ws ?_|refine Wt ?_|refine Wu ?_|refine Wv rfl rfl ?_|(refine Ww rfl ⟨rfl, by decide, by decide, by decide⟩ ?_; intro _))
    refine Wf OpV.cap rfl ?_
    refine We rfl ?_
    refine Wf (OpV.sliceToV (k := 0) (fun _ _ => Nat.zero_le _)) rfl ?_
    repeat (first|refine Wa ?_|refine Wb ?_|refine Wc ?_|refine Wd ?_|refine We rfl ?_|refine Wf (by first|exact Va|exact Vb|exact Vc|exact Vd|exact Ve|exact Vf|exact Vg|exact Vh|exact Vi|exact Vj|exact Vk (by omega)|exact Vl|exact Vm|exact Vn|exact Vo|exact Vp|exact Vq|exact Vr|exact Vs (by omega)|exact Vt (by omega)|exact Vu (by omega)|exact Vv (by omega)|exact Vw|exact Vx|exact Vy|exact Vz|exact VA|exact VB|exact VC|exact VD|exact VE|exact VF) rfl ?_|(refine Wg rfl ?_; intro _)|(refine Wh rfl ?_; intro _)|refine Wi ?_|refine Wj ?_|refine Wk ?_|refine Wl ?_|refine Wm ?_|refine Wn ?_|refine Wo ?_|refine Wp ?_|refine Wq rfl ?_|refine Wr ?_|refine Ws ?_|refine Wt ?_|refine Wu ?_|refine Wv rfl rfl ?_|(refine Ww rfl ⟨rfl, by decide, by decide, by decide⟩ ?_; intro _))
    refine JR.appendZeros (α := ID) (k := k) rfl (by exact ⟨rfl, rfl, by decide⟩) ⟨by omega, by omega⟩ ?_
    intro b c hc
    repeat (first|refine Wa ?_|refine Wb ?_|refine Wc ?_|refine Wd ?_|refine We rfl ?_|refine Wf (by first|exact Va|exact Vb|exact Vc|exact Vd|exact Ve|exact Vf|exact Vg|exact Vh|exact Vi|exact Vj|exact Vk (by omega)|exact Vl|exact Vm|exact Vn|exact Vo|exact Vp|exact Vq|exact Vr|exact Vs (by omega)|exact Vt (by omega)|exact Vu (by omega)|exact Vv (by omega)|exact Vw|exact Vx|exact Vy|exact Vz|exact VA|exact VB|exact VC|exact VD|exact VE|exact VF) rfl ?_|(refine Wg rfl ?_; intro _)|(refine Wh rfl ?_; intro _)|refine Wi ?_|refine Wj ?_|refine Wk ?_|refine Wl ?_|refine Wm ?_|refine Wn ?_|refine Wo ?_|refine Wp ?_|refine Wq rfl ?_|refine Wr ?_|refine Ws ?_|refine Wt ?_|refine Wu ?_|refine Wv rfl rfl ?_|(refine Ww rfl ⟨rfl, by decide, by decide, by decide⟩ ?_; intro _))
    refine Wf (OpV.sliceToV (k := 0) (fun _ _ => Nat.zero_le _)) rfl ?_
    repeat (first|refine Wa ?_|refine Wb ?_|refine Wc ?_|refine Wd ?_|refine We rfl ?_|refine Wf (by first|exact Va|exact Vb|exact Vc|exact Vd|exact Ve|exact Vf|exact Vg|exact Vh|exact Vi|exact Vj|exact Vk (by omega)|exact Vl|exact Vm|exact Vn|exact Vo|exact Vp|exact Vq|exact Vr|exact Vs (by omega)|exact Vt (by omega)|exact Vu (by omega)|exact Vv (by omega)|exact Vw|exact Vx|exact Vy|exact Vz|exact VA|exact VB|exact VC|exact VD|exact VE|exact VF) rfl ?_|(refine Wg rfl ?_; intro _)|(refine Wh rfl ?_; intro _)|refine Wi ?_|refine Wj ?_|refine Wk ?_|refine Wl ?_|refine Wm ?_|refine Wn ?_|refine Wo ?_|refine Wp ?_|refine Wq rfl ?_|refine Wr ?_|refine Ws ?_|refine Wt ?_|refine Wu ?_|refine Wv rfl rfl ?_|(refine Ww rfl ⟨rfl, by decide, by decide, by decide⟩ ?_; intro _))
    exact CT.done (some ⟨b, 0, none⟩, c) rfl (fun w ho => ho.ent)
  · refine JC.buf_nil (α := ID) 48 ?_
    repeat (first|refine Wa ?_|refine Wb ?_|refine Wc ?_|refine Wd ?_|refine We rfl ?_|refine Wf (by first|exact Va|exact Vb|exact Vc|exact Vd|exact Ve|exact Vf|exact Vg|exact Vh|exact Vi|exact Vj|exact Vk (by omega)|exact Vl|exact Vm|exact Vn|exact Vo|exact Vp|exact Vq|exact Vr|exact Vs (by omega)|exact Vt (by omega)|exact Vu (by omega)|exact Vv (by omega)|exact Vw|exact Vx|exact Vy|exact Vz|exact VA|exact VB|exact VC|exact VD|exact VE|exact VF) rfl ?_|(refine Wg rfl ?_; intro _)|(refine Wh rfl ?_; intro _)|refine Wi ?_|refine Wj ?_|refine Wk ?_|refine Wl ?_|refine Wm ?_|refine Wn ?_|refine Wo ?_|refine Wp ?_|refine Wq rfl ?_|refine Wr ?_|refine Ws ?_|refine Wt ?_|refine Wu ?_|refine Wv rfl rfl ?_|(refine Ww rfl ⟨rfl, by decide, by decide, by decide⟩ ?_; intro _))
    exact CT.done (none, 0) rfl (fun w ho => ho.ent)

set_option maxHeartbeats 1000000 in
theorem concat_idl (w : World) (F : Nat → Prop) (a : Option Addr) (c : Nat) (ls : List (List ID)) (h : (sl a c ls).holds F w) (hl : ls.flatten.length ≤ 1048576) (hl2 : ls.length ≤ 1048576) :
    GivesBuf Tryz.prog 71 [.slice a ls.length c] w F 48 ls.flatten := by
  have hle : ∀ k, (ls.take k).flatten.length ≤ 1048576 := fun k => by
    have h1 := congrArg (fun l => l.flatten.length) (List.take_append_drop k ls)
    simp only [List.flatten_append, List.length_append] at h1
    omega
  have hnext : ∀ k (hk : k < ls.length), (ls.take (k + 1)).flatten = (ls.take k).flatten ++ ls[k] := fun k hk => by
    rw [List.take_succ_eq_append_getElem hk, List.flatten_append]; simp
  refine gives_of Tryz.func71 rfl Tryz.ntmps71 rfl rfl [.st (sl a c ls)] (.start1 h) ?_
  repeat (first|refine Wa ?_|refine Wb ?_|refine Wc ?_|refine Wd ?_|refine We rfl ?_|refine Wf (by first|exact Va|exact Vb|exact Vc|exact Vd|exact Ve|exact Vf|exact Vg|exact Vh|exact Vi|exact Vj|exact Vk (by omega)|exact Vl|exact Vm|exact Vn|exact Vo|exact Vp|exact Vq|exact Vr|exact Vs (by omega)|exact Vt (by omega)|exact Vu (by omega)|exact Vv (by omega)|exact Vw|exact Vx|exact Vy|exact Vz|exact VA|exact VB|exact VC|exact VD|exact VE|exact VF) rfl ?_|(refine Wg rfl ?_; intro _)|(refine Wh rfl ?_; intro _)|refine Wi ?_|refine Wj ?_|refine Wk ?_|refine Wl ?_|refine Wm ?_|refine Wn ?_|refine Wo ?_|refine Wp ?_|refine Wq rfl ?_|refine Wr ?_|refine Ws ?_|refine Wt ?_|refine Wu ?_|refine Wv rfl rfl ?_|(refine Ww rfl ⟨rfl, by decide, by decide, by decide⟩ ?_; intro _))
  refine JC.reslot 3 (.int .i64 (((ls.take 0).flatten.length : Nat) : Int)) rfl ?_
  refine JC.loop1 (fun k : Nat => [(0, .slice a ls.length c), (3, .int .i64 ((ls.take k).flatten.length : Int)), (9, .slice a ls.length c), (10, .int .i64 (ls.length : Int)), (11, .int .i64 (k : Int))]) (fun k => [.st (sl a c ls)])
    (fun k => k ≤ ls.length) (fun k => ls.length - k) 0 (Nat.zero_le _) inferInstance ?_
  intro k hk
  repeat (first|refine Wa ?_|refine Wb ?_|refine Wc ?_|refine Wd ?_|refine We rfl ?_|refine Wf (by first|exact Va|exact Vb|exact Vc|exact Vd|exact Ve|exact Vf|exact Vg|exact Vh|exact Vi|exact Vj|exact Vk (by omega)|exact Vl|exact Vm|exact Vn|exact Vo|exact Vp|exact Vq|exact Vr|exact Vs (by omega)|exact Vt (by omega)|exact Vu (by omega)|exact Vv (by omega)|exact Vw|exact Vx|exact Vy|exact Vz|exact VA|exact VB|exact VC|exact VD|exact VE|exact VF) rfl ?_|(refine Wg rfl ?_; intro _)|(refine Wh rfl ?_; intro _)|refine Wi ?_|refine Wj ?_|refine Wk ?_|refine Wl ?_|refine Wm ?_|refine Wn ?_|refine Wo ?_|refine Wp ?_|refine Wq rfl ?_|refine Wr ?_|refine Ws ?_|refine Wt ?_|refine Wu ?_|refine Wv rfl rfl ?_|(refine Ww rfl ⟨rfl, by decide, by decide, by decide⟩ ?_; intro _))
  refine JC.test (fun hlt => ?_) (fun hge => ?_)
  · have hlt' : k < ls.length := by omega
    have h1 := hle (k + 1)
    have h2 := hnext k hlt'
    have h3 : (ls.take (k + 1)).flatten.length = (ls.take k).flatten.length + (ls[k]).length := by rw [h2, List.length_append]
    repeat (first|refine Wa ?_|refine Wb ?_|refine Wc ?_|refine Wd ?_|refine We rfl ?_|refine Wf (by first|exact Va|exact Vb|exact Vc|exact Vd|exact Ve|exact Vf|exact Vg|exact Vh|exact Vi|exact Vj|exact Vk (by omega)|exact Vl|exact Vm|exact Vn|exact Vo|exact Vp|exact Vq|exact Vr|exact Vs (by omega)|exact Vt (by omega)|exact Vu (by omega)|exact Vv (by omega)|exact Vw|exact Vx|exact Vy|exact Vz|exact VA|exact VB|exact VC|exact VD|exact VE|exact VF) rfl ?_|(refine Wg rfl ?_; intro _)|(refine Wh rfl ?_; intro _)|refine Wi ?_|refine Wj ?_|refine Wk ?_|refine Wl ?_|refine Wm ?_|refine Wn ?_|refine Wo ?_|refine Wp ?_|refine Wq rfl ?_|refine Wr ?_|refine Ws ?_|refine Wt ?_|refine Wu ?_|refine Wv rfl rfl ?_|(refine Ww rfl ⟨rfl, by decide, by decide, by decide⟩ ?_; intro _))
    refine JR.indexIds rfl hlt' ?_
    intro b o p q
    repeat (first|refine Wa ?_|refine Wb ?_|refine Wc ?_|refine Wd ?_|refine We rfl ?_|refine Wf (by first|exact Va|exact Vb|exact Vc|exact Vd|exact Ve|exact Vf|exact Vg|exact Vh|exact Vi|exact Vj|exact Vk (by omega)|exact Vl|exact Vm|exact Vn|exact Vo|exact Vp|exact Vq|exact Vr|exact Vs (by omega)|exact Vt (by omega)|exact Vu (by omega)|exact Vv (by omega)|exact Vw|exact Vx|exact Vy|exact Vz|exact VA|exact VB|exact VC|exact VD|exact VE|exact VF) rfl ?_|(refine Wg rfl ?_; intro _)|(refine Wh rfl ?_; intro _)|refine Wi ?_|refine Wj ?_|refine Wk ?_|refine Wl ?_|refine Wm ?_|refine Wn ?_|refine Wo ?_|refine Wp ?_|refine Wq rfl ?_|refine Wr ?_|refine Ws ?_|refine Wt ?_|refine Wu ?_|refine Wv rfl rfl ?_|(refine Ww rfl ⟨rfl, by decide, by decide, by decide⟩ ?_; intro _))
    exact ⟨k + 1, by omega, by omega, by rw [h3]; infer_instance⟩
  · obtain rfl : k = ls.length := by omega
    rw [List.take_length]
    repeat (first|refine Wa ?_|refine Wb ?_|refine Wc ?_|refine Wd ?_|refine We rfl ?_|refine Wf (by first|exact Va|exact Vb|exact Vc|exact Vd|exact Ve|exact Vf|exact Vg|exact Vh|exact Vi|exact Vj|exact Vk (by omega)|exact Vl|exact Vm|exact Vn|exact Vo|exact Vp|exact Vq|exact Vr|exact Vs (by omega)|exact Vt (by omega)|exact Vu (by omega)|exact Vv (by omega)|exact Vw|exact Vx|exact Vy|exact Vz|exact VA|exact VB|exact VC|exact VD|exact VE|exact VF) rfl ?_|(refine Wg rfl ?_; intro _)|(refine Wh rfl ?_; intro _)|refine Wi ?_|refine Wj ?_|refine Wk ?_|refine Wl ?_|refine Wm ?_|refine Wn ?_|refine Wo ?_|refine Wp ?_|refine Wq rfl ?_|refine Wr ?_|refine Ws ?_|refine Wt ?_|refine Wu ?_|refine Wv rfl rfl ?_|(refine Ww rfl ⟨rfl, by decide, by decide, by decide⟩ ?_; intro _))
    refine JR.callBuf rfl (fun w1 hw => grow_idl w1 _ _ hl) ?_
    intro a1 c1
    repeat (first|refine Wa ?_|refine Wb ?_|refine Wc ?_|refine Wd ?_|refine We rfl ?_|refine Wf (by first|exact Va|exact Vb|exact Vc|exact Vd|exact Ve|exact Vf|exact Vg|exact Vh|exact Vi|exact Vj|exact Vk (by omega)|exact Vl|exact Vm|exact Vn|exact Vo|exact Vp|exact Vq|exact Vr|exact Vs (by omega)|exact Vt (by omega)|exact Vu (by omega)|exact Vv (by omega)|exact Vw|exact Vx|exact Vy|exact Vz|exact VA|exact VB|exact VC|exact VD|exact VE|exact VF) rfl ?_|(refine Wg rfl ?_; intro _)|(refine Wh rfl ?_; intro _)|refine Wi ?_|refine Wj ?_|refine Wk ?_|refine Wl ?_|refine Wm ?_|refine Wn ?_|refine Wo ?_|refine Wp ?_|refine Wq rfl ?_|refine Wr ?_|refine Ws ?_|refine Wt ?_|refine Wu ?_|refine Wv rfl rfl ?_|(refine Ww rfl ⟨rfl, by decide, by decide, by decide⟩ ?_; intro _))
    refine JC.loop3 (fun (k : Nat) p q => [(6, .slice p (ls.take k).flatten.length q), (25, .slice a ls.length c), (26, .int .i64 (ls.length : Int)), (27, .int .i64 (k : Int))]) (fun k p q => [.st (sl a c ls), .res (buf p q 48 (ls.take k).flatten)])
      (fun k _ _ => k ≤ ls.length) (fun k _ _ => ls.length - k) 0 a1 c1 (Nat.zero_le _) (by rw [List.take_zero, List.flatten_nil]; infer_instance) ?_
    intro k p q hk
    repeat (first|refine Wa ?_|refine Wb ?_|refine Wc ?_|refine Wd ?_|refine We rfl ?_|refine Wf (by first|exact Va|exact Vb|exact Vc|exact Vd|exact Ve|exact Vf|exact Vg|exact Vh|exact Vi|exact Vj|exact Vk (by omega)|exact Vl|exact Vm|exact Vn|exact Vo|exact Vp|exact Vq|exact Vr|exact Vs (by omega)|exact Vt (by omega)|exact Vu (by omega)|exact Vv (by omega)|exact Vw|exact Vx|exact Vy|exact Vz|exact VA|exact VB|exact VC|exact VD|exact VE|exact VF) rfl ?_|(refine Wg rfl ?_; intro _)|(refine Wh rfl ?_; intro _)|refine Wi ?_|refine Wj ?_|refine Wk ?_|refine Wl ?_|refine Wm ?_|refine Wn ?_|refine Wo ?_|refine Wp ?_|refine Wq rfl ?_|refine Wr ?_|refine Ws ?_|refine Wt ?_|refine Wu ?_|refine Wv rfl rfl ?_|(refine Ww rfl ⟨rfl, by decide, by decide, by decide⟩ ?_; intro _))
    refine JC.test (fun hlt => ?_) (fun hge => ?_)
    · have hlt' : k < ls.length := by omega
      have h1 := hle (k + 1)
      have h2 := hnext k hlt'
      have h3 : (ls.take (k + 1)).flatten.length = (ls.take k).flatten.length + (ls[k]).length := by rw [h2, List.length_append]
      repeat (first|refine Wa ?_|refine Wb ?_|refine Wc ?_|refine Wd ?_|refine We rfl ?_|refine Wf (by first|exact Va|exact Vb|exact Vc|exact Vd|exact Ve|exact Vf|exact Vg|exact Vh|exact Vi|exact Vj|exact Vk (by omega)|exact Vl|exact Vm|exact Vn|exact Vo|exact Vp|exact Vq|exact Vr|exact Vs (by omega)|exact Vt (by omega)|exact Vu (by omega)|exact Vv (by omega)|exact Vw|exact Vx|exact Vy|exact Vz|exact VA|exact VB|exact VC|exact VD|exact VE|exact VF) rfl ?_|(refine Wg rfl ?_; intro _)|(refine Wh rfl ?_; intro _)|refine Wi ?_|refine Wj ?_|refine Wk ?_|refine Wl ?_|refine Wm ?_|refine Wn ?_|refine Wo ?_|refine Wp ?_|refine Wq rfl ?_|refine Wr ?_|refine Ws ?_|refine Wt ?_|refine Wu ?_|refine Wv rfl rfl ?_|(refine Ww rfl ⟨rfl, by decide, by decide, by decide⟩ ?_; intro _))
      refine JR.indexIds rfl hlt' ?_
      intro b o p2 q2
      repeat (first|refine Wa ?_|refine Wb ?_|refine Wc ?_|refine Wd ?_|refine We rfl ?_|refine Wf (by first|exact Va|exact Vb|exact Vc|exact Vd|exact Ve|exact Vf|exact Vg|exact Vh|exact Vi|exact Vj|exact Vk (by omega)|exact Vl|exact Vm|exact Vn|exact Vo|exact Vp|exact Vq|exact Vr|exact Vs (by omega)|exact Vt (by omega)|exact Vu (by omega)|exact Vv (by omega)|exact Vw|exact Vx|exact Vy|exact Vz|exact VA|exact VB|exact VC|exact VD|exact VE|exact VF) rfl ?_|(refine Wg rfl ?_; intro _)|(refine Wh rfl ?_; intro _)|refine Wi ?_|refine Wj ?_|refine Wk ?_|refine Wl ?_|refine Wm ?_|refine Wn ?_|refine Wo ?_|refine Wp ?_|refine Wq rfl ?_|refine Wr ?_|refine Ws ?_|refine Wt ?_|refine Wu ?_|refine Wv rfl rfl ?_|(refine Ww rfl ⟨rfl, by decide, by decide, by decide⟩ ?_; intro _))
      refine JR.appendSl rfl (by exact ⟨rfl, rfl, by decide⟩) (by omega) ?_
      intro p3 q3
      repeat (first|refine Wa ?_|refine Wb ?_|refine Wc ?_|refine Wd ?_|refine We rfl ?_|refine Wf (by first|exact Va|exact Vb|exact Vc|exact Vd|exact Ve|exact Vf|exact Vg|exact Vh|exact Vi|exact Vj|exact Vk (by omega)|exact Vl|exact Vm|exact Vn|exact Vo|exact Vp|exact Vq|exact Vr|exact Vs (by omega)|exact Vt (by omega)|exact Vu (by omega)|exact Vv (by omega)|exact Vw|exact Vx|exact Vy|exact Vz|exact VA|exact VB|exact VC|exact VD|exact VE|exact VF) rfl ?_|(refine Wg rfl ?_; intro _)|(refine Wh rfl ?_; intro _)|refine Wi ?_|refine Wj ?_|refine Wk ?_|refine Wl ?_|refine Wm ?_|refine Wn ?_|refine Wo ?_|refine Wp ?_|refine Wq rfl ?_|refine Wr ?_|refine Ws ?_|refine Wt ?_|refine Wu ?_|refine Wv rfl rfl ?_|(refine Ww rfl ⟨rfl, by decide, by decide, by decide⟩ ?_; intro _))
      exact ⟨k + 1, p3, q3, by omega, by omega, by rw [h2]; infer_instance⟩
    · obtain rfl : k = ls.length := by omega
      rw [List.take_length]
      repeat (first|refine Wa ?_|refine Wb ?_|refine Wc ?_|refine Wd ?_|refine We rfl ?_|refine Wf (by first|exact Va|exact Vb|exact Vc|exact Vd|exact Ve|exact Vf|exact Vg|exact Vh|exact Vi|exact Vj|exact Vk (by omega)|exact Vl|exact Vm|exact Vn|exact Vo|exact Vp|exact Vq|exact Vr|exact Vs (by omega)|exact Vt (by omega)|exact Vu (by omega)|exact Vv (by omega)|exact Vw|exact Vx|exact Vy|exact Vz|exact VA|exact VB|exact VC|exact VD|exact VE|exact VF) rfl ?_|(refine Wg rfl ?_; intro _)|(refine Wh rfl ?_; intro _)|refine Wi ?_|refine Wj ?_|refine Wk ?_|refine Wl ?_|refine Wm ?_|refine Wn ?_|refine Wo ?_|refine Wp ?_|refine Wq rfl ?_|refine Wr ?_|refine Ws ?_|refine Wt ?_|refine Wu ?_|refine Wv rfl rfl ?_|(refine Ww rfl ⟨rfl, by decide, by decide, by decide⟩ ?_; intro _))
      exact CT.done (p, q) rfl (fun w ho => ho.ent)
theorem both_ids (w : World) (F : Nat → Prop) (a b : Option Addr) (c k : Nat) (A B : List ID) (h : (sl a c A).holds F w) (h' : (sl b k B).holds F w) (hA : A.length ≤ 10000) (hB : B.length ≤ 10000) :
    GivesBuf Tryz.prog 36 [.slice a A.length c, .slice b B.length k] w F 48 (sortL (setOf (A ++ B))) := by
  refine gives_of Tryz.func36 rfl Tryz.ntmps36 rfl rfl [.st (sl a c A), .st (sl b k B)] (.start2 h h') ?_
  repeat (first|refine Wa ?_|refine Wb ?_|refine Wc ?_|refine Wd ?_|refine We rfl ?_|refine Wf (by first|exact Va|exact Vb|exact Vc|exact Vd|exact Ve|exact Vf|exact Vg|exact Vh|exact Vi|exact Vj|exact Vk (by omega)|exact Vl|exact Vm|exact Vn|exact Vo|exact Vp|exact Vq|exact Vr|exact Vs (by omega)|exact Vt (by omega)|exact Vu (by omega)|exact Vv (by omega)|exact Vw|exact Vx|exact Vy|exact Vz|exact VA|exact VB|exact VC|exact VD|exact VE|exact VF) rfl ?_|(refine Wg rfl ?_; intro _)|(refine Wh rfl ?_; intro _)|refine Wi ?_|refine Wj ?_|refine Wk ?_|refine Wl ?_|refine Wm ?_|refine Wn ?_|refine Wo ?_|refine Wp ?_|refine Wq rfl ?_|refine Wr ?_|refine Ws ?_|refine Wt ?_|refine Wu ?_|refine Wv rfl rfl ?_|(refine Ww rfl ⟨rfl, by decide, by decide, by decide⟩ ?_; intro _))
  rename_i lb
  have e : [A, B].flatten = A ++ B := by simp
  refine JR.more (Γ' := .st (sl (some ⟨lb, 0, none⟩) 2 [A, B]) :: [.st (sl a c A), .st (sl b k B)]) (fun w1 ho => ?_) ?_
  · have h1 : Hold _ _ (.own lb 25 [.slice a A.length c, .slice b B.length k] :: [.st (sl a c A), .st (sl b k B)]) w1 := ho.ent
    exact Hold.pubRow [(A, ((a, c) : Cell.Ix (List ID))), (B, ((b, k) : Cell.Ix (List ID)))] h1 (by simp [flat]; rfl) (by simp [Cell.facts]) (by simp)
  refine JR.callBuf (L := A ++ B) rfl (fun w1 hw => by have := concat_idl w1 _ (some ⟨lb, 0, none⟩) 2 [A, B] (hw.get (A := sl (some ⟨lb, 0, none⟩) 2 [A, B])) (by simp; omega) (by simp); rwa [e] at this) ?_
  intro p q
  refine JO.more (fun w1 ho => ho.pub) ?_
  repeat (first|refine Wa ?_|refine Wb ?_|refine Wc ?_|refine Wd ?_|refine We rfl ?_|refine Wf (by first|exact Va|exact Vb|exact Vc|exact Vd|exact Ve|exact Vf|exact Vg|exact Vh|exact Vi|exact Vj|exact Vk (by omega)|exact Vl|exact Vm|exact Vn|exact Vo|exact Vp|exact Vq|exact Vr|exact Vs (by omega)|exact Vt (by omega)|exact Vu (by omega)|exact Vv (by omega)|exact Vw|exact Vx|exact Vy|exact Vz|exact VA|exact VB|exact VC|exact VD|exact VE|exact VF) rfl ?_|(refine Wg rfl ?_; intro _)|(refine Wh rfl ?_; intro _)|refine Wi ?_|refine Wj ?_|refine Wk ?_|refine Wl ?_|refine Wm ?_|refine Wn ?_|refine Wo ?_|refine Wp ?_|refine Wq rfl ?_|refine Wr ?_|refine Ws ?_|refine Wt ?_|refine Wu ?_|refine Wv rfl rfl ?_|(refine Ww rfl ⟨rfl, by decide, by decide, by decide⟩ ?_; intro _))
  refine JR.callBuf rfl (fun w1 hw => sort_ids w1 _ p q (A ++ B) hw.get (by simp; omega)) ?_
  intro p2 q2
  repeat (first|refine Wa ?_|refine Wb ?_|refine Wc ?_|refine Wd ?_|refine We rfl ?_|refine Wf (by first|exact Va|exact Vb|exact Vc|exact Vd|exact Ve|exact Vf|exact Vg|exact Vh|exact Vi|exact Vj|exact Vk (by omega)|exact Vl|exact Vm|exact Vn|exact Vo|exact Vp|exact Vq|exact Vr|exact Vs (by omega)|exact Vt (by omega)|exact Vu (by omega)|exact Vv (by omega)|exact Vw|exact Vx|exact Vy|exact Vz|exact VA|exact VB|exact VC|exact VD|exact VE|exact VF) rfl ?_|(refine Wg rfl ?_; intro _)|(refine Wh rfl ?_; intro _)|refine Wi ?_|refine Wj ?_|refine Wk ?_|refine Wl ?_|refine Wm ?_|refine Wn ?_|refine Wo ?_|refine Wp ?_|refine Wq rfl ?_|refine Wr ?_|refine Ws ?_|refine Wt ?_|refine Wu ?_|refine Wv rfl rfl ?_|(refine Ww rfl ⟨rfl, by decide, by decide, by decide⟩ ?_; intro _))
  exact CT.done (p2, q2) rfl (fun w ho => ho.ent)
theorem common_ids (w : World) (F : Nat → Prop) (a b : Option Addr) (c k : Nat) (A B : List ID) (h : (sl a c A).holds F w) (h' : (sl b k B).holds F w) (hA : A.length ≤ 10000) :
    GivesBuf Tryz.prog 38 [.slice a A.length c, .slice b B.length k] w F 48 (someIds A B true) := by
  refine gives_of Tryz.func38 rfl Tryz.ntmps38 rfl rfl [.st (sl a c A), .st (sl b k B)] (.start2 h h') ?_
  repeat (first|refine Wa ?_|refine Wb ?_|refine Wc ?_|refine Wd ?_|refine We rfl ?_|refine Wf (by first|exact Va|exact Vb|exact Vc|exact Vd|exact Ve|exact Vf|exact Vg|exact Vh|exact Vi|exact Vj|exact Vk (by omega)|exact Vl|exact Vm|exact Vn|exact Vo|exact Vp|exact Vq|exact Vr|exact Vs (by omega)|exact Vt (by omega)|exact Vu (by omega)|exact Vv (by omega)|exact Vw|exact Vx|exact Vy|exact Vz|exact VA|exact VB|exact VC|exact VD|exact VE|exact VF) rfl ?_|(refine Wg rfl ?_; intro _)|(refine Wh rfl ?_; intro _)|refine Wi ?_|refine Wj ?_|refine Wk ?_|refine Wl ?_|refine Wm ?_|refine Wn ?_|refine Wo ?_|refine Wp ?_|refine Wq rfl ?_|refine Wr ?_|refine Ws ?_|refine Wt ?_|refine Wu ?_|refine Wv rfl rfl ?_|(refine Ww rfl ⟨rfl, by decide, by decide, by decide⟩ ?_; intro _))
  refine JR.callBuf rfl (fun w1 hw => some_ids w1 _ a b c k A B true hw.get hw.get (by omega)) ?_
  intro p q
  repeat (first|refine Wa ?_|refine Wb ?_|refine Wc ?_|refine Wd ?_|refine We rfl ?_|refine Wf (by first|exact Va|exact Vb|exact Vc|exact Vd|exact Ve|exact Vf|exact Vg|exact Vh|exact Vi|exact Vj|exact Vk (by omega)|exact Vl|exact Vm|exact Vn|exact Vo|exact Vp|exact Vq|exact Vr|exact Vs (by omega)|exact Vt (by omega)|exact Vu (by omega)|exact Vv (by omega)|exact Vw|exact Vx|exact Vy|exact Vz|exact VA|exact VB|exact VC|exact VD|exact VE|exact VF) rfl ?_|(refine Wg rfl ?_; intro _)|(refine Wh rfl ?_; intro _)|refine Wi ?_|refine Wj ?_|refine Wk ?_|refine Wl ?_|refine Wm ?_|refine Wn ?_|refine Wo ?_|refine Wp ?_|refine Wq rfl ?_|refine Wr ?_|refine Ws ?_|refine Wt ?_|refine Wu ?_|refine Wv rfl rfl ?_|(refine Ww rfl ⟨rfl, by decide, by decide, by decide⟩ ?_; intro _))
  exact CT.done (p, q) rfl (fun w ho => ho.ent)
end Ab
end Go.Proofs.YtcmfemfndadfmaaGreat

/- The law DagKnows returns true. -/
namespace Go.Proofs.YtcmfemfndadfmaaGreat
namespace Ab
open Go Go.RowKit
set_option linter.unusedVariables false
set_option linter.unusedSimpArgs false
set_option synthInstance.maxSize 4000
set_option synthInstance.maxHeartbeats 400000
attribute [local irreducible] JC JO JR JQ andThen inBlock OpV Gives retTo JM JS

attribute [local irreducible] hashC idA l0 l1 ents
end Ab
end Go.Proofs.YtcmfemfndadfmaaGreat

/- The law DagAnc returns true. -/
namespace Go.Proofs.YtcmfemfndadfmaaGreat
namespace Ab
open Go Go.RowKit
set_option linter.unusedVariables false
set_option linter.unusedSimpArgs false
set_option synthInstance.maxSize 4000
set_option synthInstance.maxHeartbeats 400000
attribute [local irreducible] JC JO JR JQ andThen inBlock OpV Gives retTo JM JS

attribute [local irreducible] hashC idA l0 l1 ents
theorem find_out {L : List Commit} (hc : Closed L) {y : ID} (hy : y ∉ cids L) : findR L y = (commit0, false) := by
  have hfd : findC L y = none := by
    rw [findC, List.find?_eq_none]
    intro c hm
    have := (hash_err c).2 (hc.may c hm)
    have h1 : hashO c = some (idC c) := by simp [hashO, this, idC]
    rw [h1]
    simp only [decide_eq_true_eq, Option.some.injEq]
    exact fun e => hy (mem_cids.2 ⟨c, hm, e⟩)
  simp [findR, hfd]
/-- What some know is closed downwards. -/
theorem AncR.down {L : List Commit} (hc : Closed L) {A X : List ID} (h : AncR L A X) {y x : ID} (hy : y ∈ X) (hk : knows L y x) : x ∈ X := by
  rw [h.mem hc] at hy ⊢
  refine ⟨(knows_ids hk).2, .inr ?_⟩
  rcases hy.2 with h1 | ⟨z, hz, h1⟩
  · exact ⟨y, h1, hk⟩
  · exact ⟨z, hz, knows_trans h1 hk⟩
theorem anc_of_down {L : List Commit} (hc : Closed L) {X : List ID} (h1 : X.Pairwise (fun x y => idLt y x = false)) (h2 : X.Nodup) (h3 : ∀ x ∈ X, x ∈ cids L) (h4 : ∀ y ∈ X, ∀ x, knows L y x → x ∈ X) : AncR L X X :=
  ⟨h1, h2, fun _ x => ⟨fun h => ⟨h3 x h, .inl h⟩, fun h => h.2.elim id fun ⟨y, hy, hk⟩ => h4 y hy x hk⟩, fun h => (h hc).elim⟩
theorem AncR.ids {L : List Commit} (hc : Closed L) {A X : List ID} (h : AncR L A X) {x : ID} (hx : x ∈ X) : x ∈ cids L := ((h.mem hc x).1 hx).1
theorem anc_both {L : List Commit} (hc : Closed L) {A B X Y : List ID} (hX : AncR L A X) (hY : AncR L B Y) : AncR L (A ++ B) (sortL (setOf (X ++ Y))) :=
  ⟨sortL_pairwise _, (sortL_perm' _).nodup_iff.2 (setOf_nodup _), fun _ x => by
    rw [mem_sortL, mem_setOf, List.mem_append, hX.mem hc, hY.mem hc]
    unfold inAnc
    constructor
    · rintro (⟨h, h1 | ⟨y, hy, hk⟩⟩ | ⟨h, h1 | ⟨y, hy, hk⟩⟩)
      · exact ⟨h, .inl (by simp [h1])⟩
      · exact ⟨h, .inr ⟨y, by simp [hy], hk⟩⟩
      · exact ⟨h, .inl (by simp [h1])⟩
      · exact ⟨h, .inr ⟨y, by simp [hy], hk⟩⟩
    · rintro ⟨h, h1 | ⟨y, hy, hk⟩⟩
      · rcases List.mem_append.1 h1 with h1 | h1
        · exact .inl ⟨h, .inl h1⟩
        · exact .inr ⟨h, .inl h1⟩
      · rcases List.mem_append.1 hy with hy | hy
        · exact .inl ⟨h, .inr ⟨y, hy, hk⟩⟩
        · exact .inr ⟨h, .inr ⟨y, hy, hk⟩⟩, fun h => (h hc).elim⟩
theorem mem_someT {A B : List ID} {x : ID} : x ∈ someIds A B true ↔ x ∈ A ∧ x ∈ B := by
  rw [someIds, mem_sortL, mem_setOf, pickIds, List.mem_filter]
  simp
theorem anc_common {L : List Commit} (hc : Closed L) {A B X Y : List ID} (hX : AncR L A X) (hY : AncR L B Y) : AncR L (someIds X Y true) (someIds X Y true) :=
  anc_of_down hc (by unfold someIds; exact sortL_pairwise _) (by unfold someIds; exact (sortL_perm' _).nodup_iff.2 (setOf_nodup _)) (fun x hx => hX.ids hc (mem_someT.1 hx).1)
    (fun y hy x hk => mem_someT.2 ⟨hX.down hc (mem_someT.1 hy).1 hk, hY.down hc (mem_someT.1 hy).2 hk⟩)
theorem part_ids {L : List Commit} (hc : Closed L) {A X : List ID} (hX : AncR L A X) (x : ID) : x ∈ cids (L.filter fun c => decide (idC c ∈ X)) ↔ x ∈ X := by
  rw [mem_cids]
  constructor
  · rintro ⟨c, hcm, rfl⟩; simpa using (List.mem_filter.1 hcm).2
  · intro hx
    obtain ⟨c, hcm, rfl⟩ := mem_cids.1 (hX.ids hc hx)
    exact ⟨c, List.mem_filter.2 ⟨hcm, by simpa using hx⟩, rfl⟩
theorem part_closed {L : List Commit} (hc : Closed L) {A X : List ID} (hX : AncR L A X) : Closed (L.filter fun c => decide (idC c ∈ X)) := by
  refine hc.sub (fun c hcm => (List.mem_filter.1 hcm).1) (nodup_sub hc.nodup List.filter_sublist) (fun c hcm p hp => ?_)
  obtain ⟨h1, h2⟩ := List.mem_filter.1 hcm
  rw [part_ids hc hX]
  exact hX.down hc (by simpa using h2) (.single ⟨c, h1, rfl, hp, (hc.fine c h1).here p hp⟩)
theorem part_length {L : List Commit} (hc : Closed L) {A X : List ID} (hX : AncR L A X) : (L.filter fun c => decide (idC c ∈ X)).length = X.length := by
  have h1 := (List.perm_ext_iff_of_nodup (nodup_sub hc.nodup (List.filter_sublist (p := fun c => decide (idC c ∈ X)))) hX.nodup).2 (part_ids hc hX)
  have := h1.length_eq
  rwa [cids_length] at this
set_option maxHeartbeats 4000000 in
theorem law_anc (w : World) (F : Nat → Prop) (a b d : Option Addr) (k m n : Nat) (L : List Commit) (A B : List ID) (h : (sl a k L).holds F w) (h1 : (sl b m A).holds F w) (h2 : (sl d n B).holds F w) :
    GivesV Tryz.prog 8 [.slice a L.length k, .slice b A.length m, .slice d B.length n] w F (.bool true) := by
  refine gives_of Tryz.func8 rfl Tryz.ntmps8 rfl rfl [.st (sl a k L), .st (sl b m A), .st (sl d n B)] (.start3 h h1 h2) ?_
  repeat (first|refine Wa ?_|refine Wb ?_|refine Wc ?_|refine Wd ?_|refine We rfl ?_|refine Wf (by first|exact Va|exact Vb|exact Vc|exact Vd|exact Ve|exact Vf|exact Vg|exact Vh|exact Vi|exact Vj|exact Vk (by omega)|exact Vl|exact Vm|exact Vn|exact Vo|exact Vp|exact Vq|exact Vr|exact Vs (by omega)|exact Vt (by omega)|exact Vu (by omega)|exact Vv (by omega)|exact Vw|exact Vx|exact Vy|exact Vz|exact VA|exact VB|exact VC|exact VD|exact VE|exact VF) rfl ?_|(refine Wg rfl ?_; intro _)|(refine Wh rfl ?_; intro _)|refine Wi ?_|refine Wj ?_|refine Wk ?_|refine Wl ?_|refine Wm ?_|refine Wn ?_|refine Wo ?_|refine Wp ?_|refine Wq rfl ?_|refine Wr ?_|refine Ws ?_|refine Wt ?_|refine Wu ?_|refine Wv rfl rfl ?_|(refine Ww rfl ⟨rfl, by decide, by decide, by decide⟩ ?_; intro _))
  refine JR.callV rfl (fun w1 hw => awake_dag w1 _) ?_
  repeat (first|refine Wa ?_|refine Wb ?_|refine Wc ?_|refine Wd ?_|refine We rfl ?_|refine Wf (by first|exact Va|exact Vb|exact Vc|exact Vd|exact Ve|exact Vf|exact Vg|exact Vh|exact Vi|exact Vj|exact Vk (by omega)|exact Vl|exact Vm|exact Vn|exact Vo|exact Vp|exact Vq|exact Vr|exact Vs (by omega)|exact Vt (by omega)|exact Vu (by omega)|exact Vv (by omega)|exact Vw|exact Vx|exact Vy|exact Vz|exact VA|exact VB|exact VC|exact VD|exact VE|exact VF) rfl ?_|(refine Wg rfl ?_; intro _)|(refine Wh rfl ?_; intro _)|refine Wi ?_|refine Wj ?_|refine Wk ?_|refine Wl ?_|refine Wm ?_|refine Wn ?_|refine Wo ?_|refine Wp ?_|refine Wq rfl ?_|refine Wr ?_|refine Ws ?_|refine Wt ?_|refine Wu ?_|refine Wv rfl rfl ?_|(refine Ww rfl ⟨rfl, by decide, by decide, by decide⟩ ?_; intro _))
  refine JR.callV rfl (fun w1 hw => few_all w1 _ a k L 12 hw.get) ?_
  cases hfew : fewL L 12 with
  | false =>
    repeat (first|refine Wa ?_|refine Wb ?_|refine Wc ?_|refine Wd ?_|refine We rfl ?_|refine Wf (by first|exact Va|exact Vb|exact Vc|exact Vd|exact Ve|exact Vf|exact Vg|exact Vh|exact Vi|exact Vj|exact Vk (by omega)|exact Vl|exact Vm|exact Vn|exact Vo|exact Vp|exact Vq|exact Vr|exact Vs (by omega)|exact Vt (by omega)|exact Vu (by omega)|exact Vv (by omega)|exact Vw|exact Vx|exact Vy|exact Vz|exact VA|exact VB|exact VC|exact VD|exact VE|exact VF) rfl ?_|(refine Wg rfl ?_; intro _)|(refine Wh rfl ?_; intro _)|refine Wi ?_|refine Wj ?_|refine Wk ?_|refine Wl ?_|refine Wm ?_|refine Wn ?_|refine Wo ?_|refine Wp ?_|refine Wq rfl ?_|refine Wr ?_|refine Ws ?_|refine Wt ?_|refine Wu ?_|refine Wv rfl rfl ?_|(refine Ww rfl ⟨rfl, by decide, by decide, by decide⟩ ?_; intro _)|refine Wx rfl rfl ?_)
    exact CT.done () rfl (fun w ho => ho.ent)
  | true =>
  obtain ⟨hL, hf⟩ := few_fine hfew
  have hcl := cids_length L
  repeat (first|refine Wa ?_|refine Wb ?_|refine Wc ?_|refine Wd ?_|refine We rfl ?_|refine Wf (by first|exact Va|exact Vb|exact Vc|exact Vd|exact Ve|exact Vf|exact Vg|exact Vh|exact Vi|exact Vj|exact Vk (by omega)|exact Vl|exact Vm|exact Vn|exact Vo|exact Vp|exact Vq|exact Vr|exact Vs (by omega)|exact Vt (by omega)|exact Vu (by omega)|exact Vv (by omega)|exact Vw|exact Vx|exact Vy|exact Vz|exact VA|exact VB|exact VC|exact VD|exact VE|exact VF) rfl ?_|(refine Wg rfl ?_; intro _)|(refine Wh rfl ?_; intro _)|refine Wi ?_|refine Wj ?_|refine Wk ?_|refine Wl ?_|refine Wm ?_|refine Wn ?_|refine Wo ?_|refine Wp ?_|refine Wq rfl ?_|refine Wr ?_|refine Ws ?_|refine Wt ?_|refine Wu ?_|refine Wv rfl rfl ?_|(refine Ww rfl ⟨rfl, by decide, by decide, by decide⟩ ?_; intro _)|refine Wx rfl rfl ?_)
  refine JO.test 33 (fun hA => ?_) (fun hA => ?_)
  · repeat (first|refine Wa ?_|refine Wb ?_|refine Wc ?_|refine Wd ?_|refine We rfl ?_|refine Wf (by first|exact Va|exact Vb|exact Vc|exact Vd|exact Ve|exact Vf|exact Vg|exact Vh|exact Vi|exact Vj|exact Vk (by omega)|exact Vl|exact Vm|exact Vn|exact Vo|exact Vp|exact Vq|exact Vr|exact Vs (by omega)|exact Vt (by omega)|exact Vu (by omega)|exact Vv (by omega)|exact Vw|exact Vx|exact Vy|exact Vz|exact VA|exact VB|exact VC|exact VD|exact VE|exact VF) rfl ?_|(refine Wg rfl ?_; intro _)|(refine Wh rfl ?_; intro _)|refine Wi ?_|refine Wj ?_|refine Wk ?_|refine Wl ?_|refine Wm ?_|refine Wn ?_|refine Wo ?_|refine Wp ?_|refine Wq rfl ?_|refine Wr ?_|refine Ws ?_|refine Wt ?_|refine Wu ?_|refine Wv rfl rfl ?_|(refine Ww rfl ⟨rfl, by decide, by decide, by decide⟩ ?_; intro _)|refine Wx rfl rfl ?_)
    exact CT.done () rfl (fun w ho => ho.ent)
  repeat (first|refine Wa ?_|refine Wb ?_|refine Wc ?_|refine Wd ?_|refine We rfl ?_|refine Wf (by first|exact Va|exact Vb|exact Vc|exact Vd|exact Ve|exact Vf|exact Vg|exact Vh|exact Vi|exact Vj|exact Vk (by omega)|exact Vl|exact Vm|exact Vn|exact Vo|exact Vp|exact Vq|exact Vr|exact Vs (by omega)|exact Vt (by omega)|exact Vu (by omega)|exact Vv (by omega)|exact Vw|exact Vx|exact Vy|exact Vz|exact VA|exact VB|exact VC|exact VD|exact VE|exact VF) rfl ?_|(refine Wg rfl ?_; intro _)|(refine Wh rfl ?_; intro _)|refine Wi ?_|refine Wj ?_|refine Wk ?_|refine Wl ?_|refine Wm ?_|refine Wn ?_|refine Wo ?_|refine Wp ?_|refine Wq rfl ?_|refine Wr ?_|refine Ws ?_|refine Wt ?_|refine Wu ?_|refine Wv rfl rfl ?_|(refine Ww rfl ⟨rfl, by decide, by decide, by decide⟩ ?_; intro _)|refine Wx rfl rfl ?_)
  refine JO.test 38 (fun hB => ?_) (fun hB => ?_)
  · repeat (first|refine Wa ?_|refine Wb ?_|refine Wc ?_|refine Wd ?_|refine We rfl ?_|refine Wf (by first|exact Va|exact Vb|exact Vc|exact Vd|exact Ve|exact Vf|exact Vg|exact Vh|exact Vi|exact Vj|exact Vk (by omega)|exact Vl|exact Vm|exact Vn|exact Vo|exact Vp|exact Vq|exact Vr|exact Vs (by omega)|exact Vt (by omega)|exact Vu (by omega)|exact Vv (by omega)|exact Vw|exact Vx|exact Vy|exact Vz|exact VA|exact VB|exact VC|exact VD|exact VE|exact VF) rfl ?_|(refine Wg rfl ?_; intro _)|(refine Wh rfl ?_; intro _)|refine Wi ?_|refine Wj ?_|refine Wk ?_|refine Wl ?_|refine Wm ?_|refine Wn ?_|refine Wo ?_|refine Wp ?_|refine Wq rfl ?_|refine Wr ?_|refine Ws ?_|refine Wt ?_|refine Wu ?_|refine Wv rfl rfl ?_|(refine Ww rfl ⟨rfl, by decide, by decide, by decide⟩ ?_; intro _)|refine Wx rfl rfl ?_)
    exact CT.done () rfl (fun w ho => ho.ent)
  by_cases hc : Closed L
  case neg =>
    repeat (first|refine Wa ?_|refine Wb ?_|refine Wc ?_|refine Wd ?_|refine We rfl ?_|refine Wf (by first|exact Va|exact Vb|exact Vc|exact Vd|exact Ve|exact Vf|exact Vg|exact Vh|exact Vi|exact Vj|exact Vk (by omega)|exact Vl|exact Vm|exact Vn|exact Vo|exact Vp|exact Vq|exact Vr|exact Vs (by omega)|exact Vt (by omega)|exact Vu (by omega)|exact Vv (by omega)|exact Vw|exact Vx|exact Vy|exact Vz|exact VA|exact VB|exact VC|exact VD|exact VE|exact VF) rfl ?_|(refine Wg rfl ?_; intro _)|(refine Wh rfl ?_; intro _)|refine Wi ?_|refine Wj ?_|refine Wk ?_|refine Wl ?_|refine Wm ?_|refine Wn ?_|refine Wo ?_|refine Wp ?_|refine Wq rfl ?_|refine Wr ?_|refine Ws ?_|refine Wt ?_|refine Wu ?_|refine Wv rfl rfl ?_|(refine Ww rfl ⟨rfl, by decide, by decide, by decide⟩ ?_; intro _)|refine Wx rfl rfl ?_)
    refine JR.callV rfl (fun w1 hw => closed_no w1 _ a k L hw.get (by omega) hf hc) ?_
    repeat (first|refine Wa ?_|refine Wb ?_|refine Wc ?_|refine Wd ?_|refine We rfl ?_|refine Wf (by first|exact Va|exact Vb|exact Vc|exact Vd|exact Ve|exact Vf|exact Vg|exact Vh|exact Vi|exact Vj|exact Vk (by omega)|exact Vl|exact Vm|exact Vn|exact Vo|exact Vp|exact Vq|exact Vr|exact Vs (by omega)|exact Vt (by omega)|exact Vu (by omega)|exact Vv (by omega)|exact Vw|exact Vx|exact Vy|exact Vz|exact VA|exact VB|exact VC|exact VD|exact VE|exact VF) rfl ?_|(refine Wg rfl ?_; intro _)|(refine Wh rfl ?_; intro _)|refine Wi ?_|refine Wj ?_|refine Wk ?_|refine Wl ?_|refine Wm ?_|refine Wn ?_|refine Wo ?_|refine Wp ?_|refine Wq rfl ?_|refine Wr ?_|refine Ws ?_|refine Wt ?_|refine Wu ?_|refine Wv rfl rfl ?_|(refine Ww rfl ⟨rfl, by decide, by decide, by decide⟩ ?_; intro _)|refine Wx rfl rfl ?_)
    exact CT.done () rfl (fun w ho => ho.ent)
  repeat (first|refine Wa ?_|refine Wb ?_|refine Wc ?_|refine Wd ?_|refine We rfl ?_|refine Wf (by first|exact Va|exact Vb|exact Vc|exact Vd|exact Ve|exact Vf|exact Vg|exact Vh|exact Vi|exact Vj|exact Vk (by omega)|exact Vl|exact Vm|exact Vn|exact Vo|exact Vp|exact Vq|exact Vr|exact Vs (by omega)|exact Vt (by omega)|exact Vu (by omega)|exact Vv (by omega)|exact Vw|exact Vx|exact Vy|exact Vz|exact VA|exact VB|exact VC|exact VD|exact VE|exact VF) rfl ?_|(refine Wg rfl ?_; intro _)|(refine Wh rfl ?_; intro _)|refine Wi ?_|refine Wj ?_|refine Wk ?_|refine Wl ?_|refine Wm ?_|refine Wn ?_|refine Wo ?_|refine Wp ?_|refine Wq rfl ?_|refine Wr ?_|refine Ws ?_|refine Wt ?_|refine Wu ?_|refine Wv rfl rfl ?_|(refine Ww rfl ⟨rfl, by decide, by decide, by decide⟩ ?_; intro _)|refine Wx rfl rfl ?_)
  refine JR.callV rfl (fun w1 hw => closed_yes w1 _ a k L hw.get (by omega) hf hc) ?_
  obtain ⟨X, hX⟩ := anc_ex L A
  obtain ⟨Y, hY⟩ := anc_ex L B
  have hXl := anc_len hX
  have hYl := anc_len hY
  obtain ⟨Pt, hPt⟩ : ∃ Pt, Pt = L.filter fun c => decide (idC c ∈ X) := ⟨_, rfl⟩
  have hPc : Closed Pt := hPt ▸ part_closed hc hX
  have hPl : Pt.length = X.length := hPt ▸ part_length hc hX
  have hPf : ∀ x ∈ Pt, fine x := fun x hx => hf x (by rw [hPt] at hx; exact (List.mem_filter.1 hx).1)
  have hXX : AncR L X X := anc_of_down hc hX.sorted hX.nodup (fun x hx => hX.ids hc hx) (fun y hy x hk => hX.down hc hy hk)
  have hAB := anc_both hc hX hY
  obtain ⟨Z, hZ⟩ : ∃ Z, Z = sortL (setOf (X ++ Y)) := ⟨_, rfl⟩
  rw [← hZ] at hAB
  have hCC := anc_common hc hX hY
  have hCl := anc_len hCC
  repeat (first|refine Wa ?_|refine Wb ?_|refine Wc ?_|refine Wd ?_|refine We rfl ?_|refine Wf (by first|exact Va|exact Vb|exact Vc|exact Vd|exact Ve|exact Vf|exact Vg|exact Vh|exact Vi|exact Vj|exact Vk (by omega)|exact Vl|exact Vm|exact Vn|exact Vo|exact Vp|exact Vq|exact Vr|exact Vs (by omega)|exact Vt (by omega)|exact Vu (by omega)|exact Vv (by omega)|exact Vw|exact Vx|exact Vy|exact Vz|exact VA|exact VB|exact VC|exact VD|exact VE|exact VF) rfl ?_|(refine Wg rfl ?_; intro _)|(refine Wh rfl ?_; intro _)|refine Wi ?_|refine Wj ?_|refine Wk ?_|refine Wl ?_|refine Wm ?_|refine Wn ?_|refine Wo ?_|refine Wp ?_|refine Wq rfl ?_|refine Wr ?_|refine Ws ?_|refine Wt ?_|refine Wu ?_|refine Wv rfl rfl ?_|(refine Ww rfl ⟨rfl, by decide, by decide, by decide⟩ ?_; intro _)|refine Wx rfl rfl ?_)
  refine JR.callSl (L := X) rfl (fun w1 hw => anc_sl w1 _ a b k m L A X hw.get hw.get (by omega) (by omega) hf hX) ?_
  intro ax kx
  repeat (first|refine Wa ?_|refine Wb ?_|refine Wc ?_|refine Wd ?_|refine We rfl ?_|refine Wf (by first|exact Va|exact Vb|exact Vc|exact Vd|exact Ve|exact Vf|exact Vg|exact Vh|exact Vi|exact Vj|exact Vk (by omega)|exact Vl|exact Vm|exact Vn|exact Vo|exact Vp|exact Vq|exact Vr|exact Vs (by omega)|exact Vt (by omega)|exact Vu (by omega)|exact Vv (by omega)|exact Vw|exact Vx|exact Vy|exact Vz|exact VA|exact VB|exact VC|exact VD|exact VE|exact VF) rfl ?_|(refine Wg rfl ?_; intro _)|(refine Wh rfl ?_; intro _)|refine Wi ?_|refine Wj ?_|refine Wk ?_|refine Wl ?_|refine Wm ?_|refine Wn ?_|refine Wo ?_|refine Wp ?_|refine Wq rfl ?_|refine Wr ?_|refine Ws ?_|refine Wt ?_|refine Wu ?_|refine Wv rfl rfl ?_|(refine Ww rfl ⟨rfl, by decide, by decide, by decide⟩ ?_; intro _))
  refine JR.callSl (L := Y) rfl (fun w1 hw => anc_sl w1 _ a d k n L B Y hw.get hw.get (by omega) (by omega) hf hY) ?_
  intro ay ky
  repeat (first|refine Wa ?_|refine Wb ?_|refine Wc ?_|refine Wd ?_|refine We rfl ?_|refine Wf (by first|exact Va|exact Vb|exact Vc|exact Vd|exact Ve|exact Vf|exact Vg|exact Vh|exact Vi|exact Vj|exact Vk (by omega)|exact Vl|exact Vm|exact Vn|exact Vo|exact Vp|exact Vq|exact Vr|exact Vs (by omega)|exact Vt (by omega)|exact Vu (by omega)|exact Vv (by omega)|exact Vw|exact Vx|exact Vy|exact Vz|exact VA|exact VB|exact VC|exact VD|exact VE|exact VF) rfl ?_|(refine Wg rfl ?_; intro _)|(refine Wh rfl ?_; intro _)|refine Wi ?_|refine Wj ?_|refine Wk ?_|refine Wl ?_|refine Wm ?_|refine Wn ?_|refine Wo ?_|refine Wp ?_|refine Wq rfl ?_|refine Wr ?_|refine Ws ?_|refine Wt ?_|refine Wu ?_|refine Wv rfl rfl ?_|(refine Ww rfl ⟨rfl, by decide, by decide, by decide⟩ ?_; intro _))
  refine JR.callSl (L := Pt) rfl (fun w1 hw => by have := part_sl w1 _ a ax k kx L X hw.get hw.get (by omega) hf hc; rwa [← hPt] at this) ?_
  intro ap kp
  repeat (first|refine Wa ?_|refine Wb ?_|refine Wc ?_|refine Wd ?_|refine We rfl ?_|refine Wf (by first|exact Va|exact Vb|exact Vc|exact Vd|exact Ve|exact Vf|exact Vg|exact Vh|exact Vi|exact Vj|exact Vk (by omega)|exact Vl|exact Vm|exact Vn|exact Vo|exact Vp|exact Vq|exact Vr|exact Vs (by omega)|exact Vt (by omega)|exact Vu (by omega)|exact Vv (by omega)|exact Vw|exact Vx|exact Vy|exact Vz|exact VA|exact VB|exact VC|exact VD|exact VE|exact VF) rfl ?_|(refine Wg rfl ?_; intro _)|(refine Wh rfl ?_; intro _)|refine Wi ?_|refine Wj ?_|refine Wk ?_|refine Wl ?_|refine Wm ?_|refine Wn ?_|refine Wo ?_|refine Wp ?_|refine Wq rfl ?_|refine Wr ?_|refine Ws ?_|refine Wt ?_|refine Wu ?_|refine Wv rfl rfl ?_|(refine Ww rfl ⟨rfl, by decide, by decide, by decide⟩ ?_; intro _))
  refine JR.callSl (L := X) rfl (fun w1 hw => anc_sl w1 _ a ax k kx L X X hw.get hw.get (by omega) (by omega) hf hXX) ?_
  intro a3 k3
  repeat (first|refine Wa ?_|refine Wb ?_|refine Wc ?_|refine Wd ?_|refine We rfl ?_|refine Wf (by first|exact Va|exact Vb|exact Vc|exact Vd|exact Ve|exact Vf|exact Vg|exact Vh|exact Vi|exact Vj|exact Vk (by omega)|exact Vl|exact Vm|exact Vn|exact Vo|exact Vp|exact Vq|exact Vr|exact Vs (by omega)|exact Vt (by omega)|exact Vu (by omega)|exact Vv (by omega)|exact Vw|exact Vx|exact Vy|exact Vz|exact VA|exact VB|exact VC|exact VD|exact VE|exact VF) rfl ?_|(refine Wg rfl ?_; intro _)|(refine Wh rfl ?_; intro _)|refine Wi ?_|refine Wj ?_|refine Wk ?_|refine Wl ?_|refine Wm ?_|refine Wn ?_|refine Wo ?_|refine Wp ?_|refine Wq rfl ?_|refine Wr ?_|refine Ws ?_|refine Wt ?_|refine Wu ?_|refine Wv rfl rfl ?_|(refine Ww rfl ⟨rfl, by decide, by decide, by decide⟩ ?_; intro _))
  refine JR.callV rfl (fun w1 hw => sameIds_ref w1 _ a3 ax k3 kx X X hw.get hw.get) ?_
  refine JO.reslot 57 (.bool true) (by simp) ?_
  repeat (first|refine Wa ?_|refine Wb ?_|refine Wc ?_|refine Wd ?_|refine We rfl ?_|refine Wf (by first|exact Va|exact Vb|exact Vc|exact Vd|exact Ve|exact Vf|exact Vg|exact Vh|exact Vi|exact Vj|exact Vk (by omega)|exact Vl|exact Vm|exact Vn|exact Vo|exact Vp|exact Vq|exact Vr|exact Vs (by omega)|exact Vt (by omega)|exact Vu (by omega)|exact Vv (by omega)|exact Vw|exact Vx|exact Vy|exact Vz|exact VA|exact VB|exact VC|exact VD|exact VE|exact VF) rfl ?_|(refine Wg rfl ?_; intro _)|(refine Wh rfl ?_; intro _)|refine Wi ?_|refine Wj ?_|refine Wk ?_|refine Wl ?_|refine Wm ?_|refine Wn ?_|refine Wo ?_|refine Wp ?_|refine Wq rfl ?_|refine Wr ?_|refine Ws ?_|refine Wt ?_|refine Wu ?_|refine Wv rfl rfl ?_|(refine Ww rfl ⟨rfl, by decide, by decide, by decide⟩ ?_; intro _))
  refine JR.appendNil (L' := A) rfl (by exact ⟨rfl, rfl, by decide⟩) (by omega) ?_
  intro a4 k4
  repeat (first|refine Wa ?_|refine Wb ?_|refine Wc ?_|refine Wd ?_|refine We rfl ?_|refine Wf (by first|exact Va|exact Vb|exact Vc|exact Vd|exact Ve|exact Vf|exact Vg|exact Vh|exact Vi|exact Vj|exact Vk (by omega)|exact Vl|exact Vm|exact Vn|exact Vo|exact Vp|exact Vq|exact Vr|exact Vs (by omega)|exact Vt (by omega)|exact Vu (by omega)|exact Vv (by omega)|exact Vw|exact Vx|exact Vy|exact Vz|exact VA|exact VB|exact VC|exact VD|exact VE|exact VF) rfl ?_|(refine Wg rfl ?_; intro _)|(refine Wh rfl ?_; intro _)|refine Wi ?_|refine Wj ?_|refine Wk ?_|refine Wl ?_|refine Wm ?_|refine Wn ?_|refine Wo ?_|refine Wp ?_|refine Wq rfl ?_|refine Wr ?_|refine Ws ?_|refine Wt ?_|refine Wu ?_|refine Wv rfl rfl ?_|(refine Ww rfl ⟨rfl, by decide, by decide, by decide⟩ ?_; intro _))
  refine JR.appendSl (L := A) (L' := B) rfl (by exact ⟨rfl, rfl, by decide⟩) (by omega) ?_
  intro a5 k5
  refine JO.more (fun w1 ho => ho.pub) ?_
  repeat (first|refine Wa ?_|refine Wb ?_|refine Wc ?_|refine Wd ?_|refine We rfl ?_|refine Wf (by first|exact Va|exact Vb|exact Vc|exact Vd|exact Ve|exact Vf|exact Vg|exact Vh|exact Vi|exact Vj|exact Vk (by omega)|exact Vl|exact Vm|exact Vn|exact Vo|exact Vp|exact Vq|exact Vr|exact Vs (by omega)|exact Vt (by omega)|exact Vu (by omega)|exact Vv (by omega)|exact Vw|exact Vx|exact Vy|exact Vz|exact VA|exact VB|exact VC|exact VD|exact VE|exact VF) rfl ?_|(refine Wg rfl ?_; intro _)|(refine Wh rfl ?_; intro _)|refine Wi ?_|refine Wj ?_|refine Wk ?_|refine Wl ?_|refine Wm ?_|refine Wn ?_|refine Wo ?_|refine Wp ?_|refine Wq rfl ?_|refine Wr ?_|refine Ws ?_|refine Wt ?_|refine Wu ?_|refine Wv rfl rfl ?_|(refine Ww rfl ⟨rfl, by decide, by decide, by decide⟩ ?_; intro _))
  refine JR.callSl (L := Z) rfl (fun w1 hw => anc_sl w1 _ a a5 k k5 L (A ++ B) Z hw.get hw.get (by omega) (by rw [List.length_append]; omega) hf hAB) ?_
  intro a6 k6
  repeat (first|refine Wa ?_|refine Wb ?_|refine Wc ?_|refine Wd ?_|refine We rfl ?_|refine Wf (by first|exact Va|exact Vb|exact Vc|exact Vd|exact Ve|exact Vf|exact Vg|exact Vh|exact Vi|exact Vj|exact Vk (by omega)|exact Vl|exact Vm|exact Vn|exact Vo|exact Vp|exact Vq|exact Vr|exact Vs (by omega)|exact Vt (by omega)|exact Vu (by omega)|exact Vv (by omega)|exact Vw|exact Vx|exact Vy|exact Vz|exact VA|exact VB|exact VC|exact VD|exact VE|exact VF) rfl ?_|(refine Wg rfl ?_; intro _)|(refine Wh rfl ?_; intro _)|refine Wi ?_|refine Wj ?_|refine Wk ?_|refine Wl ?_|refine Wm ?_|refine Wn ?_|refine Wo ?_|refine Wp ?_|refine Wq rfl ?_|refine Wr ?_|refine Ws ?_|refine Wt ?_|refine Wu ?_|refine Wv rfl rfl ?_|(refine Ww rfl ⟨rfl, by decide, by decide, by decide⟩ ?_; intro _))
  refine JR.callBuf (L := Z) rfl (fun w1 hw => by have := both_ids w1 _ ax ay kx ky X Y hw.get hw.get (by omega) (by omega); rwa [← hZ] at this) ?_
  intro a7 k7
  refine JO.more (fun w1 ho => ho.pub) ?_
  repeat (first|refine Wa ?_|refine Wb ?_|refine Wc ?_|refine Wd ?_|refine We rfl ?_|refine Wf (by first|exact Va|exact Vb|exact Vc|exact Vd|exact Ve|exact Vf|exact Vg|exact Vh|exact Vi|exact Vj|exact Vk (by omega)|exact Vl|exact Vm|exact Vn|exact Vo|exact Vp|exact Vq|exact Vr|exact Vs (by omega)|exact Vt (by omega)|exact Vu (by omega)|exact Vv (by omega)|exact Vw|exact Vx|exact Vy|exact Vz|exact VA|exact VB|exact VC|exact VD|exact VE|exact VF) rfl ?_|(refine Wg rfl ?_; intro _)|(refine Wh rfl ?_; intro _)|refine Wi ?_|refine Wj ?_|refine Wk ?_|refine Wl ?_|refine Wm ?_|refine Wn ?_|refine Wo ?_|refine Wp ?_|refine Wq rfl ?_|refine Wr ?_|refine Ws ?_|refine Wt ?_|refine Wu ?_|refine Wv rfl rfl ?_|(refine Ww rfl ⟨rfl, by decide, by decide, by decide⟩ ?_; intro _))
  refine JR.callV rfl (fun w1 hw => sameIds_ref w1 _ a6 a7 k6 k7 Z Z hw.get hw.get) ?_
  refine JO.reslot 67 (.bool true) (by simp) ?_
  repeat (first|refine Wa ?_|refine Wb ?_|refine Wc ?_|refine Wd ?_|refine We rfl ?_|refine Wf (by first|exact Va|exact Vb|exact Vc|exact Vd|exact Ve|exact Vf|exact Vg|exact Vh|exact Vi|exact Vj|exact Vk (by omega)|exact Vl|exact Vm|exact Vn|exact Vo|exact Vp|exact Vq|exact Vr|exact Vs (by omega)|exact Vt (by omega)|exact Vu (by omega)|exact Vv (by omega)|exact Vw|exact Vx|exact Vy|exact Vz|exact VA|exact VB|exact VC|exact VD|exact VE|exact VF) rfl ?_|(refine Wg rfl ?_; intro _)|(refine Wh rfl ?_; intro _)|refine Wi ?_|refine Wj ?_|refine Wk ?_|refine Wl ?_|refine Wm ?_|refine Wn ?_|refine Wo ?_|refine Wp ?_|refine Wq rfl ?_|refine Wr ?_|refine Ws ?_|refine Wt ?_|refine Wu ?_|refine Wv rfl rfl ?_|(refine Ww rfl ⟨rfl, by decide, by decide, by decide⟩ ?_; intro _))
  refine JR.callBuf (L := someIds X Y true) rfl (fun w1 hw => common_ids w1 _ ax ay kx ky X Y hw.get hw.get (by omega)) ?_
  intro a8 k8
  refine JO.more (fun w1 ho => ho.pub) ?_
  repeat (first|refine Wa ?_|refine Wb ?_|refine Wc ?_|refine Wd ?_|refine We rfl ?_|refine Wf (by first|exact Va|exact Vb|exact Vc|exact Vd|exact Ve|exact Vf|exact Vg|exact Vh|exact Vi|exact Vj|exact Vk (by omega)|exact Vl|exact Vm|exact Vn|exact Vo|exact Vp|exact Vq|exact Vr|exact Vs (by omega)|exact Vt (by omega)|exact Vu (by omega)|exact Vv (by omega)|exact Vw|exact Vx|exact Vy|exact Vz|exact VA|exact VB|exact VC|exact VD|exact VE|exact VF) rfl ?_|(refine Wg rfl ?_; intro _)|(refine Wh rfl ?_; intro _)|refine Wi ?_|refine Wj ?_|refine Wk ?_|refine Wl ?_|refine Wm ?_|refine Wn ?_|refine Wo ?_|refine Wp ?_|refine Wq rfl ?_|refine Wr ?_|refine Ws ?_|refine Wt ?_|refine Wu ?_|refine Wv rfl rfl ?_|(refine Ww rfl ⟨rfl, by decide, by decide, by decide⟩ ?_; intro _))
  refine JR.callSl (L := someIds X Y true) rfl (fun w1 hw => anc_sl w1 _ a a8 k k8 L (someIds X Y true) (someIds X Y true) hw.get hw.get (by omega) (by omega) hf hCC) ?_
  intro a9 k9
  repeat (first|refine Wa ?_|refine Wb ?_|refine Wc ?_|refine Wd ?_|refine We rfl ?_|refine Wf (by first|exact Va|exact Vb|exact Vc|exact Vd|exact Ve|exact Vf|exact Vg|exact Vh|exact Vi|exact Vj|exact Vk (by omega)|exact Vl|exact Vm|exact Vn|exact Vo|exact Vp|exact Vq|exact Vr|exact Vs (by omega)|exact Vt (by omega)|exact Vu (by omega)|exact Vv (by omega)|exact Vw|exact Vx|exact Vy|exact Vz|exact VA|exact VB|exact VC|exact VD|exact VE|exact VF) rfl ?_|(refine Wg rfl ?_; intro _)|(refine Wh rfl ?_; intro _)|refine Wi ?_|refine Wj ?_|refine Wk ?_|refine Wl ?_|refine Wm ?_|refine Wn ?_|refine Wo ?_|refine Wp ?_|refine Wq rfl ?_|refine Wr ?_|refine Ws ?_|refine Wt ?_|refine Wu ?_|refine Wv rfl rfl ?_|(refine Ww rfl ⟨rfl, by decide, by decide, by decide⟩ ?_; intro _))
  refine JR.callV rfl (fun w1 hw => sameIds_ref w1 _ a9 a8 k9 k8 (someIds X Y true) (someIds X Y true) hw.get hw.get) ?_
  refine JO.reslot 75 (.bool true) (by simp) ?_
  repeat (first|refine Wa ?_|refine Wb ?_|refine Wc ?_|refine Wd ?_|refine We rfl ?_|refine Wf (by first|exact Va|exact Vb|exact Vc|exact Vd|exact Ve|exact Vf|exact Vg|exact Vh|exact Vi|exact Vj|exact Vk (by omega)|exact Vl|exact Vm|exact Vn|exact Vo|exact Vp|exact Vq|exact Vr|exact Vs (by omega)|exact Vt (by omega)|exact Vu (by omega)|exact Vv (by omega)|exact Vw|exact Vx|exact Vy|exact Vz|exact VA|exact VB|exact VC|exact VD|exact VE|exact VF) rfl ?_|(refine Wg rfl ?_; intro _)|(refine Wh rfl ?_; intro _)|refine Wi ?_|refine Wj ?_|refine Wk ?_|refine Wl ?_|refine Wm ?_|refine Wn ?_|refine Wo ?_|refine Wp ?_|refine Wq rfl ?_|refine Wr ?_|refine Ws ?_|refine Wt ?_|refine Wu ?_|refine Wv rfl rfl ?_|(refine Ww rfl ⟨rfl, by decide, by decide, by decide⟩ ?_; intro _))
  refine JR.callV rfl (fun w1 hw => closed_yes w1 _ ap kp Pt hw.get (by omega) hPf hPc) ?_
  repeat (first|refine Wa ?_|refine Wb ?_|refine Wc ?_|refine Wd ?_|refine We rfl ?_|refine Wf (by first|exact Va|exact Vb|exact Vc|exact Vd|exact Ve|exact Vf|exact Vg|exact Vh|exact Vi|exact Vj|exact Vk (by omega)|exact Vl|exact Vm|exact Vn|exact Vo|exact Vp|exact Vq|exact Vr|exact Vs (by omega)|exact Vt (by omega)|exact Vu (by omega)|exact Vv (by omega)|exact Vw|exact Vx|exact Vy|exact Vz|exact VA|exact VB|exact VC|exact VD|exact VE|exact VF) rfl ?_|(refine Wg rfl ?_; intro _)|(refine Wh rfl ?_; intro _)|refine Wi ?_|refine Wj ?_|refine Wk ?_|refine Wl ?_|refine Wm ?_|refine Wn ?_|refine Wo ?_|refine Wp ?_|refine Wq rfl ?_|refine Wr ?_|refine Ws ?_|refine Wt ?_|refine Wu ?_|refine Wv rfl rfl ?_|(refine Ww rfl ⟨rfl, by decide, by decide, by decide⟩ ?_; intro _)|refine Wx rfl rfl ?_)
  refine JO.reslot 86 (.bool false) (by rw [hPl]; simp) ?_
  repeat (first|refine Wa ?_|refine Wb ?_|refine Wc ?_|refine Wd ?_|refine We rfl ?_|refine Wf (by first|exact Va|exact Vb|exact Vc|exact Vd|exact Ve|exact Vf|exact Vg|exact Vh|exact Vi|exact Vj|exact Vk (by omega)|exact Vl|exact Vm|exact Vn|exact Vo|exact Vp|exact Vq|exact Vr|exact Vs (by omega)|exact Vt (by omega)|exact Vu (by omega)|exact Vv (by omega)|exact Vw|exact Vx|exact Vy|exact Vz|exact VA|exact VB|exact VC|exact VD|exact VE|exact VF) rfl ?_|(refine Wg rfl ?_; intro _)|(refine Wh rfl ?_; intro _)|refine Wi ?_|refine Wj ?_|refine Wk ?_|refine Wl ?_|refine Wm ?_|refine Wn ?_|refine Wo ?_|refine Wp ?_|refine Wq rfl ?_|refine Wr ?_|refine Ws ?_|refine Wt ?_|refine Wu ?_|refine Wv rfl rfl ?_|(refine Ww rfl ⟨rfl, by decide, by decide, by decide⟩ ?_; intro _)|refine Wx rfl rfl ?_)
  refine JC.loop1 (fun (j : Nat) => [(0, .slice a L.length k), (1, .slice b A.length m), (9, .slice ax X.length kx), (16, .int .i64 (j : Int))]) (fun j => [.st (sl a k L), .st (sl b m A), .st (sl ax kx X)]) (fun j => j ≤ A.length) (fun j => A.length - j) 0 (Nat.zero_le _) inferInstance ?_
  intro j hj
  repeat (first|refine Wa ?_|refine Wb ?_|refine Wc ?_|refine Wd ?_|refine We rfl ?_|refine Wf (by first|exact Va|exact Vb|exact Vc|exact Vd|exact Ve|exact Vf|exact Vg|exact Vh|exact Vi|exact Vj|exact Vk (by omega)|exact Vl|exact Vm|exact Vn|exact Vo|exact Vp|exact Vq|exact Vr|exact Vs (by omega)|exact Vt (by omega)|exact Vu (by omega)|exact Vv (by omega)|exact Vw|exact Vx|exact Vy|exact Vz|exact VA|exact VB|exact VC|exact VD|exact VE|exact VF) rfl ?_|(refine Wg rfl ?_; intro _)|(refine Wh rfl ?_; intro _)|refine Wi ?_|refine Wj ?_|refine Wk ?_|refine Wl ?_|refine Wm ?_|refine Wn ?_|refine Wo ?_|refine Wp ?_|refine Wq rfl ?_|refine Wr ?_|refine Ws ?_|refine Wt ?_|refine Wu ?_|refine Wv rfl rfl ?_|(refine Ww rfl ⟨rfl, by decide, by decide, by decide⟩ ?_; intro _))
  refine JC.test (fun hlt => ?_) (fun hge => ?_)
  · have hjl : j < A.length := by omega
    have hjA := List.getElem_mem hjl
    by_cases hin : A[j] ∈ cids L
    · have hX1 : A[j] ∈ X := (hX.mem hc _).2 ⟨hin, .inl hjA⟩
      obtain ⟨c, hcm, hce⟩ := mem_cids.1 hin
      obtain ⟨x, hx, rfl⟩ := List.getElem_of_mem hcm
      repeat (first|refine Wa ?_|refine Wb ?_|refine Wc ?_|refine Wd ?_|refine We rfl ?_|refine Wf (by first|exact Va|exact Vb|exact Vc|exact Vd|exact Ve|exact Vf|exact Vg|exact Vh|exact Vi|exact Vj|exact Vk (by omega)|exact Vl|exact Vm|exact Vn|exact Vo|exact Vp|exact Vq|exact Vr|exact Vs (by omega)|exact Vt (by omega)|exact Vu (by omega)|exact Vv (by omega)|exact Vw|exact Vx|exact Vy|exact Vz|exact VA|exact VB|exact VC|exact VD|exact VE|exact VF) rfl ?_|(refine Wg rfl ?_; intro _)|(refine Wh rfl ?_; intro _)|refine Wi ?_|refine Wj ?_|refine Wk ?_|refine Wl ?_|refine Wm ?_|refine Wn ?_|refine Wo ?_|refine Wp ?_|refine Wq rfl ?_|refine Wr ?_|refine Ws ?_|refine Wt ?_|refine Wu ?_|refine Wv rfl rfl ?_|(refine Ww rfl ⟨rfl, by decide, by decide, by decide⟩ ?_; intro _))
      refine JR.indexID (L := A) rfl hjl ?_
      intro b3 o3
      rw [← hce]
      repeat (first|refine Wa ?_|refine Wb ?_|refine Wc ?_|refine Wd ?_|refine We rfl ?_|refine Wf (by first|exact Va|exact Vb|exact Vc|exact Vd|exact Ve|exact Vf|exact Vg|exact Vh|exact Vi|exact Vj|exact Vk (by omega)|exact Vl|exact Vm|exact Vn|exact Vo|exact Vp|exact Vq|exact Vr|exact Vs (by omega)|exact Vt (by omega)|exact Vu (by omega)|exact Vv (by omega)|exact Vw|exact Vx|exact Vy|exact Vz|exact VA|exact VB|exact VC|exact VD|exact VE|exact VF) rfl ?_|(refine Wg rfl ?_; intro _)|(refine Wh rfl ?_; intro _)|refine Wi ?_|refine Wj ?_|refine Wk ?_|refine Wl ?_|refine Wm ?_|refine Wn ?_|refine Wo ?_|refine Wp ?_|refine Wq rfl ?_|refine Wr ?_|refine Ws ?_|refine Wt ?_|refine Wu ?_|refine Wv rfl rfl ?_|(refine Ww rfl ⟨rfl, by decide, by decide, by decide⟩ ?_; intro _))
      refine JR.call1 (v := fun y : Option Addr × Nat => .tuple ⟨[commitV L[x] y.1 y.2, .bool true]⟩) (B := fun y => .st (sl y.1 y.2 L[x].parents)) rfl (fun w1 hw => by have := find_dag w1 _ a k L (idC L[x]) hw.get hf; rwa [find_at hc x hx] at this) ?_
      rintro ⟨p2, q2⟩
      dsimp only
      repeat (first|refine Wa ?_|refine Wb ?_|refine Wc ?_|refine Wd ?_|refine We rfl ?_|refine Wf (by first|exact Va|exact Vb|exact Vc|exact Vd|exact Ve|exact Vf|exact Vg|exact Vh|exact Vi|exact Vj|exact Vk (by omega)|exact Vl|exact Vm|exact Vn|exact Vo|exact Vp|exact Vq|exact Vr|exact Vs (by omega)|exact Vt (by omega)|exact Vu (by omega)|exact Vv (by omega)|exact Vw|exact Vx|exact Vy|exact Vz|exact VA|exact VB|exact VC|exact VD|exact VE|exact VF) rfl ?_|(refine Wg rfl ?_; intro _)|(refine Wh rfl ?_; intro _)|refine Wi ?_|refine Wj ?_|refine Wk ?_|refine Wl ?_|refine Wm ?_|refine Wn ?_|refine Wo ?_|refine Wp ?_|refine Wq rfl ?_|refine Wr ?_|refine Ws ?_|refine Wt ?_|refine Wu ?_|refine Wv rfl rfl ?_|(refine Ww rfl ⟨rfl, by decide, by decide, by decide⟩ ?_; intro _))
      refine JR.indexID (L := A) rfl hjl ?_
      intro b4 o4
      rw [← hce]
      repeat (first|refine Wa ?_|refine Wb ?_|refine Wc ?_|refine Wd ?_|refine We rfl ?_|refine Wf (by first|exact Va|exact Vb|exact Vc|exact Vd|exact Ve|exact Vf|exact Vg|exact Vh|exact Vi|exact Vj|exact Vk (by omega)|exact Vl|exact Vm|exact Vn|exact Vo|exact Vp|exact Vq|exact Vr|exact Vs (by omega)|exact Vt (by omega)|exact Vu (by omega)|exact Vv (by omega)|exact Vw|exact Vx|exact Vy|exact Vz|exact VA|exact VB|exact VC|exact VD|exact VE|exact VF) rfl ?_|(refine Wg rfl ?_; intro _)|(refine Wh rfl ?_; intro _)|refine Wi ?_|refine Wj ?_|refine Wk ?_|refine Wl ?_|refine Wm ?_|refine Wn ?_|refine Wo ?_|refine Wp ?_|refine Wq rfl ?_|refine Wr ?_|refine Ws ?_|refine Wt ?_|refine Wu ?_|refine Wv rfl rfl ?_|(refine Ww rfl ⟨rfl, by decide, by decide, by decide⟩ ?_; intro _))
      refine JR.callV rfl (fun w1 hw => has_ids w1 _ ax kx X (idC L[x]) hw.get) ?_
      refine JO.reslot 119 (.bool true) (by congr 1; rw [hce]; exact decide_eq_true hX1) ?_
      repeat (first|refine Wa ?_|refine Wb ?_|refine Wc ?_|refine Wd ?_|refine We rfl ?_|refine Wf (by first|exact Va|exact Vb|exact Vc|exact Vd|exact Ve|exact Vf|exact Vg|exact Vh|exact Vi|exact Vj|exact Vk (by omega)|exact Vl|exact Vm|exact Vn|exact Vo|exact Vp|exact Vq|exact Vr|exact Vs (by omega)|exact Vt (by omega)|exact Vu (by omega)|exact Vv (by omega)|exact Vw|exact Vx|exact Vy|exact Vz|exact VA|exact VB|exact VC|exact VD|exact VE|exact VF) rfl ?_|(refine Wg rfl ?_; intro _)|(refine Wh rfl ?_; intro _)|refine Wi ?_|refine Wj ?_|refine Wk ?_|refine Wl ?_|refine Wm ?_|refine Wn ?_|refine Wo ?_|refine Wp ?_|refine Wq rfl ?_|refine Wr ?_|refine Ws ?_|refine Wt ?_|refine Wu ?_|refine Wv rfl rfl ?_|(refine Ww rfl ⟨rfl, by decide, by decide, by decide⟩ ?_; intro _)|refine Wx rfl rfl ?_)
      exact ⟨j + 1, by omega, by omega, inferInstance⟩
    · have hX1 : A[j] ∉ X := fun h => hin (hX.ids hc h)
      repeat (first|refine Wa ?_|refine Wb ?_|refine Wc ?_|refine Wd ?_|refine We rfl ?_|refine Wf (by first|exact Va|exact Vb|exact Vc|exact Vd|exact Ve|exact Vf|exact Vg|exact Vh|exact Vi|exact Vj|exact Vk (by omega)|exact Vl|exact Vm|exact Vn|exact Vo|exact Vp|exact Vq|exact Vr|exact Vs (by omega)|exact Vt (by omega)|exact Vu (by omega)|exact Vv (by omega)|exact Vw|exact Vx|exact Vy|exact Vz|exact VA|exact VB|exact VC|exact VD|exact VE|exact VF) rfl ?_|(refine Wg rfl ?_; intro _)|(refine Wh rfl ?_; intro _)|refine Wi ?_|refine Wj ?_|refine Wk ?_|refine Wl ?_|refine Wm ?_|refine Wn ?_|refine Wo ?_|refine Wp ?_|refine Wq rfl ?_|refine Wr ?_|refine Ws ?_|refine Wt ?_|refine Wu ?_|refine Wv rfl rfl ?_|(refine Ww rfl ⟨rfl, by decide, by decide, by decide⟩ ?_; intro _))
      refine JR.indexID (L := A) rfl hjl ?_
      intro b3 o3
      repeat (first|refine Wa ?_|refine Wb ?_|refine Wc ?_|refine Wd ?_|refine We rfl ?_|refine Wf (by first|exact Va|exact Vb|exact Vc|exact Vd|exact Ve|exact Vf|exact Vg|exact Vh|exact Vi|exact Vj|exact Vk (by omega)|exact Vl|exact Vm|exact Vn|exact Vo|exact Vp|exact Vq|exact Vr|exact Vs (by omega)|exact Vt (by omega)|exact Vu (by omega)|exact Vv (by omega)|exact Vw|exact Vx|exact Vy|exact Vz|exact VA|exact VB|exact VC|exact VD|exact VE|exact VF) rfl ?_|(refine Wg rfl ?_; intro _)|(refine Wh rfl ?_; intro _)|refine Wi ?_|refine Wj ?_|refine Wk ?_|refine Wl ?_|refine Wm ?_|refine Wn ?_|refine Wo ?_|refine Wp ?_|refine Wq rfl ?_|refine Wr ?_|refine Ws ?_|refine Wt ?_|refine Wu ?_|refine Wv rfl rfl ?_|(refine Ww rfl ⟨rfl, by decide, by decide, by decide⟩ ?_; intro _))
      refine JR.call1 (v := fun y : Option Addr × Nat => .tuple ⟨[commitV commit0 y.1 y.2, .bool false]⟩) (B := fun y => .st (sl y.1 y.2 commit0.parents)) rfl (fun w1 hw => by have := find_dag w1 _ a k L A[j] hw.get hf; rwa [find_out hc hin] at this) ?_
      rintro ⟨p2, q2⟩
      dsimp only
      repeat (first|refine Wa ?_|refine Wb ?_|refine Wc ?_|refine Wd ?_|refine We rfl ?_|refine Wf (by first|exact Va|exact Vb|exact Vc|exact Vd|exact Ve|exact Vf|exact Vg|exact Vh|exact Vi|exact Vj|exact Vk (by omega)|exact Vl|exact Vm|exact Vn|exact Vo|exact Vp|exact Vq|exact Vr|exact Vs (by omega)|exact Vt (by omega)|exact Vu (by omega)|exact Vv (by omega)|exact Vw|exact Vx|exact Vy|exact Vz|exact VA|exact VB|exact VC|exact VD|exact VE|exact VF) rfl ?_|(refine Wg rfl ?_; intro _)|(refine Wh rfl ?_; intro _)|refine Wi ?_|refine Wj ?_|refine Wk ?_|refine Wl ?_|refine Wm ?_|refine Wn ?_|refine Wo ?_|refine Wp ?_|refine Wq rfl ?_|refine Wr ?_|refine Ws ?_|refine Wt ?_|refine Wu ?_|refine Wv rfl rfl ?_|(refine Ww rfl ⟨rfl, by decide, by decide, by decide⟩ ?_; intro _))
      refine JR.indexID (L := A) rfl hjl ?_
      intro b4 o4
      repeat (first|refine Wa ?_|refine Wb ?_|refine Wc ?_|refine Wd ?_|refine We rfl ?_|refine Wf (by first|exact Va|exact Vb|exact Vc|exact Vd|exact Ve|exact Vf|exact Vg|exact Vh|exact Vi|exact Vj|exact Vk (by omega)|exact Vl|exact Vm|exact Vn|exact Vo|exact Vp|exact Vq|exact Vr|exact Vs (by omega)|exact Vt (by omega)|exact Vu (by omega)|exact Vv (by omega)|exact Vw|exact Vx|exact Vy|exact Vz|exact VA|exact VB|exact VC|exact VD|exact VE|exact VF) rfl ?_|(refine Wg rfl ?_; intro _)|(refine Wh rfl ?_; intro _)|refine Wi ?_|refine Wj ?_|refine Wk ?_|refine Wl ?_|refine Wm ?_|refine Wn ?_|refine Wo ?_|refine Wp ?_|refine Wq rfl ?_|refine Wr ?_|refine Ws ?_|refine Wt ?_|refine Wu ?_|refine Wv rfl rfl ?_|(refine Ww rfl ⟨rfl, by decide, by decide, by decide⟩ ?_; intro _))
      refine JR.callV rfl (fun w1 hw => has_ids w1 _ ax kx X A[j] hw.get) ?_
      refine JO.reslot 119 (.bool false) (by congr 1; exact decide_eq_false hX1) ?_
      repeat (first|refine Wa ?_|refine Wb ?_|refine Wc ?_|refine Wd ?_|refine We rfl ?_|refine Wf (by first|exact Va|exact Vb|exact Vc|exact Vd|exact Ve|exact Vf|exact Vg|exact Vh|exact Vi|exact Vj|exact Vk (by omega)|exact Vl|exact Vm|exact Vn|exact Vo|exact Vp|exact Vq|exact Vr|exact Vs (by omega)|exact Vt (by omega)|exact Vu (by omega)|exact Vv (by omega)|exact Vw|exact Vx|exact Vy|exact Vz|exact VA|exact VB|exact VC|exact VD|exact VE|exact VF) rfl ?_|(refine Wg rfl ?_; intro _)|(refine Wh rfl ?_; intro _)|refine Wi ?_|refine Wj ?_|refine Wk ?_|refine Wl ?_|refine Wm ?_|refine Wn ?_|refine Wo ?_|refine Wp ?_|refine Wq rfl ?_|refine Wr ?_|refine Ws ?_|refine Wt ?_|refine Wu ?_|refine Wv rfl rfl ?_|(refine Ww rfl ⟨rfl, by decide, by decide, by decide⟩ ?_; intro _)|refine Wx rfl rfl ?_)
      exact ⟨j + 1, by omega, by omega, inferInstance⟩
  · repeat (first|refine Wa ?_|refine Wb ?_|refine Wc ?_|refine Wd ?_|refine We rfl ?_|refine Wf (by first|exact Va|exact Vb|exact Vc|exact Vd|exact Ve|exact Vf|exact Vg|exact Vh|exact Vi|exact Vj|exact Vk (by omega)|exact Vl|exact Vm|exact Vn|exact Vo|exact Vp|exact Vq|exact Vr|exact Vs (by omega)|exact Vt (by omega)|exact Vu (by omega)|exact Vv (by omega)|exact Vw|exact Vx|exact Vy|exact Vz|exact VA|exact VB|exact VC|exact VD|exact VE|exact VF) rfl ?_|(refine Wg rfl ?_; intro _)|(refine Wh rfl ?_; intro _)|refine Wi ?_|refine Wj ?_|refine Wk ?_|refine Wl ?_|refine Wm ?_|refine Wn ?_|refine Wo ?_|refine Wp ?_|refine Wq rfl ?_|refine Wr ?_|refine Ws ?_|refine Wt ?_|refine Wu ?_|refine Wv rfl rfl ?_|(refine Ww rfl ⟨rfl, by decide, by decide, by decide⟩ ?_; intro _))
    exact CT.done () rfl (fun w ho => ho.ent)
end Ab
end Go.Proofs.YtcmfemfndadfmaaGreat

/- Arguments that read as data, told as the layer tells memory. -/
namespace Go.Proofs.YtcmfemfndadfmaaGreat
namespace Ab
open Go Go.RowKit
set_option linter.unusedVariables false
set_option linter.unusedSimpArgs false

/-- Cells of type t that read as data are those of some element. -/
structure OpenT (P : Program) (α : Type) [Cell α] (t : TypeId) : Prop where
  ok : ∀ {H : Type} {enc : TypeId × Value → H} {w : World} {sp : Nat → Bool} {held : Bool} {fuel : Nat} {cs : List Value} {x : DataW H × List MemPlace},
    DataW.trod enc P w 0 sp held fuel t cs = some x → (∀ n ∈ x.1.weights P t, n ≤ reachBytes) → ∃ (u : α) (y : Cell.Ix α), cs = Cell.cells u y ∧ ∀ A ∈ Cell.facts u y, A.holds (fun _ => True) w

theorem weightsAll_mem {H : Type} {P : Program} {e : TypeId} {d : DataW H} {n : Nat} (hn : n ∈ d.weights P e) : ∀ {ds : List (DataW H)}, d ∈ ds → n ∈ DataW.weightsAll P e ds
  | [], h => by cases h
  | d' :: ds, h => by
    simp only [DataW.weightsAll, List.mem_append]
    rcases List.mem_cons.1 h with rfl | h
    · exact .inl hn
    · exact .inr (weightsAll_mem hn h)

theorem add_zero_addr (a : Addr) : (a.add 0).add 0 = a := by simp [Addr.add]
theorem cells_get {w : World} {a : Addr} {n : Nat} {ci : List Value} (h : w.cells? 0 a n = some ci) (j : Nat) (v : Value) (hv : ci[j]? = some v) : w.cell? (a.add j) = some v := by
  unfold World.cells? at h
  rw [if_pos (Nat.zero_le _)] at h
  have hl := mapM_some_length h
  have hj : j < n := by
    have := (List.getElem?_eq_some_iff.1 hv).1
    rw [hl, List.length_range] at this
    exact this
  have := mapM_some_get h j j (by simp [hj])
  rw [this, hv]

theorem OpenT.slice {P : Program} {α : Type} [Cell α] {t e : TypeId} (hO : OpenT P α e) (ht : P.underlying t = some (.slice e)) (hc : P.cellsOf e = Cell.sz α) (hb : 1 ≤ P.bytesOf e)
    {H : Type} {enc : TypeId × Value → H} {w : World} {sp : Nat → Bool} {held : Bool} {fuel : Nat} {cs : List Value} {x : DataW H × List MemPlace}
    (h : DataW.trod enc P w 0 sp held fuel t cs = some x) (hw : ∀ n ∈ x.1.weights P t, n ≤ reachBytes) :
    ∃ (a : Option Addr) (c : Nat) (L : List α), cs = [.slice a L.length c] ∧ (sl a c L).holds (fun _ => True) w := by
  rcases DataW.trod_slice ht h with ⟨rfl, rfl⟩ | ⟨a, len, cap, elems, rest, n, _, rfl, rfl, _, hlc, hcm, hlen, helems, _, _⟩
  · exact ⟨none, 0, [], rfl, sl_nil⟩
  · simp only [DataW.weights, ht] at hw
    have hw1 : len ≤ reachBytes := by
      have := hw _ (List.mem_cons_self ..)
      simp only [List.length_map] at this
      have h2 : (elems.length + rest.length) * 1 ≤ (elems.length + rest.length) * P.bytesOf e := Nat.mul_le_mul_left _ hb
      omega
    have key : ∀ i (hi : i < len), ∃ (u : α), ∃ (y : Cell.Ix α), (∀ j v, (Cell.cells u y)[j]? = some v → w.cell? ((a.add (i * Cell.sz α)).add j) = some v) ∧ ∀ A ∈ Cell.facts u y, A.holds (fun _ => True) w := by
      intro i hi
      have h1 := helems i hi
      have hi' : i < elems.length := by omega
      rw [List.getElem?_eq_getElem hi', hc] at h1
      obtain ⟨ci, hci, hd⟩ := Option.bind_eq_some_iff.1 h1
      obtain ⟨u, y, rfl, hf⟩ := hO.ok hd (fun n hn => hw n (List.mem_cons_of_mem _ (List.mem_append_left _ (weightsAll_mem hn (List.mem_map_of_mem (List.getElem_mem hi'))))))
      exact ⟨u, y, fun j v hv => cells_get hci j v hv, hf⟩
    obtain ⟨f, hf⟩ := Classical.axiomOfChoice (fun i : Fin len => key i.1 i.2)
    refine ⟨some a, cap, List.ofFn f, by simp, ?_⟩
    have hR : reachBytes = 140737488351232 := rfl
    refine ⟨by simpa using hlc, hcm, by simp only [List.length_ofFn, lim]; omega, fun hne => ?_⟩
    have h0 : 0 < len := by
      have := List.length_pos_iff.2 hne
      simpa using this
    obtain ⟨y0, hy0, _⟩ := hf ⟨0, h0⟩
    have hpos : 0 < (Cell.cells (f ⟨0, h0⟩) y0).length := by rw [Cell.len]; exact Cell.pos
    have hc0 := hy0 0 _ (List.getElem?_eq_getElem hpos)
    simp only [Nat.zero_mul, add_zero_addr] at hc0
    obtain ⟨b, off, spot⟩ := a
    have hspot : spot = none := by
      cases spot with
      | none => rfl
      | some s =>
        unfold World.cell? at hc0
        split at hc0
        · simp at hc0
        · cases hc0
    subst hspot
    refine ⟨b, off, rfl, trivial, ?_, fun i hi => ?_⟩
    · rcases Nat.lt_or_ge b w.heap.size with h | h
      · exact h
      · unfold World.cell? at hc0
        simp [Array.getElem?_eq_none h] at hc0
    · have hi' : i < len := by simpa using hi
      obtain ⟨y, hy, hfa⟩ := hf ⟨i, hi'⟩
      refine ⟨y, fun j v hv => ?_, fun A hA => ?_⟩
      · simp only [List.getElem_ofFn] at hv
        have := hy j v hv
        rw [Addr.add_mid, Addr.add_mid] at this
        exact this
      · simp only [List.getElem_ofFn] at hA
        exact hfa A hA

def byteOfV : Value → UInt8
  | .int _ n => UInt8.ofNat n.toNat
  | _ => 0
set_option maxRecDepth 100000 in
theorem open_id : OpenT Tryz.prog ID 48 := ⟨fun {H enc w sp held fuel cs x} h _ => by
  have hcell : Tryz.prog.cellsOf 5 = 1 := by kernel_rfl
  have hcell2 : Tryz.prog.cellsOf 48 = 32 := by kernel_rfl
  obtain ⟨xs, m, rfl, rfl, hl, hlx, hx⟩ := DataW.trod_array Tryz.underlying48 h
  rw [hcell2] at hl
  have key : ∀ i (hi : i < cs.length), cs[i] = byteV (byteOfV cs[i]) := by
    intro i hi
    have h1 := hx i (by omega)
    rw [hcell, Nat.mul_one, List.getElem?_eq_getElem (by omega)] at h1
    have h2 : (cs.drop i).take 1 = [cs[i]] := by
      rw [List.drop_eq_getElem_cons hi]; rfl
    rw [h2] at h1
    obtain ⟨n, hn, _, hw⟩ := DataW.trod_int Tryz.underlying5 h1
    injection hn with hn
    have hb : 0 ≤ n ∧ n ≤ 255 := by simpa [Lit.wf, IntKind.min, IntKind.max, IntKind.signed, IntKind.bits] using hw
    rw [hn]
    simp only [byteOfV, byteV, Value.int.injEq, true_and]
    rw [UInt8.toNat_ofNat']
    omega
  refine ⟨⟨cs.map byteOfV, by rw [List.length_map]; exact hl⟩, (), ?_, by simp [Cell.facts]⟩
  show cs = (cs.map byteOfV).map byteV
  apply List.ext_getElem
  · simp
  · intro i h1 h2
    simp only [List.getElem_map]
    exact key i h1⟩

set_option maxRecDepth 100000 in
theorem open_commit : OpenT Tryz.prog Commit 29 := ⟨fun {H enc w sp held fuel cs x} h hw => by
  have c24 : Tryz.prog.cellsOf 24 = 2 := by kernel_rfl
  have c27 : Tryz.prog.cellsOf 27 = 4 := by kernel_rfl
  have c29 : Tryz.prog.cellsOf 29 = 8 := by kernel_rfl
  have c25 : Tryz.prog.cellsOf 25 = 1 := by kernel_rfl
  have c3 : Tryz.prog.cellsOf 3 = 1 := by kernel_rfl
  have c9 : Tryz.prog.cellsOf 9 = 1 := by kernel_rfl
  obtain ⟨xs, m, rfl, rfl, hl, hlx, hx⟩ := DataW.trod_struct Tryz.underlying29 h
  rw [c29] at hl
  match cs, hl with
  | [v0, v1, v2, v3, v4, v5, v6, v7], _ =>
  match xs, hlx with
  | [x0, x1, x2, x3], _ =>
  have h0 := hx 0 _ rfl
  have h1 := hx 1 _ rfl
  have h2 := hx 2 _ rfl
  have h3 := hx 3 _ rfl
  simp only [List.getElem_toArray, List.getElem_cons_zero, List.getElem_cons_succ, c24, c3, c25, c27, List.drop_zero, List.drop_succ_cons, List.take_succ_cons, List.take_zero, List.getElem?_cons_zero, List.getElem?_cons_succ] at h0 h1 h2 h3
  obtain ⟨ys, m', rfl, rfl, _, hly, hy⟩ := DataW.trod_struct Tryz.underlying24 h0
  match ys, hly with
  | [y0, y1], _ =>
  have e0 := hy 0 _ rfl
  have e1 := hy 1 _ rfl
  simp only [List.getElem_toArray, List.getElem_cons_zero, List.getElem_cons_succ, c3, List.drop_zero, List.drop_succ_cons, List.take_succ_cons, List.take_zero, List.getElem?_cons_zero, List.getElem?_cons_succ] at e0 e1
  obtain ⟨n0, q0, _, _⟩ := DataW.trod_int Tryz.underlying3 e0
  obtain ⟨n1, q1, _, _⟩ := DataW.trod_int Tryz.underlying3 e1
  obtain ⟨n2, q2, _, _⟩ := DataW.trod_int Tryz.underlying3 h1
  obtain ⟨zs, m2, hm2, rfl, _, hlz, hz⟩ := DataW.trod_struct Tryz.underlying27 h3
  match zs, hlz with
  | [z0, z1, z2, z3], _ =>
  have g0 := hz 0 _ rfl
  have g1 := hz 1 _ rfl
  have g2 := hz 2 _ rfl
  have g3 := hz 3 _ rfl
  simp only [List.getElem_toArray, List.getElem_cons_zero, List.getElem_cons_succ, c3, c9, List.drop_zero, List.drop_succ_cons, List.take_succ_cons, List.take_zero, List.getElem?_cons_zero, List.getElem?_cons_succ] at g0 g1 g2 g3
  obtain ⟨k0, r0, _, _⟩ := DataW.trod_int Tryz.underlying3 g0
  obtain ⟨s1, r1, r1x, _⟩ := DataW.trod_string Tryz.underlying9 g1
  obtain ⟨s2, r2, r2x, _⟩ := DataW.trod_string Tryz.underlying9 g2
  obtain ⟨k3, r3, _, _⟩ := DataW.trod_int Tryz.underlying3 g3
  simp only [DataW.weights, Tryz.underlying29, List.map_cons, List.map_nil, DataW.weightsEach, List.append_nil, List.mem_append, List.map_toArray] at hw
  obtain ⟨pa, pc, L, q3, hsl⟩ := open_id.slice Tryz.underlying25 (by kernel_rfl) (by rw [show Tryz.prog.bytesOf 48 = 32 by kernel_rfl]; decide) h2 (fun n hn => hw n (by simp [hn]))
  injection q0 with q0
  injection q1 with q1
  injection q2 with q2
  injection q3 with q3
  injection r0 with r0
  injection r1 with r1
  injection r2 with r2
  injection r3 with r3
  subst q0 q1 q2 q3 r0 r1 r2 r3
  exact ⟨⟨⟨n0, n1⟩, n2, L, ⟨k0, s1, s2, k3⟩⟩, (pa, pc), rfl, fun A hA => by simp only [Cell.facts, List.mem_singleton] at hA; subst hA; exact hsl⟩⟩
end Ab
end Go.Proofs.YtcmfemfndadfmaaGreat

/- Arguments of the laws, opened. -/
namespace Go.Proofs.YtcmfemfndadfmaaGreat
open Go Go.ChangeShapes Go.WideShapes Go.ChangeAt Go.RowKit
set_option linter.unusedVariables false

theorem knobs : ownKnob Tryz.prog.godebug = none := by kernel_rfl
theorem laid : laidOutB Tryz.prog = true := by kernel_rfl

theorem arg_sl {P : Program} {H : Type} {enc : TypeId × Value → H} {W : World} {α : Type} [Ab.Cell α] {t e : TypeId} (hO : Ab.OpenT P α e) (ht : P.underlying t = some (.slice e)) (hc : P.cellsOf e = Ab.Cell.sz α) (hb : 1 ≤ P.bytesOf e)
    {r : Reach} {base : Nat} {v : Value} {d : DataW H} {p : List MemPlace} (hv : Value.okWide P W r base t v) (h : DataW.Trod enc P W 0 (fun _ => true) true t v d p) (hw : ∀ n ∈ d.weights P t, n ≤ reachBytes) :
    ∃ (a : Option Addr) (c : Nat) (L : List α), v = .slice a L.length c ∧ (Ab.sl a c L).holds (fun _ => True) W := by
  obtain ⟨a, len, cap, rfl⟩ := okWide_slice ht hv
  obtain ⟨fuel, hf⟩ := h
  obtain ⟨a', c', L, hcs, hsl⟩ := hO.slice ht hc hb hf hw
  simp [Value.cells] at hcs
  obtain ⟨rfl, rfl, rfl⟩ := hcs
  exact ⟨_, _, L, rfl, hsl⟩

theorem bytes_commit : Tryz.prog.bytesOf 29 = 96 := by kernel_rfl
theorem bytes_id : Tryz.prog.bytesOf 48 = 32 := by kernel_rfl
section
variable {H : Type} {enc : TypeId × Value → H} {W : World} {r : Reach} {base : Nat} {v : Value} {d : DataW H} {p : List MemPlace}
set_option maxRecDepth 100000 in
theorem arg_commits (hv : Value.okWide Tryz.prog W r base 22 v) (h : DataW.Trod enc Tryz.prog W 0 (fun _ => true) true 22 v d p) (hw : ∀ n ∈ d.weights Tryz.prog 22, n ≤ reachBytes) :
    ∃ (a : Option Addr) (c : Nat) (L : List Ab.Commit), v = .slice a L.length c ∧ (Ab.sl a c L).holds (fun _ => True) W :=
  arg_sl Ab.open_commit Tryz.underlying22 (by kernel_rfl) (by rw [bytes_commit]; decide) hv h hw
set_option maxRecDepth 100000 in
theorem arg_ids (hv : Value.okWide Tryz.prog W r base 25 v) (h : DataW.Trod enc Tryz.prog W 0 (fun _ => true) true 25 v d p) (hw : ∀ n ∈ d.weights Tryz.prog 25, n ≤ reachBytes) :
    ∃ (a : Option Addr) (c : Nat) (L : List Ab.ID), v = .slice a L.length c ∧ (Ab.sl a c L).holds (fun _ => True) W :=
  arg_sl Ab.open_id Tryz.underlying25 (by kernel_rfl) (by rw [bytes_id]; decide) hv h hw
end
end Go.Proofs.YtcmfemfndadfmaaGreat

/- The statement DagAncSaid: for every input DagAnc returns true and leaves its arguments as they were. -/
namespace Go.Proofs.YtcmfemfndadfmaaGreat
open Go Go.ChangeShapes Go.WideShapes Go.ChangeAt Go.RowKit
set_option linter.unusedVariables false

set_option maxRecDepth 100000 in
theorem dagAnc_contract (H : Type) (enc : TypeId × Value → H) (W : World) (base : Nat) (args : Array Value) (ds gs : List (DataW H)) (before : List MemPlace)
    (hval : ∀ (j : Nat) t v, Tryz.f8.params[j]? = some t → args[j]? = some v → Value.okWide Tryz.prog W .any base t v)
    (hW : DataW.Whole enc Tryz.prog Tryz.f8.params.toList Rows.dagAncSpec.vars false W args.toList ds gs before)
    (hsz : (DataW.weightsEach Tryz.prog (Tryz.f8.params.toList ++ Rows.dagAncSpec.plain.varTypes Tryz.prog) (ds ++ gs)).all (· ≤ reachBytes) = true) :
    Calls Tryz.prog 8 args W fun e W' => ∃ v, e = .returned v ∧ Rows.dagAncSpec.post enc Tryz.prog Tryz.f8 false true false false W args v W' := by
  have hW' := hW
  obtain ⟨p, q, hA0, hV, rfl, _, _⟩ := hW
  have hA : DataW.TrodAll enc Tryz.prog W 0 (fun _ => true) true Tryz.f8.params.toList args.toList ds p := hA0
  rw [Tryz.params8] at hA hval hsz
  obtain ⟨v0, v1, v2, d0, d1, d2, p0, p1, p2, rfl, rfl, rfl, h0, h1, h2⟩ := trodAll_three hA
  obtain ⟨rfl, rfl⟩ := trodVars_none hV
  have hall := List.all_eq_true.1 hsz
  have w0 : ∀ n ∈ d0.weights Tryz.prog 22, n ≤ reachBytes := fun n hn => by simpa using hall n (DataW.weights_mem_each (j := 0) rfl rfl n hn)
  have w1 : ∀ n ∈ d1.weights Tryz.prog 25, n ≤ reachBytes := fun n hn => by simpa using hall n (DataW.weights_mem_each (j := 1) rfl rfl n hn)
  have w2 : ∀ n ∈ d2.weights Tryz.prog 25, n ≤ reachBytes := fun n hn => by simpa using hall n (DataW.weights_mem_each (j := 2) rfl rfl n hn)
  obtain ⟨a0, k0, x0, rfl, s0⟩ := arg_commits (hval 0 _ v0 rfl rfl) h0 w0
  obtain ⟨a1, k1, x1, rfl, s1⟩ := arg_ids (hval 1 _ v1 rfl rfl) h1 w1
  obtain ⟨a2, k2, x2, rfl, s2⟩ := arg_ids (hval 2 _ v2 rfl rfl) h2 w2
  clear hA0
  simp only [List.append_nil] at hW'
  have hlt : ∀ x ∈ p0 ++ p1 ++ p2, x.block < W.heap.size := fun x hx => by simpa using hW'.lt x (by simpa using hx)
  refine Calls.mono (Ab.law_anc W (fun _ => True) a0 a1 a2 k0 k1 k2 x0 x1 x2 s0 s1 s2) ?_
  rintro e W' ⟨y, he, hbel, _⟩
  subst he
  have hB := hbel.below
  refine ⟨_, rfl, _, _, _, [], _, [], hW', ?_, trodAll_mk3 (Below.trod laid (by kernel_rfl) (of_decide_eq_true (by kernel_rfl)) h0 hB (fun x hx => hlt x (List.mem_append_left _ (List.mem_append_left _ hx)))) (Below.trod laid (by kernel_rfl) (of_decide_eq_true (by kernel_rfl)) h1 hB (fun x hx => hlt x (List.mem_append_left _ (List.mem_append_right _ hx)))) (Below.trod laid (by kernel_rfl) (of_decide_eq_true (by kernel_rfl)) h2 hB (fun x hx => hlt x (List.mem_append_right _ hx))), rfl, hB.frame _, fun h => by cases h⟩
  exact trodAll_cons_mk (shut_bool Tryz.underlying4 _) trodAll_mk0

set_option maxRecDepth 100000 in
theorem dagAnc_lifted (os : Os) (started : os.Started) (H : Type) (enc : TypeId × Value → H) :
    ReturnsInHanded {} Tryz.checked os 8 .any (Rows.dagAncSpec.pre6 enc Tryz.prog Tryz.f8 Rows.dagAncRow.domain false) (Rows.dagAncSpec.post enc Tryz.prog Tryz.f8 false true false false) := by
  refine returnsInHanded_of_change_sized (C := Tryz.checked) knobs started (by kernel_rfl) Tryz.func8
    (ChangeSpec.witness6 (enc := enc) (C := Tryz.checked) false ⟨#[], #[.slice none 0 0, .slice none 0 0, .slice none 0 0], []⟩ 8 (by kernel_rfl) (by kernel_rfl) (by kernel_rfl) (by kernel_rfl)) ?_
  intro W base args ds gs before hval hW _ hsz _
  exact dagAnc_contract H enc W base args ds gs before hval hW hsz

theorem dagAnc_holds : Rows.DagAncSaid :=
  OpenClaim.holds_of_wide 8 Tryz.f8 rfl rfl rfl rfl rfl rfl rfl ⟨rfl, rfl, rfl, rfl, rfl⟩ rfl rfl rfl rfl rfl (by kernel_rfl) Tryz.func8 (by kernel_rfl)
    (of_decide_eq_true (by kernel_rfl)) (by unfold Func.isWrapper; first | (rw [if_pos (by decide +kernel)]; kernel_rfl) | (rw [if_neg (by decide +kernel)]; exact ⟨rfl, rfl⟩))
    (fun os started H enc _ => dagAnc_lifted os started H enc)
end Go.Proofs.YtcmfemfndadfmaaGreat
