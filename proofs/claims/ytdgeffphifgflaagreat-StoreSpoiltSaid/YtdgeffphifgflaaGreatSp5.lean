/- Lemmas for the walks, part 5 of 5: StB, StC, StD, LsA, LsB, LsD, Poke, LsE, Entry, Shut, FrB, NdP, ShutN. -/
import Derived.Test.YtdgeffphifgflaaGreatSp4
import Derived.Test.YtdgeffphifgflaaGreatSp2
import Derived.Test.YtdgeffphifgflaaGreatSp1
import Derived.SizedLaws
import Derived.ChangeArms
import Derived.KernelRfl
import Derived.OpenShut
import Derived.Test.YtdgeffphifgflaaGreatRows
import Derived.ProofKit
import Derived.Carry
/- Disks of commits: plain words; contract: law15's Disk. -/
namespace Go.Proofs.YtdgeffphifgflaaGreat
namespace Ab
open Go Go.RowKit
set_option linter.unusedVariables false
set_option linter.unusedSimpArgs false
set_option synthInstance.maxSize 4000
set_option synthInstance.maxHeartbeats 400000
attribute [local irreducible] JC JO JR JQ andThen inBlock OpV Gives retTo JM JS

attribute [local irreducible] hashC
def diskL (l : List Commit) : List UInt8 := framesL (l.map commitPut)
def endsL (l : List Commit) : List Int := (List.range l.length).map fun i => ((diskL (l.take (i + 1))).length : Int)
theorem diskL_next {l : List Commit} {i : Nat} (h : i < l.length) : diskL (l.take (i + 1)) = diskL (l.take i) ++ frameL (commitPut l[i]) := by
  unfold diskL
  rw [List.take_succ_eq_append_getElem h, List.map_append, framesL_append]
  simp [framesL]
theorem diskL_le {l : List Commit} (h : ∀ c ∈ l, may c = true) : (diskL l).length ≤ 414 * l.length := by
  induction l with
  | nil => simp [diskL, framesL]
  | cons c l ih =>
    have h1 := commitPut_length (h c (by simp))
    have h2 := ih fun d hd => h d (by simp [hd])
    have h3 := numL_length (commitPut c).length
    have e : diskL (c :: l) = frameL (commitPut c) ++ diskL l := by simp [diskL, framesL]
    rw [e, List.length_append, frameL_length, List.length_cons]
    omega
theorem endsL_next {l : List Commit} {i : Nat} (h : i < l.length) : endsL (l.take (i + 1)) = endsL (l.take i) ++ [((diskL (l.take (i + 1))).length : Int)] := by
  have h1 : (l.take (i + 1)).length = i + 1 := by rw [List.length_take]; omega
  have h2 : (l.take i).length = i := by rw [List.length_take]; omega
  unfold endsL
  rw [h1, h2, List.range_succ, List.map_append]
  congr 1
  · refine List.map_congr_left fun j hj => ?_
    rw [List.mem_range] at hj
    rw [List.take_take, List.take_take, Nat.min_eq_left (by omega), Nat.min_eq_left (by omega)]
  · simp [List.take_take]
theorem endsL_length (l : List Commit) : (endsL l).length = l.length := by simp [endsL]
theorem storeT_next {l : List Commit} {i : Nat} (h : i < l.length) (hm : ∀ c ∈ l, may c = true) (hl : l.length ≤ 1000) : storeT (diskL (l.take i)) 1048576 l[i] = (diskL (l.take (i + 1)), 0) := by
  have hc := hm l[i] (List.getElem_mem h)
  have h1 := commitPut_length hc
  have h2 := diskL_le (l := l.take (i + 1)) fun d hd => hm d (List.mem_of_mem_take hd)
  have hp : putCommit l[i] = (commitPut l[i], 0) := by unfold putCommit; rw [hc]; rfl
  have h3 : (l.take (i + 1)).length = i + 1 := by rw [List.length_take]; omega
  rw [diskL_next h, List.length_append] at h2
  unfold storeT
  rw [hp]
  dsimp only
  rw [if_pos rfl]
  unfold writeT
  rw [if_neg (by omega), if_neg (by omega), diskL_next h]
set_option maxHeartbeats 2000000 in
theorem disk_law (w : World) (F : Nat → Prop) (a : Option Addr) (c : Nat) (l : List Commit) (h : (sl a c l).holds F w) (hm : ∀ x ∈ l, may x = true) (ht : ∀ x ∈ l, fine x) (hl : l.length ≤ 1000) :
    Gives Tryz.prog 27 [.slice a l.length c] w F (fun y : (Option Addr × Nat) × (Option Addr × Nat) => .tuple ⟨[.slice y.1.1 (diskL l).length y.1.2, .slice y.2.1 (endsL l).length y.2.2, .bool true]⟩)
      (fun y => [.res (buf y.1.1 y.1.2 5 (diskL l)), .st (sl y.2.1 y.2.2 (endsL l))]) := by
  refine gives_of Tryz.func27 rfl Tryz.ntmps27 rfl rfl [.st (sl a c l)] (.start1 h) ?_
  repeat (first|refine Wa ?_|refine Wb ?_|refine Wc ?_|refine Wd ?_|refine We rfl ?_|refine Wf (by exact Vb) rfl ?_|refine Wn ?_)
  refine JC.more (Γ' := .res (buf (α := UInt8) none 0 5 []) :: .res (buf (α := Int) none 0 3 []) :: [.st (sl a c l)]) (fun w ho => ((ho.bufNil : Hold _ _ (.res (buf (α := Int) none 0 3 []) :: [.st (sl a c l)]) w).bufNil)) ?_
  refine JC.loop3 (fun (i : Nat) (p q : Option Addr × Nat) => [(0, .slice a l.length c), (5, .slice p.1 (diskL (l.take i)).length p.2), (6, .slice q.1 (endsL (l.take i)).length q.2), (7, .int .i64 (i : Int))])
    (fun i p q => [.st (sl a c l), .res (buf p.1 p.2 5 (diskL (l.take i))), .res (buf q.1 q.2 3 (endsL (l.take i)))]) (fun i _ _ => i ≤ l.length) (fun i _ _ => l.length - i) 0 (none, 0) (none, 0) (Nat.zero_le _)
    (show Ent _ _ [(0, .slice a l.length c), (5, .slice none 0 0), (6, .slice none 0 0), (7, .int .i64 0)] [.st (sl a c l), .res (buf (α := UInt8) none 0 5 []), .res (buf (α := Int) none 0 3 [])] from inferInstance) ?_
  rintro i ⟨p, pq⟩ ⟨q, qq⟩ hi
  dsimp only
  repeat (first|refine Wa ?_|refine Wb ?_|refine Wc ?_|refine Wd ?_|refine We rfl ?_|refine Wf (by first|exact Va|exact Vf|exact Vg) rfl ?_)
  refine JC.test (fun h1 => ?_) (fun h1 => ?_)
  · have hlt : i < l.length := by omega
    have hdl := diskL_le (l := l.take i) fun d hd => hm d (List.mem_of_mem_take hd)
    have hti : (l.take i).length = i := by rw [List.length_take]; omega
    have hst := storeT_next hlt hm hl
    repeat (first|refine Wa ?_|refine Wb ?_|refine Wc ?_|refine We rfl ?_|refine Wf (by exact Va) rfl ?_|refine Wl ?_|refine Wn ?_)
    refine JR.indexCommit (k := i) rfl hlt ?_
    intro b5 o5 p5 q5
    repeat (first|refine We rfl ?_|refine Wf (by exact Vc) rfl ?_)
    refine JR.more (Γ' := .st (sl p pq (diskL (l.take i))) :: .st (sl p5 q5 l[i].parents) :: [.st (sl a c l), .res (buf q qq 3 (endsL (l.take i)))]) (fun w ho => (ho.ent : Hold _ _ (.res (buf p pq 5 (diskL (l.take i))) :: .st (sl p5 q5 l[i].parents) :: [.st (sl a c l), .res (buf q qq 3 (endsL (l.take i)))]) w).pub) ?_
    refine JR.call1 (B := fun y : Option Addr × Nat => .res (buf y.1 y.2 5 (storeT (diskL (l.take i)) 1048576 l[i]).1)) rfl (fun w1 hw => put_store w1 _ p p5 pq q5 (diskL (l.take i)) 1048576 l[i] (hw.get (A := sl p pq (diskL (l.take i)))) (hw.get (A := sl p5 q5 l[i].parents)) (ht l[i] (List.getElem_mem hlt)).1 (by omega)) ?_
    rintro ⟨p6, q6⟩
    rw [hst]
    dsimp only
    repeat (first|refine Wa ?_|refine Wb ?_|refine Wc ?_|refine Wd ?_|refine We rfl ?_|refine Wf (by first|exact Va|exact Vb|exact Vf|exact Vm|exact Vq) rfl ?_|refine Wk ?_|refine Wl ?_|(refine Ww rfl ⟨rfl, by decide, by decide, by decide⟩ ?_; intro _))
    refine JR.append1 (L := endsL (l.take i)) (u := ((diskL (l.take (i + 1))).length : Int)) rfl (by exact ⟨rfl, rfl, by decide⟩) (by rw [endsL_length]; omega) ?_
    intro a7 c7
    rw [← endsL_next hlt]
    repeat (first|refine Wa ?_|refine Wc ?_|refine Wd ?_|refine We rfl ?_|refine Wf (by first|exact Va|exact Vb|exact Vk (by omega)) rfl ?_|refine Wr ?_)
    exact ⟨i + 1, (p6, q6), (a7, c7), by omega, by omega, inferInstance⟩
  · obtain rfl : i = l.length := by omega
    rw [List.take_length]
    repeat (first|refine Wa ?_|refine Wb ?_|refine Wc ?_|refine Wd ?_|refine We rfl ?_|refine Wf (by first|exact Va|exact Vb) rfl ?_|refine Wm ?_|refine Wo ?_|refine Wp ?_|refine Ws ?_)
    exact CT.done ((p, pq), (q, qq)) rfl (fun w ho => (ho.ent : Hold _ _ (.res (buf q qq 3 (endsL l)) :: [.res (buf p pq 5 (diskL l))]) w).pub.ent)
end Ab
end Go.Proofs.YtdgeffphifgflaaGreat

/- Disks of commits, whole, cut and spoilt: plain words. -/
namespace Go.Proofs.YtdgeffphifgflaaGreat
namespace Ab
open Go Go.RowKit
set_option linter.unusedVariables false
set_option linter.unusedSimpArgs false
set_option synthInstance.maxSize 4000
set_option synthInstance.maxHeartbeats 400000
attribute [local irreducible] JC JO JR JQ andThen inBlock OpV Gives retTo JM JS

attribute [local irreducible] hashC
theorem readL_frames : ∀ (xs : List (List UInt8)), (∀ x ∈ xs, x.length ≤ 4000) → ∀ r, readL (framesL xs ++ r) = xs ++ readL r
  | [], _, r => rfl
  | x :: xs, h, r => by
    have h1 : readStep (framesL (x :: xs) ++ r) = some (x, framesL xs ++ r) := by
      rw [framesL_cons, List.append_assoc]; exact readStep_frame (h x (by simp)) _
    rw [readL_some h1, readL_frames xs (fun y hy => h y (by simp [hy])) r]
    rfl
theorem readL_nil : readL [] = [] := rfl
/-- Less than a record is none. -/
theorem readStep_partial {x t : List UInt8} (hx : x.length ≤ 4000) (hp : t <+: frameL x) (hl : t.length < (frameL x).length) : readStep t = none := by
  cases h : readStep t with
  | none => rfl
  | some q =>
    obtain ⟨y, r⟩ := q
    obtain ⟨hy, ht⟩ := readStep_some h
    obtain ⟨u, hu⟩ := hp
    have h1 := readStep_frame hx []
    rw [List.append_nil, ← hu, ht, List.append_assoc, readStep_frame hy] at h1
    injection h1 with h1
    injection h1 with h2 h3
    subst h2
    have h4 := congrArg List.length h3
    have h5 := congrArg List.length ht
    rw [List.length_append] at h4 h5
    simp at h4
    omega
theorem decL_map : ∀ (l : List Commit), (∀ c ∈ l, may c = true) → ∀ m, decL (l.map commitPut ++ m) = l ++ decL m
  | [], _, m => rfl
  | c :: l, h, m => by
    have h1 := getC_put (h c (by simp)) []
    rw [List.append_nil] at h1
    show decL (commitPut c :: (l.map commitPut ++ m)) = _
    rcases decL_cons (commitPut c) (l.map commitPut ++ m) with ⟨d, hd, he⟩ | ⟨hn, _⟩
    · rw [h1] at hd
      cases hd
      rw [he, decL_map l (fun d hd => h d (by simp [hd])) m]
      rfl
    · exact (hn ⟨c, h1⟩).elim
theorem closeF_all : ∀ (l acc : List Commit), (∀ j, j < l.length → Closed (acc ++ l.take (j + 1))) → ∀ m, closeF acc (l ++ m) = closeF (acc ++ l) m
  | [], acc, _, m => by simp
  | c :: l, acc, h, m => by
    have h0 := h 0 (by simp)
    show closeF acc (c :: (l ++ m)) = _
    rw [closeF, if_pos (by simpa using h0), closeF_all l (acc ++ [c]) (fun j hj => by simpa using h (j + 1) (by simpa using hj)) m]
    simp
theorem le_fold (L : List Commit) : ∀ (ps : List ID) (g : Int), g ≤ ps.foldl (fun g p => max g (genAt L p)) g ∧ ∀ p ∈ ps, genAt L p ≤ ps.foldl (fun g p => max g (genAt L p)) g
  | [], g => ⟨Int.le_refl _, by simp⟩
  | q :: ps, g => by
    obtain ⟨h1, h2⟩ := le_fold L ps (max g (genAt L q))
    refine ⟨by simp only [List.foldl_cons]; omega, fun p hp => ?_⟩
    simp only [List.foldl_cons]
    rcases List.mem_cons.1 hp with rfl | hp
    · omega
    · exact h2 p hp
theorem le_maxGen {L : List Commit} {p : ID} {ps : List ID} (h : p ∈ ps) : genAt L p ≤ maxGen L ps := (le_fold L ps 0).2 p h
/-- What stands in an order of generations, each ahead of what knows it: its beginnings are closed. -/
theorem Closed.take {s : List Commit} (h : Closed s) (hs : s.Pairwise leS) (k : Nat) : Closed (s.take k) := by
  refine h.sub (fun c hc => List.mem_of_mem_take hc) (nodup_sub h.nodup (List.take_sublist k s)) fun c hc p hp => ?_
  obtain ⟨i, hi, rfl⟩ := List.getElem_of_mem hc
  rw [List.length_take] at hi
  rw [List.getElem_take] at hp
  have hm : s[i] ∈ s := List.getElem_mem _
  have hf := h.fine s[i] hm
  obtain ⟨d, hd, rfl⟩ := mem_cids.1 (hf.here p hp)
  obtain ⟨j, hj, rfl⟩ := List.getElem_of_mem hd
  have hg : genAt s (idC s[j]) ≤ maxGen s s[i].parents := le_maxGen hp
  rw [genAt_of h.nodup hd] at hg
  have hg2 := hf.gen
  have hji : j < i := by
    rcases Nat.lt_trichotomy j i with h1 | h1 | h1
    · exact h1
    · subst h1; omega
    · have := List.pairwise_iff_getElem.1 hs i j (by omega) hj h1
      rcases this with h2 | ⟨h2, _⟩ <;> omega
  exact mem_cids.2 ⟨s[j], List.mem_of_getElem? (i := j) (by rw [List.getElem?_take_of_lt (by omega), List.getElem?_eq_getElem hj]), rfl⟩
theorem small_puts {l : List Commit} (h : ∀ c ∈ l, may c = true) : ∀ x ∈ l.map commitPut, x.length ≤ 4000 := by
  intro x hx
  obtain ⟨c, hc, rfl⟩ := List.mem_map.1 hx
  have := commitPut_length (h c hc)
  omega
/-- What is loaded of a disk, whatever stands behind it that is no record. -/
theorem loadL_disk {l : List Commit} (h : ∀ c ∈ l, may c = true) {r : List UInt8} (hr : readL r = []) : readL (diskL l ++ r) = l.map commitPut ∧ loadL (diskL l ++ r) = closeF [] l := by
  have h1 : readL (diskL l ++ r) = l.map commitPut := by unfold diskL; rw [readL_frames _ (small_puts h), hr, List.append_nil]
  refine ⟨h1, ?_⟩
  unfold loadL
  rw [h1]
  have := decL_map l h []
  rw [List.append_nil] at this
  rw [this]
  have e : decL [] = [] := rfl
  rw [e, List.append_nil]
theorem loadL_closed {l : List Commit} (h : ∀ c ∈ l, may c = true) (hc : ∀ j, j < l.length → Closed (l.take (j + 1))) {r : List UInt8} (hr : readL r = []) : loadL (diskL l ++ r) = l ∧ loadEnd (diskL l ++ r) = (diskL l).length := by
  obtain ⟨h1, h2⟩ := loadL_disk h hr
  have h3 : closeF [] l = l := by
    have := closeF_all l [] (fun j hj => by simpa using hc j hj) []
    simpa [closeF] using this
  rw [h3] at h2
  refine ⟨h2, ?_⟩
  unfold loadEnd
  rw [h1, h2, ← List.map_take, List.take_length]
  rfl
end Ab
end Go.Proofs.YtdgeffphifgflaaGreat

/- Contract: law15's awake. -/
namespace Go.Proofs.YtdgeffphifgflaaGreat
namespace Ab
open Go Go.RowKit
set_option linter.unusedVariables false
set_option linter.unusedSimpArgs false
set_option synthInstance.maxSize 4000
set_option synthInstance.maxHeartbeats 400000
attribute [local irreducible] JC JO JR JQ andThen inBlock OpV Gives retTo JM JS

attribute [local irreducible] hashC
theorem closed_l0 : Closed [l0] := closed_two.sub (by simp) (by simp [cids]) (by simp [l0])
theorem mays_l0 : ∀ c ∈ [l0], may c = true := fun c hc => closed_l0.may c hc
theorem disk_l0 : diskL [l0] = frameL (commitPut l0) := by simp [diskL, framesL]
theorem put_l0 : storeT [] 100 l0 = (diskL [l0], 0) := by
  have hp : putCommit l0 = (commitPut l0, 0) := by unfold putCommit; rw [mays_l0 l0 (by simp)]; rfl
  have hl : (commitPut l0).length ≤ 60 := by decide +kernel
  have hn := numL_length (commitPut l0).length
  unfold storeT
  rw [hp]
  dsimp only
  rw [if_pos rfl]
  unfold writeT
  rw [if_neg (by omega), if_neg (by rw [frameL_length]; simp; omega), disk_l0]
  rfl
theorem load_l0 : loadL (diskL [l0]) = [l0] ∧ loadEnd (diskL [l0]) = (diskL [l0]).length := by
  have := loadL_closed mays_l0 (fun j hj => by
    have : j = 0 := by simpa using hj
    subst this
    exact closed_l0) (r := []) readL_nil
  rwa [List.append_nil] at this
theorem load_nil : loadL [] = [] ∧ loadEnd [] = 0 := ⟨rfl, rfl⟩
theorem load_five : loadEnd ((diskL [l0]).take 5) = 0 := by
  have hl : (commitPut l0).length ≤ 60 := by decide +kernel
  have h0 : 5 ≤ (commitPut l0).length := by decide +kernel
  have h1 : readL ((diskL [l0]).take 5) = [] := by
    refine readL_none (readStep_partial (x := commitPut l0) (by omega) ?_ ?_)
    · rw [disk_l0]; exact List.take_prefix 5 _
    · rw [disk_l0, List.length_take, frameL_length]; omega
  unfold loadEnd loadL
  rw [h1]
  rfl
set_option maxHeartbeats 2000000 in
theorem awake_store (w : World) (F : Nat → Prop) : GivesV Tryz.prog 13 [] w F (.bool true) := by
  have htx : texts l0 := by unfold texts; constructor <;> decide
  have hdl : 5 ≤ (diskL [l0]).length ∧ (diskL [l0]).length ≤ 1000 := by
    have hl : (commitPut l0).length ≤ 60 := by decide +kernel
    have h0 : 5 ≤ (commitPut l0).length := by decide +kernel
    have hn := numL_length (commitPut l0).length
    rw [disk_l0, frameL_length]; omega
  obtain ⟨hld, hle⟩ := load_l0
  have h5 := load_five
  have hp := put_l0
  generalize diskL [l0] = D at hdl hld hle h5 hp
  refine gives_of Tryz.func13 rfl Tryz.ntmps13 rfl rfl [] (.start w F) ?_
  repeat (first|refine Wa ?_|refine Wb ?_|refine Wc ?_|refine Wd ?_|refine We rfl ?_|refine Wf (by exact Vb) rfl ?_)
  refine JR.callV rfl (fun w1 hw => some_law w1 _) ?_
  repeat (refine We rfl ?_)
  refine JR.call1 (B := fun y : Option Addr × Nat => .res (buf y.1 y.2 5 (storeT [] 100 l0).1)) rfl (fun w1 hw => put_store w1 _ none none 0 0 [] 100 l0 sl_nil sl_nil htx (by decide)) ?_
  rintro ⟨a1, c1⟩
  rw [hp]
  dsimp only
  refine JO.more (fun w ho => ho.pub) ?_
  repeat (first|refine Wa ?_|refine Wb ?_|refine Wc ?_|refine Wd ?_|refine We rfl ?_|refine Wf (by first|exact Va|exact Vb|exact Vq) rfl ?_)
  refine JR.callSlT rfl (fun w1 hw => load_store w1 _ a1 c1 D (hw.get (A := sl a1 c1 D)) (by omega)) ?_
  rw [hld, hle]
  intro a2 c2
  repeat (first|refine Wa ?_|refine Wb ?_|refine Wc ?_|refine Wd ?_|refine We rfl ?_|refine Wf (by first|exact Va|exact Vb|exact Vq) rfl ?_)
  refine JR.callSlT rfl (fun w1 hw => load_store w1 _ none 0 [] sl_nil (by decide)) ?_
  rw [load_nil.1, load_nil.2]
  intro a3 c3
  repeat (first|refine Wa ?_|refine Wb ?_|refine Wc ?_|refine Wd ?_|refine We rfl ?_|refine Wf (by first|exact Va|exact Vb|exact Vf|exact Vi|exact Vl|exact Vq) rfl ?_)
  refine JO.test 34 (fun _ => ?_) (fun h => absurd rfl h)
  repeat (first|refine We rfl ?_|refine Wf (by first|exact Va|exact Vf|exact Vi|exact Vl) rfl ?_)
  refine JR.callV rfl (fun w1 hw => last_store w1 _ a2 c2 [l0] 0 (hw.get (A := sl a2 c2 [l0]))) ?_
  rw [show lastF [l0] 0 = 1 from by decide]
  repeat (first|refine We rfl ?_|refine Wf (by first|exact Va|exact Vi|exact Vl) rfl ?_)
  refine JR.callV rfl (fun w1 hw => last_store w1 _ a2 c2 [l0] 1 (hw.get (A := sl a2 c2 [l0]))) ?_
  rw [show lastF [l0] 1 = 0 from by decide]
  repeat (first|refine We rfl ?_|refine Wf (by first|exact Va|exact Vi|exact Vl) rfl ?_)
  refine JR.sliceTo (L := D) (k := 5) rfl rfl hdl.1 ?_
  intro a5 c5
  repeat (refine We rfl ?_)
  refine JR.callBuf rfl (fun w1 hw => open_store w1 _ a5 c5 (D.take 5) (hw.get (A := sl a5 c5 (D.take 5))) (by rw [List.length_take]; omega)) ?_
  rw [h5, List.take_zero]
  intro a6 c6
  repeat (first|refine Wa ?_|refine Wd ?_|refine We rfl ?_|refine Wf (by first|exact Vb|exact Vf|exact Vi|exact Vl) rfl ?_|refine Ws ?_)
  exact CT.done () rfl (fun w ho => ho.ent)
end Ab
end Go.Proofs.YtdgeffphifgflaaGreat

/- The law StoreFull returns true. -/
namespace Go.Proofs.YtdgeffphifgflaaGreat
namespace Ab
open Go Go.RowKit
set_option linter.unusedVariables false
set_option linter.unusedSimpArgs false
set_option synthInstance.maxSize 4000
set_option synthInstance.maxHeartbeats 400000
attribute [local irreducible] JC JO JR JQ andThen inBlock OpV Gives retTo JM JS

attribute [local irreducible] hashC
end Ab
end Go.Proofs.YtdgeffphifgflaaGreat

/- The law StoreCuts returns true. -/
namespace Go.Proofs.YtdgeffphifgflaaGreat
namespace Ab
open Go Go.RowKit
set_option linter.unusedVariables false
set_option linter.unusedSimpArgs false
set_option synthInstance.maxSize 4000
set_option synthInstance.maxHeartbeats 400000
attribute [local irreducible] JC JO JR JQ andThen inBlock OpV Gives retTo JM JS

attribute [local irreducible] hashC
theorem diskL_mono {s : List Commit} {i j : Nat} (h : i ≤ j) : (diskL (s.take i)).length ≤ (diskL (s.take j)).length := by
  have e : s.take i = (s.take j).take i := by rw [List.take_take, Nat.min_eq_left h]
  have e2 : diskL (s.take j) = diskL ((s.take j).take i) ++ diskL ((s.take j).drop i) := by
    unfold diskL; rw [← framesL_append, ← List.map_append, List.take_append_drop]
  rw [e, e2, List.length_append]
  omega
/-- k commits of s stand whole in at bytes, of the first i. -/
structure Cut (s : List Commit) (at_ : Int) (i k : Nat) : Prop where
  le : k ≤ i
  fits : ((diskL (s.take k)).length : Int) ≤ at_
  next : k < i → at_ < ((diskL (s.take (k + 1))).length : Int)
theorem Cut.yes {s : List Commit} {at_ : Int} {i k : Nat} (h : Cut s at_ i k) (hn : ((diskL (s.take (i + 1))).length : Int) ≤ at_) : Cut s at_ (i + 1) (i + 1) :=
  ⟨Nat.le_refl _, hn, fun hlt => absurd hlt (by omega)⟩
theorem Cut.no {s : List Commit} {at_ : Int} {i k : Nat} (h : Cut s at_ i k) (hn : ¬ ((diskL (s.take (i + 1))).length : Int) ≤ at_) : Cut s at_ (i + 1) k := by
  refine ⟨by have := h.le; omega, h.fits, fun hlt => ?_⟩
  by_cases hk : k < i
  · exact h.next hk
  · have : k = i := by have := h.le; omega
    subst this; omega
end Ab
end Go.Proofs.YtdgeffphifgflaaGreat

/- A disk of which a byte of a record's sum is another one: plain words. -/
namespace Go.Proofs.YtdgeffphifgflaaGreat
namespace Ab
open Go Go.RowKit
set_option linter.unusedVariables false
set_option linter.unusedSimpArgs false
set_option synthInstance.maxSize 4000
set_option synthInstance.maxHeartbeats 400000
attribute [local irreducible] JC JO JR JQ andThen inBlock OpV Gives retTo JM JS

attribute [local irreducible] hashC
theorem readStep_other {x Q r : List UInt8} (hx : x.length ≤ 4000) (hQ : Q.length = 4) (hne : quadL x ≠ Q) : readStep (numL x.length ++ x ++ Q ++ r) = none := by
  have e0 : numL x.length ++ x ++ Q ++ r = numL x.length ++ (x ++ (Q ++ r)) := by simp
  have hN : getN (numL x.length ++ x ++ Q ++ r) = (x.length, (numL x.length).length) := by rw [e0]; exact getN_append (by omega) _
  have d1 : (numL x.length ++ x ++ Q ++ r).drop (numL x.length).length = x ++ (Q ++ r) := by rw [e0]; exact List.drop_left' rfl
  have d2 : (numL x.length ++ x ++ Q ++ r).drop ((numL x.length).length + x.length) = Q ++ r := by rw [← List.drop_drop, d1]; exact List.drop_left' rfl
  unfold readStep
  rw [hN]
  dsimp only
  split
  · rfl
  · rw [d1, d2, List.take_left' rfl, List.take_left' hQ, if_neg hne]
theorem spoilt_load {s : List Commit} (hsc : Closed s) (hpw : s.Pairwise leS) {k at_ : Nat} {v : UInt8} (hk : k < s.length) (h1 : (diskL (s.take (k + 1))).length ≤ at_ + 4) (h2 : at_ < (diskL (s.take (k + 1))).length) (hl : at_ < (diskL s).length) (hv : v ≠ (diskL s)[at_]) :
    loadL ((diskL s).set at_ v) = s.take k ∧ loadEnd ((diskL s).set at_ v) = (diskL (s.take k)).length := by
  have hm := hsc.may s[k] (List.getElem_mem hk)
  have hcl := commitPut_length hm
  have hql := quadL_length (commitPut s[k])
  obtain ⟨H, hH⟩ : ∃ H, H = numL (commitPut s[k]).length ++ commitPut s[k] := ⟨_, rfl⟩
  have e1 : diskL s = diskL (s.take k) ++ (H ++ (quadL (commitPut s[k]) ++ diskL (s.drop (k + 1)))) := by
    have a1 : diskL s = diskL (s.take k) ++ diskL (s.drop k) := by unfold diskL; rw [← framesL_append, ← List.map_append, List.take_append_drop]
    have a2 : diskL (s.drop k) = frameL (commitPut s[k]) ++ diskL (s.drop (k + 1)) := by rw [List.drop_eq_getElem_cons hk]; exact framesL_cons _ _
    rw [a1, a2, hH]
    unfold frameL
    simp
  have hlen : (diskL (s.take (k + 1))).length = (diskL (s.take k)).length + H.length + 4 := by
    rw [diskL_next hk, List.length_append, frameL_length, hH, List.length_append]; omega
  obtain ⟨j, hj⟩ : ∃ j, at_ = (diskL (s.take k)).length + (H.length + j) := ⟨at_ - (diskL (s.take k)).length - H.length, by omega⟩
  have hj4 : j < 4 := by omega
  have hjq : j < (quadL (commitPut s[k])).length := by omega
  have hv2 : v ≠ (quadL (commitPut s[k]))[j] := by
    intro he
    apply hv
    rw [he]
    simp only [e1, hj]
    rw [List.getElem_append_right (by omega), List.getElem_append_right (by omega), List.getElem_append_left (by omega)]
    congr 1
    omega
  have e2 : (diskL s).set at_ v = diskL (s.take k) ++ (H ++ (quadL (commitPut s[k])).set j v ++ diskL (s.drop (k + 1))) := by
    rw [e1, hj, List.set_append_right _ _ (by omega), Nat.add_sub_cancel_left, List.set_append_right _ _ (by omega), Nat.add_sub_cancel_left, List.set_append_left _ _ hjq]
    simp
  have hne : quadL (commitPut s[k]) ≠ (quadL (commitPut s[k])).set j v := by
    intro he
    apply hv2
    have : ((quadL (commitPut s[k])).set j v)[j]'(by simpa using hjq) = v := by simp
    rw [← this]
    congr 1
    exact he.symm
  rw [e2]
  refine loadL_closed (fun c hc' => hsc.may c (List.mem_of_mem_take hc')) (fun j hj => ?_) (readL_none ?_)
  · rw [List.take_take]; exact hsc.take hpw _
  · rw [hH]
    exact readStep_other (by omega) (by rw [List.length_set]; exact hql) hne
end Ab
end Go.Proofs.YtdgeffphifgflaaGreat

/- One byte of a row of the call's own is read and written at any place. Program-independent. -/
namespace Go.Proofs.YtdgeffphifgflaaGreat
namespace Ab
open Go Go.RowKit
set_option linter.unusedVariables false
set_option linter.unusedSimpArgs false
section
variable {P : Program} {n : Nn} {w0 : World} {F : Nat → Prop} {Q : Cont} {e : E} {Γ : List Fact} [Dr]
/-- A row of bytes that grows, told as a block. -/
theorem JC.openBuf {c : Code} {a0 : Option Addr} {k : Nat} {el : TypeId} {L : List UInt8} (hne : L ≠ [])
    (h : ∀ b junk, a0 = some ⟨b, 0, none⟩ → L.length + junk.length = k → k ≤ maxLen → L.length ≤ lim → JC P n w0 F c Q e (.own b el (L.map byteV ++ junk) :: Γ)) : JC P n w0 F c Q e (.res (buf a0 k el L) :: Γ) := by
  intro a w fr ho
  have hs : (buf a0 k el L).holds (fp w0 F (.res (buf a0 k el L) :: Γ)) w := ho.sat (.res (buf a0 k el L)) (by simp)
  have hs0 := hs
  obtain ⟨h0, r, h1, h2, h3⟩ := hs0
  rcases h2.2 with ⟨hv, hn⟩ | ⟨g, cap, cur, hv, _, hg, hnc, hcm, hcs, ht⟩
  · injection hv with e1 e2 e3
    exact absurd (List.eq_nil_of_length_eq_zero e2) hne
  · injection hv with e1 e2 e3
    subst e1 e3
    obtain ⟨q, cur', q0, q1, q2, qg, qnc, qcm, qcs, qt⟩ := buf_some hs
    rw [hg] at qg
    injection qg with qg
    injection qg with qg
    subst qg
    have hsz : cur.toList.length = k := by rw [Array.length_toList, hcs]; show k * 1 = k; omega
    have hfl : flat q = L.map byteV := by
      rw [← q1]
      clear q1 q2 qt qnc q0
      induction q with
      | nil => rfl
      | cons p q ih => obtain ⟨x, y⟩ := p; simp only [flat, List.map_cons]; rw [ih]; rfl
    have hql : q.length = L.length := by rw [← q1, List.length_map]
    have htk : cur.toList.take L.length = L.map byteV := by
      rw [← hfl, ← qt]; congr 1; show L.length = _ * 1; omega
    have hcur : L.map byteV ++ cur.toList.drop L.length = cur.toList := by rw [← htk, List.take_append_drop]
    refine h g (cur.toList.drop L.length) rfl (by rw [List.length_drop]; omega) hcm h0 a w fr ?_
    have hown : ∀ j, (Fact.res (buf (some ⟨g, 0, none⟩) k el L)).owns j ↔ j = g := by
      intro j
      constructor
      · rintro ⟨a', ha', rfl⟩; injection ha' with ha'; subst ha'; rfl
      · rintro rfl; exact ⟨_, rfl, rfl⟩
    refine ⟨ho.below, fun f hf => ?_, ?_, fun f hf j hj => ?_⟩
    · rcases List.mem_cons.1 hf with rfl | hf
      · show w.heap[g]? = _
        rw [hcur]
        exact hg
      · refine Fact.sat_keep (ho.sat f (List.mem_cons_of_mem _ hf)) (fun j hj _ => ⟨hj.1, fun f' hf' => ?_⟩) (fun _ _ _ => rfl)
        rcases List.mem_cons.1 hf' with rfl | hf'
        · intro h9
          exact hj.2 _ (List.mem_cons_self ..) ((hown j).2 h9)
        · exact hj.2 f' (List.mem_cons_of_mem _ hf')
    · have hd := ho.dis
      rw [List.pairwise_cons] at hd ⊢
      exact ⟨fun f hf j hj => hd.1 f hf j ⟨(hown j).2 hj.1, hj.2⟩, hd.2⟩
    · rcases List.mem_cons.1 hf with rfl | hf
      · exact ho.new _ (List.mem_cons_self ..) j ((hown j).2 hj)
      · exact ho.new f (List.mem_cons_of_mem _ hf) j hj
end
section
variable {P : Program} {n : Nn} {w0 : World} {F : Nat → Prop} {ops : Array Oper} {i d : Nat} {t : TypeId} {pos : String} {aft : Array Edge} {g : Option (Nat × Bool)} {os : List Oper} {Q : Cont} {e : E} {Γ : List Fact} [Dr]
/-- A place of a slice whose block is known. -/
theorem OpV.indexV {d : Option Nat} {x ix : Operand} {kk : IntKind} {j : Int} {k m c : Nat} {ty el : TypeId} {ed : TypeDesc} {sz by_ eb b : Nat} {z ez : Value} [hx : Ev e x (.slice (some ⟨b, 0, none⟩) m c)] [hi : Ev e ix (.int kk j)] [hk : NatI j k] [hT : Ty P ty (.slice el) sz by_ z] [hE : Ty P el ed 1 eb ez] (h : k < m) :
    OpV P n w0 F ⟨d, .indexAddr ty x ix, t, pos, aft, g⟩ e Γ (.pointer (some ⟨b, k, none⟩)) :=
  fun a w fr ho => by
    have e1 := run_und (P := P) (t := ty) w
    have e2 := run_size (P := P) (t := el) w
    have hj := hk.ok
    subst hj
    simp [execOp, hx.ok n a fr, hi.ok n a fr, Instr.indexAt, e1, e2, asIntOf, Addr.add_mid, h]
theorem OpV.loadByte {d : Option Nat} {x : Operand} {ty bt : TypeId} {by_ b o : Nat} {z : Value} {vs : List Value} {v : UInt8} {Δ : List Fact} [hx : Ev e x (.pointer (some ⟨b, o, none⟩))] [hO : Own Γ b bt vs Δ] [hT : Ty P ty (.int .u8) 1 by_ z] (h : vs[o]? = some (byteV v)) :
    OpV P n w0 F ⟨d, .load ty x, t, pos, aft, g⟩ e Γ (byteV v) :=
  fun a w fr ho => by
    have hw : w.heap[b]? = some (.cells vs.toArray bt (0, 0)) := (ho.perm hO.ok).sat (.own b bt vs) (by simp)
    have hr : w.rangeAt b o [byteV v] := fun j u hj => by
      cases j with
      | zero =>
        simp only [List.getElem?_cons_zero, Option.some.injEq] at hj
        subst hj
        rw [Nat.add_zero, cell_of_row w b _ _ _ _ hw]
        simpa using h
      | succ j => simp at hj
    have hv : Val (.int .u8) [byteV v] (byteV v) := inferInstance
    simp [execOp, hx.ok n a fr, run_load_at (P := P) (t := ty) (v := byteV v) hr rfl]
theorem JR.storeByte {x y : Operand} {ty bt : TypeId} {by_ b o : Nat} {z : Value} {vs : List Value} {v : UInt8} {Δ : List Fact} [hx : Ev e x (.pointer (some ⟨b, o, none⟩))] [hy : Ev e y (byteV v)] [hO : Own Γ b bt vs Δ] [hT : Ty P ty (.int .u8) 1 by_ z] (h : o < vs.length)
    (k : JO P n w0 F ops (i + 1) os Q e (.own b bt (vs.set o (byteV v)) :: Δ)) : JR P n w0 F ops i ⟨none, .store ty x y, t, pos, aft, g⟩ os Q e Γ :=
  JR.effect fun a w fr ho => by
    have ho' := ho.perm hO.ok
    have hw : w.heap[b]? = some (.cells vs.toArray bt (0, 0)) := ho'.sat (.own b bt vs) (by simp)
    have hset : o + [byteV v].length ≤ vs.length ∧ vs.take o ++ [byteV v] ++ vs.drop (o + [byteV v].length) = vs.set o (byteV v) := by
      refine ⟨by simp; omega, ?_⟩
      rw [List.set_eq_take_append_cons_drop, if_pos h]
      simp
    refine ⟨.skip, w.setRow b (vs.set o (byteV v)).toArray, _, .inl rfl, ?_, ho'.setRow, k⟩
    have hc : Cel (byteV v) [byteV v] := inferInstance
    have h1 : One [byteV v] := inferInstance
    simp [execOp, hx.ok n a fr, hy.ok n a fr, run_store_own (P := P) (ty := ty) (cs := [byteV v]) (r := vs.set o (byteV v)) hw rfl hset]
end
section
variable {w0 : World} {F : Nat → Prop} {Γ : List Fact} [Dr]
theorem Hold.pubBytes {w : World} {b k : Nat} {el : TypeId} {L : List UInt8} {junk : List Value} (h : Hold w0 F (.own b el (L.map byteV ++ junk) :: Γ) w) (hjk : L.length + junk.length = k) (hmax : k ≤ maxLen) (hlim : L.length ≤ lim) : Hold w0 F (.st (sl (some ⟨b, 0, none⟩) k L) :: Γ) w := by
  have hs : w.heap[b]? = some (.cells (L.map byteV ++ junk).toArray el (0, 0)) := h.sat (.own b el (L.map byteV ++ junk)) (by simp)
  refine h.publish fun hk => ?_
  refine ⟨by omega, hmax, hlim, fun hne => ⟨b, 0, rfl, hk b (.inr rfl), (Array.getElem?_eq_some_iff.1 hs).1, fun i hi => ⟨(), ?_, by simp [Cell.facts]⟩⟩⟩
  intro j v hj
  simp only [Cell.cells, List.getElem?_singleton] at hj
  split at hj
  · rename_i h0; subst h0
    injection hj with hj
    subst hj
    rw [cell_of_row w b _ _ _ _ hs]
    simp [Cell.sz, hi, List.getElem?_append_left]
  · cases hj
end
end Ab
end Go.Proofs.YtdgeffphifgflaaGreat

/- The law StoreSpoilt returns true. -/
namespace Go.Proofs.YtdgeffphifgflaaGreat
namespace Ab
open Go Go.RowKit
set_option linter.unusedVariables false
set_option linter.unusedSimpArgs false
set_option synthInstance.maxSize 4000
set_option synthInstance.maxHeartbeats 400000
attribute [local irreducible] JC JO JR JQ andThen inBlock OpV Gives retTo JM JS

attribute [local irreducible] hashC
set_option maxHeartbeats 4000000 in
theorem law_storespoilt (w : World) (F : Nat → Prop) (a : Option Addr) (k : Nat) (L : List Commit) (at_ : Int) (mask : UInt8) (h : (sl a k L).holds F w) :
    GivesV Tryz.prog 4 [.slice a L.length k, .int .i64 at_, .int .u8 (mask.toNat : Int)] w F (.bool true) := by
  refine gives_of Tryz.func4 rfl Tryz.ntmps4 rfl rfl [.st (sl a k L)] (.start1 h) ?_
  repeat (first|refine Wa ?_|refine Wb ?_|refine Wc ?_|refine Wd ?_|refine We rfl ?_|refine Wf (by first|exact Va|exact Vb|exact Vc|exact Vd|exact Ve|exact Vf|exact Vg|exact Vh|exact Vi|exact Vj|exact Vk (by omega)|exact Vl|exact Vm|exact Vn|exact Vo|exact Vp|exact Vq|exact Vr|exact Vs (by omega)|exact Vt (by omega)|exact Vu (by omega)|exact Vv (by omega)|exact Vw|exact Vx|exact Vy|exact Vz|exact VA|exact VB|exact VC|exact VD|exact VE|exact VF) rfl ?_|(refine Wg rfl ?_; intro _)|(refine Wh rfl ?_; intro _)|refine Wi ?_|refine Wj ?_|refine Wk ?_|refine Wl ?_|refine Wm ?_|refine Wn ?_|refine Wo ?_|refine Wp ?_|refine Wq rfl ?_|refine Wr ?_|refine Ws ?_|refine Wt ?_|refine Wu ?_|refine Wv rfl rfl ?_|(refine Ww rfl ⟨rfl, by decide, by decide, by decide⟩ ?_; intro _))
  refine JR.callV rfl (fun w1 hw => awake_store w1 _) ?_
  repeat (first|refine Wa ?_|refine Wb ?_|refine Wc ?_|refine Wd ?_|refine We rfl ?_|refine Wf (by first|exact Va|exact Vb|exact Vc|exact Vd|exact Ve|exact Vf|exact Vg|exact Vh|exact Vi|exact Vj|exact Vk (by omega)|exact Vl|exact Vm|exact Vn|exact Vo|exact Vp|exact Vq|exact Vr|exact Vs (by omega)|exact Vt (by omega)|exact Vu (by omega)|exact Vv (by omega)|exact Vw|exact Vx|exact Vy|exact Vz|exact VA|exact VB|exact VC|exact VD|exact VE|exact VF) rfl ?_|(refine Wg rfl ?_; intro _)|(refine Wh rfl ?_; intro _)|refine Wi ?_|refine Wj ?_|refine Wk ?_|refine Wl ?_|refine Wm ?_|refine Wn ?_|refine Wo ?_|refine Wp ?_|refine Wq rfl ?_|refine Wr ?_|refine Ws ?_|refine Wt ?_|refine Wu ?_|refine Wv rfl rfl ?_|(refine Ww rfl ⟨rfl, by decide, by decide, by decide⟩ ?_; intro _))
  refine JR.callV rfl (fun w1 hw => few_all w1 _ a k L 6 hw.get) ?_
  cases hfew : fewL L 6 with
  | false =>
    repeat (first|refine Wa ?_|refine Wb ?_|refine Wc ?_|refine Wd ?_|refine We rfl ?_|refine Wf (by first|exact Va|exact Vb|exact Vc|exact Vd|exact Ve|exact Vf|exact Vg|exact Vh|exact Vi|exact Vj|exact Vk (by omega)|exact Vl|exact Vm|exact Vn|exact Vo|exact Vp|exact Vq|exact Vr|exact Vs (by omega)|exact Vt (by omega)|exact Vu (by omega)|exact Vv (by omega)|exact Vw|exact Vx|exact Vy|exact Vz|exact VA|exact VB|exact VC|exact VD|exact VE|exact VF) rfl ?_|(refine Wg rfl ?_; intro _)|(refine Wh rfl ?_; intro _)|refine Wi ?_|refine Wj ?_|refine Wk ?_|refine Wl ?_|refine Wm ?_|refine Wn ?_|refine Wo ?_|refine Wp ?_|refine Wq rfl ?_|refine Wr ?_|refine Ws ?_|refine Wt ?_|refine Wu ?_|refine Wv rfl rfl ?_|(refine Ww rfl ⟨rfl, by decide, by decide, by decide⟩ ?_; intro _)|refine Wx rfl rfl ?_)
    exact CT.done () rfl (fun w ho => ho.ent)
  | true =>
  obtain ⟨hL, hf⟩ := few_fine hfew
  repeat (first|refine Wa ?_|refine Wb ?_|refine Wc ?_|refine Wd ?_|refine We rfl ?_|refine Wf (by first|exact Va|exact Vb|exact Vc|exact Vd|exact Ve|exact Vf|exact Vg|exact Vh|exact Vi|exact Vj|exact Vk (by omega)|exact Vl|exact Vm|exact Vn|exact Vo|exact Vp|exact Vq|exact Vr|exact Vs (by omega)|exact Vt (by omega)|exact Vu (by omega)|exact Vv (by omega)|exact Vw|exact Vx|exact Vy|exact Vz|exact VA|exact VB|exact VC|exact VD|exact VE|exact VF) rfl ?_|(refine Wg rfl ?_; intro _)|(refine Wh rfl ?_; intro _)|refine Wi ?_|refine Wj ?_|refine Wk ?_|refine Wl ?_|refine Wm ?_|refine Wn ?_|refine Wo ?_|refine Wp ?_|refine Wq rfl ?_|refine Wr ?_|refine Ws ?_|refine Wt ?_|refine Wu ?_|refine Wv rfl rfl ?_|(refine Ww rfl ⟨rfl, by decide, by decide, by decide⟩ ?_; intro _)|refine Wx rfl rfl ?_)
  by_cases hc : ¬ Closed L
  · refine JR.callV rfl (fun w1 hw => closed_no w1 _ a k L hw.get (by omega) hf hc) ?_
    repeat (first|refine Wa ?_|refine Wb ?_|refine Wc ?_|refine Wd ?_|refine We rfl ?_|refine Wf (by first|exact Va|exact Vb|exact Vc|exact Vd|exact Ve|exact Vf|exact Vg|exact Vh|exact Vi|exact Vj|exact Vk (by omega)|exact Vl|exact Vm|exact Vn|exact Vo|exact Vp|exact Vq|exact Vr|exact Vs (by omega)|exact Vt (by omega)|exact Vu (by omega)|exact Vv (by omega)|exact Vw|exact Vx|exact Vy|exact Vz|exact VA|exact VB|exact VC|exact VD|exact VE|exact VF) rfl ?_|(refine Wg rfl ?_; intro _)|(refine Wh rfl ?_; intro _)|refine Wi ?_|refine Wj ?_|refine Wk ?_|refine Wl ?_|refine Wm ?_|refine Wn ?_|refine Wo ?_|refine Wp ?_|refine Wq rfl ?_|refine Wr ?_|refine Ws ?_|refine Wt ?_|refine Wu ?_|refine Wv rfl rfl ?_|(refine Ww rfl ⟨rfl, by decide, by decide, by decide⟩ ?_; intro _)|refine Wx rfl rfl ?_)
    exact CT.done () rfl (fun w ho => ho.ent)
  replace hc : Closed L := Classical.not_not.1 hc
  refine JR.callV rfl (fun w1 hw => closed_yes w1 _ a k L hw.get (by omega) hf hc) ?_
  repeat (first|refine Wa ?_|refine Wb ?_|refine Wc ?_|refine Wd ?_|refine We rfl ?_|refine Wf (by first|exact Va|exact Vb|exact Vc|exact Vd|exact Ve|exact Vf|exact Vg|exact Vh|exact Vi|exact Vj|exact Vk (by omega)|exact Vl|exact Vm|exact Vn|exact Vo|exact Vp|exact Vq|exact Vr|exact Vs (by omega)|exact Vt (by omega)|exact Vu (by omega)|exact Vv (by omega)|exact Vw|exact Vx|exact Vy|exact Vz|exact VA|exact VB|exact VC|exact VD|exact VE|exact VF) rfl ?_|(refine Wg rfl ?_; intro _)|(refine Wh rfl ?_; intro _)|refine Wi ?_|refine Wj ?_|refine Wk ?_|refine Wl ?_|refine Wm ?_|refine Wn ?_|refine Wo ?_|refine Wp ?_|refine Wq rfl ?_|refine Wr ?_|refine Ws ?_|refine Wt ?_|refine Wu ?_|refine Wv rfl rfl ?_|(refine Ww rfl ⟨rfl, by decide, by decide, by decide⟩ ?_; intro _)|refine Wx rfl rfl ?_)
  refine JC.test (fun hm0 => ?_) (fun hm0 => ?_)
  · repeat (first|refine Wa ?_|refine Wb ?_|refine Wc ?_|refine Wd ?_|refine We rfl ?_|refine Wf (by first|exact Va|exact Vb|exact Vc|exact Vd|exact Ve|exact Vf|exact Vg|exact Vh|exact Vi|exact Vj|exact Vk (by omega)|exact Vl|exact Vm|exact Vn|exact Vo|exact Vp|exact Vq|exact Vr|exact Vs (by omega)|exact Vt (by omega)|exact Vu (by omega)|exact Vv (by omega)|exact Vw|exact Vx|exact Vy|exact Vz|exact VA|exact VB|exact VC|exact VD|exact VE|exact VF) rfl ?_|(refine Wg rfl ?_; intro _)|(refine Wh rfl ?_; intro _)|refine Wi ?_|refine Wj ?_|refine Wk ?_|refine Wl ?_|refine Wm ?_|refine Wn ?_|refine Wo ?_|refine Wp ?_|refine Wq rfl ?_|refine Wr ?_|refine Ws ?_|refine Wt ?_|refine Wu ?_|refine Wv rfl rfl ?_|(refine Ww rfl ⟨rfl, by decide, by decide, by decide⟩ ?_; intro _)|refine Wx rfl rfl ?_)
    exact CT.done () rfl (fun w ho => ho.ent)
  repeat (first|refine Wa ?_|refine Wb ?_|refine Wc ?_|refine Wd ?_|refine We rfl ?_|refine Wf (by first|exact Va|exact Vb|exact Vc|exact Vd|exact Ve|exact Vf|exact Vg|exact Vh|exact Vi|exact Vj|exact Vk (by omega)|exact Vl|exact Vm|exact Vn|exact Vo|exact Vp|exact Vq|exact Vr|exact Vs (by omega)|exact Vt (by omega)|exact Vu (by omega)|exact Vv (by omega)|exact Vw|exact Vx|exact Vy|exact Vz|exact VA|exact VB|exact VC|exact VD|exact VE|exact VF) rfl ?_|(refine Wg rfl ?_; intro _)|(refine Wh rfl ?_; intro _)|refine Wi ?_|refine Wj ?_|refine Wk ?_|refine Wl ?_|refine Wm ?_|refine Wn ?_|refine Wo ?_|refine Wp ?_|refine Wq rfl ?_|refine Wr ?_|refine Ws ?_|refine Wt ?_|refine Wu ?_|refine Wv rfl rfl ?_|(refine Ww rfl ⟨rfl, by decide, by decide, by decide⟩ ?_; intro _)|refine Wx rfl rfl ?_)
  refine JR.call1 (v := fun y : SortY L => .slice y.1.2.1 y.1.1.length y.1.2.2) (B := fun y => .st (sl y.1.2.1 y.1.2.2 y.1.1)) rfl (fun w1 hw => sorted_dag w1 _ a k L hw.get (by omega) hf) ?_
  rintro ⟨⟨s, sa, sk⟩, hs⟩
  dsimp only
  have hperm : s.Perm L := hs.perm hc
  have hpw : s.Pairwise leS := hs.sorted hc
  have hsc : Closed s := hc.perm hperm.symm
  have hsl : s.length = L.length := hperm.length_eq
  have hsf : ∀ x ∈ s, fine x := fun x hx => hf x (hperm.mem_iff.1 hx)
  repeat (first|refine Wa ?_|refine Wb ?_|refine Wc ?_|refine Wd ?_|refine We rfl ?_|refine Wf (by first|exact Va|exact Vb|exact Vc|exact Vd|exact Ve|exact Vf|exact Vg|exact Vh|exact Vi|exact Vj|exact Vk (by omega)|exact Vl|exact Vm|exact Vn|exact Vo|exact Vp|exact Vq|exact Vr|exact Vs (by omega)|exact Vt (by omega)|exact Vu (by omega)|exact Vv (by omega)|exact Vw|exact Vx|exact Vy|exact Vz|exact VA|exact VB|exact VC|exact VD|exact VE|exact VF) rfl ?_|(refine Wg rfl ?_; intro _)|(refine Wh rfl ?_; intro _)|refine Wi ?_|refine Wj ?_|refine Wk ?_|refine Wl ?_|refine Wm ?_|refine Wn ?_|refine Wo ?_|refine Wp ?_|refine Wq rfl ?_|refine Wr ?_|refine Ws ?_|refine Wt ?_|refine Wu ?_|refine Wv rfl rfl ?_|(refine Ww rfl ⟨rfl, by decide, by decide, by decide⟩ ?_; intro _)|refine Wx rfl rfl ?_)
  refine JR.call2 (v := fun y : (Option Addr × Nat) × (Option Addr × Nat) => .tuple ⟨[.slice y.1.1 (diskL s).length y.1.2, .slice y.2.1 (endsL s).length y.2.2, .bool true]⟩) (B := fun y => .res (buf y.1.1 y.1.2 5 (diskL s))) (C := fun y => .st (sl y.2.1 y.2.2 (endsL s))) rfl (fun w1 hw => disk_law w1 _ sa sk s (hw.get (A := sl sa sk s)) hsc.may hsf (by omega)) ?_
  rintro ⟨⟨p, pq⟩, ⟨q, qq⟩⟩
  dsimp only
  have hdl := diskL_le hsc.may
  have hel := endsL_length s
  repeat (first|refine Wa ?_|refine Wb ?_|refine Wc ?_|refine Wd ?_|refine We rfl ?_|refine Wf (by first|exact Va|exact Vb|exact Vc|exact Vd|exact Ve|exact Vf|exact Vg|exact Vh|exact Vi|exact Vj|exact Vk (by omega)|exact Vl|exact Vm|exact Vn|exact Vo|exact Vp|exact Vq|exact Vr|exact Vs (by omega)|exact Vt (by omega)|exact Vu (by omega)|exact Vv (by omega)|exact Vw|exact Vx|exact Vy|exact Vz|exact VA|exact VB|exact VC|exact VD|exact VE|exact VF) rfl ?_|(refine Wg rfl ?_; intro _)|(refine Wh rfl ?_; intro _)|refine Wi ?_|refine Wj ?_|refine Wk ?_|refine Wl ?_|refine Wm ?_|refine Wn ?_|refine Wo ?_|refine Wp ?_|refine Wq rfl ?_|refine Wr ?_|refine Ws ?_|refine Wt ?_|refine Wu ?_|refine Wv rfl rfl ?_|(refine Ww rfl ⟨rfl, by decide, by decide, by decide⟩ ?_; intro _)|refine Wx rfl rfl ?_)
  refine JO.test 51 (fun h0 => ?_) (fun h0 => ?_)
  · repeat (first|refine Wa ?_|refine Wb ?_|refine Wc ?_|refine Wd ?_|refine We rfl ?_|refine Wf (by first|exact Va|exact Vb|exact Vc|exact Vd|exact Ve|exact Vf|exact Vg|exact Vh|exact Vi|exact Vj|exact Vk (by omega)|exact Vl|exact Vm|exact Vn|exact Vo|exact Vp|exact Vq|exact Vr|exact Vs (by omega)|exact Vt (by omega)|exact Vu (by omega)|exact Vv (by omega)|exact Vw|exact Vx|exact Vy|exact Vz|exact VA|exact VB|exact VC|exact VD|exact VE|exact VF) rfl ?_|(refine Wg rfl ?_; intro _)|(refine Wh rfl ?_; intro _)|refine Wi ?_|refine Wj ?_|refine Wk ?_|refine Wl ?_|refine Wm ?_|refine Wn ?_|refine Wo ?_|refine Wp ?_|refine Wq rfl ?_|refine Wr ?_|refine Ws ?_|refine Wt ?_|refine Wu ?_|refine Wv rfl rfl ?_|(refine Ww rfl ⟨rfl, by decide, by decide, by decide⟩ ?_; intro _)|refine Wx rfl rfl ?_)
    exact CT.done () rfl (fun w ho => ho.ent)
  repeat (first|refine Wa ?_|refine Wb ?_|refine Wc ?_|refine Wd ?_|refine We rfl ?_|refine Wf (by first|exact Va|exact Vb|exact Vc|exact Vd|exact Ve|exact Vf|exact Vg|exact Vh|exact Vi|exact Vj|exact Vk (by omega)|exact Vl|exact Vm|exact Vn|exact Vo|exact Vp|exact Vq|exact Vr|exact Vs (by omega)|exact Vt (by omega)|exact Vu (by omega)|exact Vv (by omega)|exact Vw|exact Vx|exact Vy|exact Vz|exact VA|exact VB|exact VC|exact VD|exact VE|exact VF) rfl ?_|(refine Wg rfl ?_; intro _)|(refine Wh rfl ?_; intro _)|refine Wi ?_|refine Wj ?_|refine Wk ?_|refine Wl ?_|refine Wm ?_|refine Wn ?_|refine Wo ?_|refine Wp ?_|refine Wq rfl ?_|refine Wr ?_|refine Ws ?_|refine Wt ?_|refine Wu ?_|refine Wv rfl rfl ?_|(refine Ww rfl ⟨rfl, by decide, by decide, by decide⟩ ?_; intro _)|refine Wx rfl rfl ?_)
  refine JC.test (fun h1 => ?_) (fun h1 => ?_)
  · repeat (first|refine Wa ?_|refine Wb ?_|refine Wc ?_|refine Wd ?_|refine We rfl ?_|refine Wf (by first|exact Va|exact Vb|exact Vc|exact Vd|exact Ve|exact Vf|exact Vg|exact Vh|exact Vi|exact Vj|exact Vk (by omega)|exact Vl|exact Vm|exact Vn|exact Vo|exact Vp|exact Vq|exact Vr|exact Vs (by omega)|exact Vt (by omega)|exact Vu (by omega)|exact Vv (by omega)|exact Vw|exact Vx|exact Vy|exact Vz|exact VA|exact VB|exact VC|exact VD|exact VE|exact VF) rfl ?_|(refine Wg rfl ?_; intro _)|(refine Wh rfl ?_; intro _)|refine Wi ?_|refine Wj ?_|refine Wk ?_|refine Wl ?_|refine Wm ?_|refine Wn ?_|refine Wo ?_|refine Wp ?_|refine Wq rfl ?_|refine Wr ?_|refine Ws ?_|refine Wt ?_|refine Wu ?_|refine Wv rfl rfl ?_|(refine Ww rfl ⟨rfl, by decide, by decide, by decide⟩ ?_; intro _)|refine Wx rfl rfl ?_)
    exact CT.done () rfl (fun w ho => ho.ent)
  obtain ⟨at_, rfl⟩ : ∃ n : Nat, at_ = (n : Int) := ⟨at_.toNat, by omega⟩
  have hat : at_ < (diskL s).length := by omega
  have hfull : diskL (s.take s.length) = diskL s := by rw [List.take_length]
  have hs0 : 0 < s.length := by
    rcases Nat.eq_zero_or_pos s.length with h | h
    · have := List.eq_nil_of_length_eq_zero h; subst this; simp [diskL, framesL] at hat
    · exact h
  repeat (first|refine Wa ?_|refine Wb ?_|refine Wc ?_|refine Wd ?_|refine We rfl ?_|refine Wf (by first|exact Va|exact Vb|exact Vc|exact Vd|exact Ve|exact Vf|exact Vg|exact Vh|exact Vi|exact Vj|exact Vk (by omega)|exact Vl|exact Vm|exact Vn|exact Vo|exact Vp|exact Vq|exact Vr|exact Vs (by omega)|exact Vt (by omega)|exact Vu (by omega)|exact Vv (by omega)|exact Vw|exact Vx|exact Vy|exact Vz|exact VA|exact VB|exact VC|exact VD|exact VE|exact VF) rfl ?_|(refine Wg rfl ?_; intro _)|(refine Wh rfl ?_; intro _)|refine Wi ?_|refine Wj ?_|refine Wk ?_|refine Wl ?_|refine Wm ?_|refine Wn ?_|refine Wo ?_|refine Wp ?_|refine Wq rfl ?_|refine Wr ?_|refine Ws ?_|refine Wt ?_|refine Wu ?_|refine Wv rfl rfl ?_|(refine Ww rfl ⟨rfl, by decide, by decide, by decide⟩ ?_; intro _)|refine Wx rfl rfl ?_)
  refine JC.loop1 (fun (i : Nat) => [(1, .int .i64 (at_ : Int)), (2, .int .u8 (mask.toNat : Int)), (9, .slice sa s.length sk), (10, .slice p (diskL s).length pq), (11, .slice q (endsL s).length qq), (13, .int .i64 (i : Int))])
    (fun _ => [.res (buf p pq 5 (diskL s)), .st (sl q qq (endsL s)), .st (sl sa sk s)]) (fun i => i < s.length ∧ (diskL (s.take i)).length ≤ at_) (fun i => s.length - i) 0 ⟨hs0, by show (diskL []).length ≤ _; simp [diskL, framesL]⟩ inferInstance ?_
  rintro i ⟨hi, hle⟩
  have hup := diskL_mono (s := s) (i := i + 1) (j := s.length) (by omega)
  rw [hfull] at hup
  have hei : (endsL s)[i]'(by omega) = ((diskL (s.take (i + 1))).length : Int) := by simp [endsL]
  repeat (first|refine Wa ?_|refine Wb ?_|refine Wc ?_|refine Wd ?_|refine We rfl ?_|refine Wf (by first|exact Va|exact Vb|exact Vc|exact Vd|exact Ve|exact Vf|exact Vg|exact Vh|exact Vi|exact Vj|exact Vk (by omega)|exact Vl|exact Vm|exact Vn|exact Vo|exact Vp|exact Vq|exact Vr|exact Vs (by omega)|exact Vt (by omega)|exact Vu (by omega)|exact Vv (by omega)|exact Vw|exact Vx|exact Vy|exact Vz|exact VA|exact VB|exact VC|exact VD|exact VE|exact VF) rfl ?_|(refine Wg rfl ?_; intro _)|(refine Wh rfl ?_; intro _)|refine Wi ?_|refine Wj ?_|refine Wk ?_|refine Wl ?_|refine Wm ?_|refine Wn ?_|refine Wo ?_|refine Wp ?_|refine Wq rfl ?_|refine Wr ?_|refine Ws ?_|refine Wt ?_|refine Wu ?_|refine Wv rfl rfl ?_|(refine Ww rfl ⟨rfl, by decide, by decide, by decide⟩ ?_; intro _)|refine Wx rfl rfl ?_)
  refine JR.indexInt (k := i) rfl (by omega) ?_
  rw [hei]
  intro b5 o5
  repeat (first|refine Wa ?_|refine Wb ?_|refine Wc ?_|refine Wd ?_|refine We rfl ?_|refine Wf (by first|exact Va|exact Vb|exact Vc|exact Vd|exact Ve|exact Vf|exact Vg|exact Vh|exact Vi|exact Vj|exact Vk (by omega)|exact Vl|exact Vm|exact Vn|exact Vo|exact Vp|exact Vq|exact Vr|exact Vs (by omega)|exact Vt (by omega)|exact Vu (by omega)|exact Vv (by omega)|exact Vw|exact Vx|exact Vy|exact Vz|exact VA|exact VB|exact VC|exact VD|exact VE|exact VF) rfl ?_|(refine Wg rfl ?_; intro _)|(refine Wh rfl ?_; intro _)|refine Wi ?_|refine Wj ?_|refine Wk ?_|refine Wl ?_|refine Wm ?_|refine Wn ?_|refine Wo ?_|refine Wp ?_|refine Wq rfl ?_|refine Wr ?_|refine Ws ?_|refine Wt ?_|refine Wu ?_|refine Wv rfl rfl ?_|(refine Ww rfl ⟨rfl, by decide, by decide, by decide⟩ ?_; intro _)|refine Wx rfl rfl ?_)
  refine JC.test (fun h3 => ?_) (fun h3 => ?_)
  · have hne : i + 1 ≠ s.length := by
      intro e; rw [e, hfull] at h3; omega
    repeat (first|refine Wa ?_|refine Wb ?_|refine Wc ?_|refine Wd ?_|refine We rfl ?_|refine Wf (by first|exact Va|exact Vb|exact Vc|exact Vd|exact Ve|exact Vf|exact Vg|exact Vh|exact Vi|exact Vj|exact Vk (by omega)|exact Vl|exact Vm|exact Vn|exact Vo|exact Vp|exact Vq|exact Vr|exact Vs (by omega)|exact Vt (by omega)|exact Vu (by omega)|exact Vv (by omega)|exact Vw|exact Vx|exact Vy|exact Vz|exact VA|exact VB|exact VC|exact VD|exact VE|exact VF) rfl ?_|(refine Wg rfl ?_; intro _)|(refine Wh rfl ?_; intro _)|refine Wi ?_|refine Wj ?_|refine Wk ?_|refine Wl ?_|refine Wm ?_|refine Wn ?_|refine Wo ?_|refine Wp ?_|refine Wq rfl ?_|refine Wr ?_|refine Ws ?_|refine Wt ?_|refine Wu ?_|refine Wv rfl rfl ?_|(refine Ww rfl ⟨rfl, by decide, by decide, by decide⟩ ?_; intro _)|refine Wx rfl rfl ?_)
    exact ⟨i + 1, ⟨by omega, by omega⟩, by omega, inferInstance⟩
  repeat (first|refine Wa ?_|refine Wb ?_|refine Wc ?_|refine Wd ?_|refine We rfl ?_|refine Wf (by first|exact Va|exact Vb|exact Vc|exact Vd|exact Ve|exact Vf|exact Vg|exact Vh|exact Vi|exact Vj|exact Vk (by omega)|exact Vl|exact Vm|exact Vn|exact Vo|exact Vp|exact Vq|exact Vr|exact Vs (by omega)|exact Vt (by omega)|exact Vu (by omega)|exact Vv (by omega)|exact Vw|exact Vx|exact Vy|exact Vz|exact VA|exact VB|exact VC|exact VD|exact VE|exact VF) rfl ?_|(refine Wg rfl ?_; intro _)|(refine Wh rfl ?_; intro _)|refine Wi ?_|refine Wj ?_|refine Wk ?_|refine Wl ?_|refine Wm ?_|refine Wn ?_|refine Wo ?_|refine Wp ?_|refine Wq rfl ?_|refine Wr ?_|refine Ws ?_|refine Wt ?_|refine Wu ?_|refine Wv rfl rfl ?_|(refine Ww rfl ⟨rfl, by decide, by decide, by decide⟩ ?_; intro _)|refine Wx rfl rfl ?_)
  refine JR.indexInt (k := i) rfl (by omega) ?_
  rw [hei]
  intro b6 o6
  repeat (first|refine Wa ?_|refine Wb ?_|refine Wc ?_|refine Wd ?_|refine We rfl ?_|refine Wf (by first|exact Va|exact Vb|exact Vc|exact Vd|exact Ve|exact Vf|exact Vg|exact Vh|exact Vi|exact Vj|exact Vk (by omega)|exact Vl|exact Vm|exact Vn|exact Vo|exact Vp|exact Vq|exact Vr|exact Vs (by omega)|exact Vt (by omega)|exact Vu (by omega)|exact Vv (by omega)|exact Vw|exact Vx|exact Vy|exact Vz|exact VA|exact VB|exact VC|exact VD|exact VE|exact VF) rfl ?_|(refine Wg rfl ?_; intro _)|(refine Wh rfl ?_; intro _)|refine Wi ?_|refine Wj ?_|refine Wk ?_|refine Wl ?_|refine Wm ?_|refine Wn ?_|refine Wo ?_|refine Wp ?_|refine Wq rfl ?_|refine Wr ?_|refine Ws ?_|refine Wt ?_|refine Wu ?_|refine Wv rfl rfl ?_|(refine Ww rfl ⟨rfl, by decide, by decide, by decide⟩ ?_; intro _)|refine Wx rfl rfl ?_)
  refine JC.test (fun h4 => ?_) (fun h4 => ?_)
  · repeat (first|refine Wa ?_|refine Wb ?_|refine Wc ?_|refine Wd ?_|refine We rfl ?_|refine Wf (by first|exact Va|exact Vb|exact Vc|exact Vd|exact Ve|exact Vf|exact Vg|exact Vh|exact Vi|exact Vj|exact Vk (by omega)|exact Vl|exact Vm|exact Vn|exact Vo|exact Vp|exact Vq|exact Vr|exact Vs (by omega)|exact Vt (by omega)|exact Vu (by omega)|exact Vv (by omega)|exact Vw|exact Vx|exact Vy|exact Vz|exact VA|exact VB|exact VC|exact VD|exact VE|exact VF) rfl ?_|(refine Wg rfl ?_; intro _)|(refine Wh rfl ?_; intro _)|refine Wi ?_|refine Wj ?_|refine Wk ?_|refine Wl ?_|refine Wm ?_|refine Wn ?_|refine Wo ?_|refine Wp ?_|refine Wq rfl ?_|refine Wr ?_|refine Ws ?_|refine Wt ?_|refine Wu ?_|refine Wv rfl rfl ?_|(refine Ww rfl ⟨rfl, by decide, by decide, by decide⟩ ?_; intro _)|refine Wx rfl rfl ?_)
    exact CT.done () rfl (fun w ho => ho.ent)
  have hne : diskL s ≠ [] := by intro e; rw [e] at hat; simp at hat
  refine JC.more (Γ' := .res (buf p pq 5 (diskL s)) :: [.st (sl q qq (endsL s)), .st (sl sa sk s)]) (fun w ho => ho.ent) ?_
  refine JC.openBuf hne ?_
  rintro b junk rfl hjk hmax hlim
  have hv : (diskL s)[at_] ^^^ mask ≠ (diskL s)[at_] := by
    intro e
    apply hm0
    have := congrArg (fun z => (diskL s)[at_] ^^^ z) e
    simp only [← UInt8.xor_assoc, UInt8.xor_self, UInt8.zero_xor] at this
    rw [this]; rfl
  obtain ⟨hl1, hl2⟩ := spoilt_load hsc hpw hi (by omega) (by omega) hat hv
  generalize hV : (diskL s)[at_] ^^^ mask = V at hv hl1 hl2
  repeat (first|refine Wa ?_|refine Wb ?_|refine Wc ?_|refine Wd ?_|refine We rfl ?_|refine Wf (by first|exact Va|exact Vb|exact Vc|exact Vd|exact Ve|exact Vf|exact Vg|exact Vh|exact Vi|exact Vj|exact Vk (by omega)|exact Vl|exact Vm|exact Vn|exact Vo|exact Vp|exact Vq|exact Vr|exact Vs (by omega)|exact Vt (by omega)|exact Vu (by omega)|exact Vv (by omega)|exact Vw|exact Vx|exact Vy|exact Vz|exact VA|exact VB|exact VC|exact VD|exact VE|exact VF) rfl ?_|(refine Wg rfl ?_; intro _)|(refine Wh rfl ?_; intro _)|refine Wi ?_|refine Wj ?_|refine Wk ?_|refine Wl ?_|refine Wm ?_|refine Wn ?_|refine Wo ?_|refine Wp ?_|refine Wq rfl ?_|refine Wr ?_|refine Ws ?_|refine Wt ?_|refine Wu ?_|refine Wv rfl rfl ?_|(refine Ww rfl ⟨rfl, by decide, by decide, by decide⟩ ?_; intro _)|refine Wx rfl rfl ?_)
  refine Wf (OpV.indexV (k := at_) hat) rfl ?_
  repeat (first|refine Wa ?_|refine Wb ?_|refine Wc ?_|refine Wd ?_|refine We rfl ?_|refine Wf (by first|exact Va|exact Vb|exact Vc|exact Vd|exact Ve|exact Vf|exact Vg|exact Vh|exact Vi|exact Vj|exact Vk (by omega)|exact Vl|exact Vm|exact Vn|exact Vo|exact Vp|exact Vq|exact Vr|exact Vs (by omega)|exact Vt (by omega)|exact Vu (by omega)|exact Vv (by omega)|exact Vw|exact Vx|exact Vy|exact Vz|exact VA|exact VB|exact VC|exact VD|exact VE|exact VF) rfl ?_|(refine Wg rfl ?_; intro _)|(refine Wh rfl ?_; intro _)|refine Wi ?_|refine Wj ?_|refine Wk ?_|refine Wl ?_|refine Wm ?_|refine Wn ?_|refine Wo ?_|refine Wp ?_|refine Wq rfl ?_|refine Wr ?_|refine Ws ?_|refine Wt ?_|refine Wu ?_|refine Wv rfl rfl ?_|(refine Ww rfl ⟨rfl, by decide, by decide, by decide⟩ ?_; intro _)|refine Wx rfl rfl ?_)
  refine Wf (OpV.loadByte (v := (diskL s)[at_]) (by simp [hat, List.getElem?_append_left])) rfl ?_
  repeat (first|refine Wa ?_|refine Wb ?_|refine Wc ?_|refine Wd ?_|refine We rfl ?_|refine Wf (by first|exact Va|exact Vb|exact Vc|exact Vd|exact Ve|exact Vf|exact Vg|exact Vh|exact Vi|exact Vj|exact Vk (by omega)|exact Vl|exact Vm|exact Vn|exact Vo|exact Vp|exact Vq|exact Vr|exact Vs (by omega)|exact Vt (by omega)|exact Vu (by omega)|exact Vv (by omega)|exact Vw|exact Vx|exact Vy|exact Vz|exact VA|exact VB|exact VC|exact VD|exact VE|exact VF) rfl ?_|(refine Wg rfl ?_; intro _)|(refine Wh rfl ?_; intro _)|refine Wi ?_|refine Wj ?_|refine Wk ?_|refine Wl ?_|refine Wm ?_|refine Wn ?_|refine Wo ?_|refine Wp ?_|refine Wq rfl ?_|refine Wr ?_|refine Ws ?_|refine Wt ?_|refine Wu ?_|refine Wv rfl rfl ?_|(refine Ww rfl ⟨rfl, by decide, by decide, by decide⟩ ?_; intro _)|refine Wx rfl rfl ?_)
  refine Wf (OpV.xor8 (a := (diskL s)[at_]) (b := mask)) rfl ?_
  rw [hV]
  repeat (first|refine Wa ?_|refine Wb ?_|refine Wc ?_|refine Wd ?_|refine We rfl ?_|refine Wf (by first|exact Va|exact Vb|exact Vc|exact Vd|exact Ve|exact Vf|exact Vg|exact Vh|exact Vi|exact Vj|exact Vk (by omega)|exact Vl|exact Vm|exact Vn|exact Vo|exact Vp|exact Vq|exact Vr|exact Vs (by omega)|exact Vt (by omega)|exact Vu (by omega)|exact Vv (by omega)|exact Vw|exact Vx|exact Vy|exact Vz|exact VA|exact VB|exact VC|exact VD|exact VE|exact VF) rfl ?_|(refine Wg rfl ?_; intro _)|(refine Wh rfl ?_; intro _)|refine Wi ?_|refine Wj ?_|refine Wk ?_|refine Wl ?_|refine Wm ?_|refine Wn ?_|refine Wo ?_|refine Wp ?_|refine Wq rfl ?_|refine Wr ?_|refine Ws ?_|refine Wt ?_|refine Wu ?_|refine Wv rfl rfl ?_|(refine Ww rfl ⟨rfl, by decide, by decide, by decide⟩ ?_; intro _)|refine Wx rfl rfl ?_)
  refine Wf (OpV.indexV (k := at_) hat) rfl ?_
  repeat (first|refine Wa ?_|refine Wb ?_|refine Wc ?_|refine Wd ?_|refine We rfl ?_|refine Wf (by first|exact Va|exact Vb|exact Vc|exact Vd|exact Ve|exact Vf|exact Vg|exact Vh|exact Vi|exact Vj|exact Vk (by omega)|exact Vl|exact Vm|exact Vn|exact Vo|exact Vp|exact Vq|exact Vr|exact Vs (by omega)|exact Vt (by omega)|exact Vu (by omega)|exact Vv (by omega)|exact Vw|exact Vx|exact Vy|exact Vz|exact VA|exact VB|exact VC|exact VD|exact VE|exact VF) rfl ?_|(refine Wg rfl ?_; intro _)|(refine Wh rfl ?_; intro _)|refine Wi ?_|refine Wj ?_|refine Wk ?_|refine Wl ?_|refine Wm ?_|refine Wn ?_|refine Wo ?_|refine Wp ?_|refine Wq rfl ?_|refine Wr ?_|refine Ws ?_|refine Wt ?_|refine Wu ?_|refine Wv rfl rfl ?_|(refine Ww rfl ⟨rfl, by decide, by decide, by decide⟩ ?_; intro _)|refine Wx rfl rfl ?_)
  refine JR.storeByte (v := V) (by simp; omega) ?_
  have hset : (List.map byteV (diskL s) ++ junk).set at_ (byteV V) = ((diskL s).set at_ V).map byteV ++ junk := by
    rw [List.set_append_left _ _ (by simpa using hat), List.map_set]
  rw [hset]
  generalize hD : (diskL s).set at_ V = D at hl1 hl2
  have hDl : D.length = (diskL s).length := by rw [← hD, List.length_set]
  rw [← hDl]
  refine JO.more (fun w ho => ho.pubBytes (by rw [hDl]; exact hjk) hmax (by rw [hDl]; exact hlim)) ?_
  repeat (first|refine Wa ?_|refine Wb ?_|refine Wc ?_|refine Wd ?_|refine We rfl ?_|refine Wf (by first|exact Va|exact Vb|exact Vc|exact Vd|exact Ve|exact Vf|exact Vg|exact Vh|exact Vi|exact Vj|exact Vk (by omega)|exact Vl|exact Vm|exact Vn|exact Vo|exact Vp|exact Vq|exact Vr|exact Vs (by omega)|exact Vt (by omega)|exact Vu (by omega)|exact Vv (by omega)|exact Vw|exact Vx|exact Vy|exact Vz|exact VA|exact VB|exact VC|exact VD|exact VE|exact VF) rfl ?_|(refine Wg rfl ?_; intro _)|(refine Wh rfl ?_; intro _)|refine Wi ?_|refine Wj ?_|refine Wk ?_|refine Wl ?_|refine Wm ?_|refine Wn ?_|refine Wo ?_|refine Wp ?_|refine Wq rfl ?_|refine Wr ?_|refine Ws ?_|refine Wt ?_|refine Wu ?_|refine Wv rfl rfl ?_|(refine Ww rfl ⟨rfl, by decide, by decide, by decide⟩ ?_; intro _)|refine Wx rfl rfl ?_)
  refine JR.callSlT rfl (fun w1 hw => load_store w1 _ (some ⟨b, 0, none⟩) pq D (hw.get (A := sl (some ⟨b, 0, none⟩) pq D)) (by omega)) ?_
  rw [hl1, hl2]
  intro a6 c6
  repeat (first|refine Wa ?_|refine Wb ?_|refine Wc ?_|refine Wd ?_|refine We rfl ?_|refine Wf (by first|exact Va|exact Vb|exact Vc|exact Vd|exact Ve|exact Vf|exact Vg|exact Vh|exact Vi|exact Vj|exact Vk (by omega)|exact Vl|exact Vm|exact Vn|exact Vo|exact Vp|exact Vq|exact Vr|exact Vs (by omega)|exact Vt (by omega)|exact Vu (by omega)|exact Vv (by omega)|exact Vw|exact Vx|exact Vy|exact Vz|exact VA|exact VB|exact VC|exact VD|exact VE|exact VF) rfl ?_|(refine Wg rfl ?_; intro _)|(refine Wh rfl ?_; intro _)|refine Wi ?_|refine Wj ?_|refine Wk ?_|refine Wl ?_|refine Wm ?_|refine Wn ?_|refine Wo ?_|refine Wp ?_|refine Wq rfl ?_|refine Wr ?_|refine Ws ?_|refine Wt ?_|refine Wu ?_|refine Wv rfl rfl ?_|(refine Ww rfl ⟨rfl, by decide, by decide, by decide⟩ ?_; intro _)|refine Wx rfl rfl ?_)
  refine JC.test (fun h5 => ?_) (fun h5 => ?_)
  · have hip : 0 < i := by omega
    have hei2 : (endsL s)[i - 1]'(by omega) = ((diskL (s.take i)).length : Int) := by
      simp only [endsL, List.getElem_map, List.getElem_range, Nat.sub_add_cancel hip]
    repeat (first|refine Wa ?_|refine Wb ?_|refine Wc ?_|refine Wd ?_|refine We rfl ?_|refine Wf (by first|exact Va|exact Vb|exact Vc|exact Vd|exact Ve|exact Vf|exact Vg|exact Vh|exact Vi|exact Vj|exact Vk (by omega)|exact Vl|exact Vm|exact Vn|exact Vo|exact Vp|exact Vq|exact Vr|exact Vs (by omega)|exact Vt (by omega)|exact Vu (by omega)|exact Vv (by omega)|exact Vw|exact Vx|exact Vy|exact Vz|exact VA|exact VB|exact VC|exact VD|exact VE|exact VF) rfl ?_|(refine Wg rfl ?_; intro _)|(refine Wh rfl ?_; intro _)|refine Wi ?_|refine Wj ?_|refine Wk ?_|refine Wl ?_|refine Wm ?_|refine Wn ?_|refine Wo ?_|refine Wp ?_|refine Wq rfl ?_|refine Wr ?_|refine Ws ?_|refine Wt ?_|refine Wu ?_|refine Wv rfl rfl ?_|(refine Ww rfl ⟨rfl, by decide, by decide, by decide⟩ ?_; intro _)|refine Wx rfl rfl ?_)
    refine JR.indexInt (k := i - 1) rfl (by omega) ?_
    rw [hei2]
    intro b7 o7
    repeat (first|refine Wa ?_|refine Wb ?_|refine Wc ?_|refine Wd ?_|refine We rfl ?_|refine Wf (by first|exact Va|exact Vb|exact Vc|exact Vd|exact Ve|exact Vf|exact Vg|exact Vh|exact Vi|exact Vj|exact Vk (by omega)|exact Vl|exact Vm|exact Vn|exact Vo|exact Vp|exact Vq|exact Vr|exact Vs (by omega)|exact Vt (by omega)|exact Vu (by omega)|exact Vv (by omega)|exact Vw|exact Vx|exact Vy|exact Vz|exact VA|exact VB|exact VC|exact VD|exact VE|exact VF) rfl ?_|(refine Wg rfl ?_; intro _)|(refine Wh rfl ?_; intro _)|refine Wi ?_|refine Wj ?_|refine Wk ?_|refine Wl ?_|refine Wm ?_|refine Wn ?_|refine Wo ?_|refine Wp ?_|refine Wq rfl ?_|refine Wr ?_|refine Ws ?_|refine Wt ?_|refine Wu ?_|refine Wv rfl rfl ?_|(refine Ww rfl ⟨rfl, by decide, by decide, by decide⟩ ?_; intro _)|refine Wx rfl rfl ?_)
    refine JR.sliceTo (L := s) (k := i) rfl rfl (by omega) ?_
    intro a7 c7
    repeat (first|refine Wa ?_|refine Wb ?_|refine Wc ?_|refine Wd ?_|refine We rfl ?_|refine Wf (by first|exact Va|exact Vb|exact Vc|exact Vd|exact Ve|exact Vf|exact Vg|exact Vh|exact Vi|exact Vj|exact Vk (by omega)|exact Vl|exact Vm|exact Vn|exact Vo|exact Vp|exact Vq|exact Vr|exact Vs (by omega)|exact Vt (by omega)|exact Vu (by omega)|exact Vv (by omega)|exact Vw|exact Vx|exact Vy|exact Vz|exact VA|exact VB|exact VC|exact VD|exact VE|exact VF) rfl ?_|(refine Wg rfl ?_; intro _)|(refine Wh rfl ?_; intro _)|refine Wi ?_|refine Wj ?_|refine Wk ?_|refine Wl ?_|refine Wm ?_|refine Wn ?_|refine Wo ?_|refine Wp ?_|refine Wq rfl ?_|refine Wr ?_|refine Ws ?_|refine Wt ?_|refine Wu ?_|refine Wv rfl rfl ?_|(refine Ww rfl ⟨rfl, by decide, by decide, by decide⟩ ?_; intro _)|refine Wx rfl rfl ?_)
    refine JR.callV rfl (fun w1 hw => list_ref w1 _ a6 a7 c6 c7 (s.take i) (s.take i) (hw.get (A := sl a6 c6 (s.take i))) (hw.get (A := sl a7 c7 (s.take i)))) ?_
    refine JO.reslot 98 (.bool true) (by simp) ?_
    repeat (first|refine Wa ?_|refine Wb ?_|refine Wc ?_|refine Wd ?_|refine We rfl ?_|refine Wf (by first|exact Va|exact Vb|exact Vc|exact Vd|exact Ve|exact Vf|exact Vg|exact Vh|exact Vi|exact Vj|exact Vk (by omega)|exact Vl|exact Vm|exact Vn|exact Vo|exact Vp|exact Vq|exact Vr|exact Vs (by omega)|exact Vt (by omega)|exact Vu (by omega)|exact Vv (by omega)|exact Vw|exact Vx|exact Vy|exact Vz|exact VA|exact VB|exact VC|exact VD|exact VE|exact VF) rfl ?_|(refine Wg rfl ?_; intro _)|(refine Wh rfl ?_; intro _)|refine Wi ?_|refine Wj ?_|refine Wk ?_|refine Wl ?_|refine Wm ?_|refine Wn ?_|refine Wo ?_|refine Wp ?_|refine Wq rfl ?_|refine Wr ?_|refine Ws ?_|refine Wt ?_|refine Wu ?_|refine Wv rfl rfl ?_|(refine Ww rfl ⟨rfl, by decide, by decide, by decide⟩ ?_; intro _)|refine Wx rfl rfl ?_)
    exact CT.done () (by simp [packed]) (fun w ho => ho.ent)
  · have hi0 : i = 0 := by omega
    refine JC.reslot 16 (.int .i64 ((diskL (s.take i)).length : Int)) (by rw [hi0]; simp [diskL, framesL]) ?_
    repeat (first|refine Wa ?_|refine Wb ?_|refine Wc ?_|refine Wd ?_|refine We rfl ?_|refine Wf (by first|exact Va|exact Vb|exact Vc|exact Vd|exact Ve|exact Vf|exact Vg|exact Vh|exact Vi|exact Vj|exact Vk (by omega)|exact Vl|exact Vm|exact Vn|exact Vo|exact Vp|exact Vq|exact Vr|exact Vs (by omega)|exact Vt (by omega)|exact Vu (by omega)|exact Vv (by omega)|exact Vw|exact Vx|exact Vy|exact Vz|exact VA|exact VB|exact VC|exact VD|exact VE|exact VF) rfl ?_|(refine Wg rfl ?_; intro _)|(refine Wh rfl ?_; intro _)|refine Wi ?_|refine Wj ?_|refine Wk ?_|refine Wl ?_|refine Wm ?_|refine Wn ?_|refine Wo ?_|refine Wp ?_|refine Wq rfl ?_|refine Wr ?_|refine Ws ?_|refine Wt ?_|refine Wu ?_|refine Wv rfl rfl ?_|(refine Ww rfl ⟨rfl, by decide, by decide, by decide⟩ ?_; intro _)|refine Wx rfl rfl ?_)
    refine JR.sliceTo (L := s) (k := i) rfl rfl (by omega) ?_
    intro a7 c7
    repeat (first|refine Wa ?_|refine Wb ?_|refine Wc ?_|refine Wd ?_|refine We rfl ?_|refine Wf (by first|exact Va|exact Vb|exact Vc|exact Vd|exact Ve|exact Vf|exact Vg|exact Vh|exact Vi|exact Vj|exact Vk (by omega)|exact Vl|exact Vm|exact Vn|exact Vo|exact Vp|exact Vq|exact Vr|exact Vs (by omega)|exact Vt (by omega)|exact Vu (by omega)|exact Vv (by omega)|exact Vw|exact Vx|exact Vy|exact Vz|exact VA|exact VB|exact VC|exact VD|exact VE|exact VF) rfl ?_|(refine Wg rfl ?_; intro _)|(refine Wh rfl ?_; intro _)|refine Wi ?_|refine Wj ?_|refine Wk ?_|refine Wl ?_|refine Wm ?_|refine Wn ?_|refine Wo ?_|refine Wp ?_|refine Wq rfl ?_|refine Wr ?_|refine Ws ?_|refine Wt ?_|refine Wu ?_|refine Wv rfl rfl ?_|(refine Ww rfl ⟨rfl, by decide, by decide, by decide⟩ ?_; intro _)|refine Wx rfl rfl ?_)
    refine JR.callV rfl (fun w1 hw => list_ref w1 _ a6 a7 c6 c7 (s.take i) (s.take i) (hw.get (A := sl a6 c6 (s.take i))) (hw.get (A := sl a7 c7 (s.take i)))) ?_
    refine JO.reslot 98 (.bool true) (by simp) ?_
    repeat (first|refine Wa ?_|refine Wb ?_|refine Wc ?_|refine Wd ?_|refine We rfl ?_|refine Wf (by first|exact Va|exact Vb|exact Vc|exact Vd|exact Ve|exact Vf|exact Vg|exact Vh|exact Vi|exact Vj|exact Vk (by omega)|exact Vl|exact Vm|exact Vn|exact Vo|exact Vp|exact Vq|exact Vr|exact Vs (by omega)|exact Vt (by omega)|exact Vu (by omega)|exact Vv (by omega)|exact Vw|exact Vx|exact Vy|exact Vz|exact VA|exact VB|exact VC|exact VD|exact VE|exact VF) rfl ?_|(refine Wg rfl ?_; intro _)|(refine Wh rfl ?_; intro _)|refine Wi ?_|refine Wj ?_|refine Wk ?_|refine Wl ?_|refine Wm ?_|refine Wn ?_|refine Wo ?_|refine Wp ?_|refine Wq rfl ?_|refine Wr ?_|refine Ws ?_|refine Wt ?_|refine Wu ?_|refine Wv rfl rfl ?_|(refine Ww rfl ⟨rfl, by decide, by decide, by decide⟩ ?_; intro _)|refine Wx rfl rfl ?_)
    exact CT.done () (by simp [packed]) (fun w ho => ho.ent)
end Ab
end Go.Proofs.YtdgeffphifgflaaGreat

/- Arguments that read as data, told as the layer tells memory. -/
namespace Go.Proofs.YtdgeffphifgflaaGreat
namespace Ab
open Go Go.RowKit
set_option linter.unusedVariables false
set_option linter.unusedSimpArgs false

/-- Cells of type t that read as data are those of some element. -/
structure OpenT (P : Program) (α : Type) [Cell α] (t : TypeId) : Prop where
  ok : ∀ {H : Type} {enc : TypeId × Value → H} {w : World} {sp : Nat → Bool} {held : Bool} {fuel : Nat} {cs : List Value} {x : DataW H × List MemPlace},
    DataW.trod enc P w 0 sp held fuel t cs = some x → (∀ n ∈ x.1.weights P t, n ≤ reachBytes) → ∃ (u : α) (y : Cell.Ix α), cs = Cell.cells u y ∧ ∀ A ∈ Cell.facts u y, A.holds (fun _ => True) w

theorem weightsAll_mem {H : Type} {P : Program} {e : TypeId} {d : DataW H} {n : Nat} (hn : n ∈ d.weights P e) : ∀ {ds : List (DataW H)}, d ∈ ds → n ∈ DataW.weightsAll P e ds
  | [], h => by cases h
  | d' :: ds, h => by
    simp only [DataW.weightsAll, List.mem_append]
    rcases List.mem_cons.1 h with rfl | h
    · exact .inl hn
    · exact .inr (weightsAll_mem hn h)

theorem add_zero_addr (a : Addr) : (a.add 0).add 0 = a := by simp [Addr.add]
theorem cells_get {w : World} {a : Addr} {n : Nat} {ci : List Value} (h : w.cells? 0 a n = some ci) (j : Nat) (v : Value) (hv : ci[j]? = some v) : w.cell? (a.add j) = some v := by
  unfold World.cells? at h
  rw [if_pos (Nat.zero_le _)] at h
  have hl := mapM_some_length h
  have hj : j < n := by
    have := (List.getElem?_eq_some_iff.1 hv).1
    rw [hl, List.length_range] at this
    exact this
  have := mapM_some_get h j j (by simp [hj])
  rw [this, hv]

theorem OpenT.slice {P : Program} {α : Type} [Cell α] {t e : TypeId} (hO : OpenT P α e) (ht : P.underlying t = some (.slice e)) (hc : P.cellsOf e = Cell.sz α) (hb : 1 ≤ P.bytesOf e)
    {H : Type} {enc : TypeId × Value → H} {w : World} {sp : Nat → Bool} {held : Bool} {fuel : Nat} {cs : List Value} {x : DataW H × List MemPlace}
    (h : DataW.trod enc P w 0 sp held fuel t cs = some x) (hw : ∀ n ∈ x.1.weights P t, n ≤ reachBytes) :
    ∃ (a : Option Addr) (c : Nat) (L : List α), cs = [.slice a L.length c] ∧ (sl a c L).holds (fun _ => True) w := by
  rcases DataW.trod_slice ht h with ⟨rfl, rfl⟩ | ⟨a, len, cap, elems, rest, n, _, rfl, rfl, _, hlc, hcm, hlen, helems, _, _⟩
  · exact ⟨none, 0, [], rfl, sl_nil⟩
  · simp only [DataW.weights, ht] at hw
    have hw1 : len ≤ reachBytes := by
      have := hw _ (List.mem_cons_self ..)
      simp only [List.length_map] at this
      have h2 : (elems.length + rest.length) * 1 ≤ (elems.length + rest.length) * P.bytesOf e := Nat.mul_le_mul_left _ hb
      omega
    have key : ∀ i (hi : i < len), ∃ (u : α), ∃ (y : Cell.Ix α), (∀ j v, (Cell.cells u y)[j]? = some v → w.cell? ((a.add (i * Cell.sz α)).add j) = some v) ∧ ∀ A ∈ Cell.facts u y, A.holds (fun _ => True) w := by
      intro i hi
      have h1 := helems i hi
      have hi' : i < elems.length := by omega
      rw [List.getElem?_eq_getElem hi', hc] at h1
      obtain ⟨ci, hci, hd⟩ := Option.bind_eq_some_iff.1 h1
      obtain ⟨u, y, rfl, hf⟩ := hO.ok hd (fun n hn => hw n (List.mem_cons_of_mem _ (List.mem_append_left _ (weightsAll_mem hn (List.mem_map_of_mem (List.getElem_mem hi'))))))
      exact ⟨u, y, fun j v hv => cells_get hci j v hv, hf⟩
    obtain ⟨f, hf⟩ := Classical.axiomOfChoice (fun i : Fin len => key i.1 i.2)
    refine ⟨some a, cap, List.ofFn f, by simp, ?_⟩
    have hR : reachBytes = 140737488351232 := rfl
    refine ⟨by simpa using hlc, hcm, by simp only [List.length_ofFn, lim]; omega, fun hne => ?_⟩
    have h0 : 0 < len := by
      have := List.length_pos_iff.2 hne
      simpa using this
    obtain ⟨y0, hy0, _⟩ := hf ⟨0, h0⟩
    have hpos : 0 < (Cell.cells (f ⟨0, h0⟩) y0).length := by rw [Cell.len]; exact Cell.pos
    have hc0 := hy0 0 _ (List.getElem?_eq_getElem hpos)
    simp only [Nat.zero_mul, add_zero_addr] at hc0
    obtain ⟨b, off, spot⟩ := a
    have hspot : spot = none := by
      cases spot with
      | none => rfl
      | some s =>
        unfold World.cell? at hc0
        split at hc0
        · simp at hc0
        · cases hc0
    subst hspot
    refine ⟨b, off, rfl, trivial, ?_, fun i hi => ?_⟩
    · rcases Nat.lt_or_ge b w.heap.size with h | h
      · exact h
      · unfold World.cell? at hc0
        simp [Array.getElem?_eq_none h] at hc0
    · have hi' : i < len := by simpa using hi
      obtain ⟨y, hy, hfa⟩ := hf ⟨i, hi'⟩
      refine ⟨y, fun j v hv => ?_, fun A hA => ?_⟩
      · simp only [List.getElem_ofFn] at hv
        have := hy j v hv
        rw [Addr.add_mid, Addr.add_mid] at this
        exact this
      · simp only [List.getElem_ofFn] at hA
        exact hfa A hA

def byteOfV : Value → UInt8
  | .int _ n => UInt8.ofNat n.toNat
  | _ => 0
set_option maxRecDepth 100000 in
theorem open_id : OpenT Tryz.prog ID 81 := ⟨fun {H enc w sp held fuel cs x} h _ => by
  have hcell : Tryz.prog.cellsOf 5 = 1 := by kernel_rfl
  have hcell2 : Tryz.prog.cellsOf 81 = 32 := by kernel_rfl
  obtain ⟨xs, m, rfl, rfl, hl, hlx, hx⟩ := DataW.trod_array Tryz.underlying81 h
  rw [hcell2] at hl
  have key : ∀ i (hi : i < cs.length), cs[i] = byteV (byteOfV cs[i]) := by
    intro i hi
    have h1 := hx i (by omega)
    rw [hcell, Nat.mul_one, List.getElem?_eq_getElem (by omega)] at h1
    have h2 : (cs.drop i).take 1 = [cs[i]] := by
      rw [List.drop_eq_getElem_cons hi]; rfl
    rw [h2] at h1
    obtain ⟨n, hn, _, hw⟩ := DataW.trod_int Tryz.underlying5 h1
    injection hn with hn
    have hb : 0 ≤ n ∧ n ≤ 255 := by simpa [Lit.wf, IntKind.min, IntKind.max, IntKind.signed, IntKind.bits] using hw
    rw [hn]
    simp only [byteOfV, byteV, Value.int.injEq, true_and]
    rw [UInt8.toNat_ofNat']
    omega
  refine ⟨⟨cs.map byteOfV, by rw [List.length_map]; exact hl⟩, (), ?_, by simp [Cell.facts]⟩
  show cs = (cs.map byteOfV).map byteV
  apply List.ext_getElem
  · simp
  · intro i h1 h2
    simp only [List.getElem_map]
    exact key i h1⟩

set_option maxRecDepth 100000 in
theorem open_commit : OpenT Tryz.prog Commit 29 := ⟨fun {H enc w sp held fuel cs x} h hw => by
  have c24 : Tryz.prog.cellsOf 24 = 2 := by kernel_rfl
  have c27 : Tryz.prog.cellsOf 27 = 4 := by kernel_rfl
  have c29 : Tryz.prog.cellsOf 29 = 8 := by kernel_rfl
  have c25 : Tryz.prog.cellsOf 25 = 1 := by kernel_rfl
  have c3 : Tryz.prog.cellsOf 3 = 1 := by kernel_rfl
  have c9 : Tryz.prog.cellsOf 9 = 1 := by kernel_rfl
  obtain ⟨xs, m, rfl, rfl, hl, hlx, hx⟩ := DataW.trod_struct Tryz.underlying29 h
  rw [c29] at hl
  match cs, hl with
  | [v0, v1, v2, v3, v4, v5, v6, v7], _ =>
  match xs, hlx with
  | [x0, x1, x2, x3], _ =>
  have h0 := hx 0 _ rfl
  have h1 := hx 1 _ rfl
  have h2 := hx 2 _ rfl
  have h3 := hx 3 _ rfl
  simp only [List.getElem_toArray, List.getElem_cons_zero, List.getElem_cons_succ, c24, c3, c25, c27, List.drop_zero, List.drop_succ_cons, List.take_succ_cons, List.take_zero, List.getElem?_cons_zero, List.getElem?_cons_succ] at h0 h1 h2 h3
  obtain ⟨ys, m', rfl, rfl, _, hly, hy⟩ := DataW.trod_struct Tryz.underlying24 h0
  match ys, hly with
  | [y0, y1], _ =>
  have e0 := hy 0 _ rfl
  have e1 := hy 1 _ rfl
  simp only [List.getElem_toArray, List.getElem_cons_zero, List.getElem_cons_succ, c3, List.drop_zero, List.drop_succ_cons, List.take_succ_cons, List.take_zero, List.getElem?_cons_zero, List.getElem?_cons_succ] at e0 e1
  obtain ⟨n0, q0, _, _⟩ := DataW.trod_int Tryz.underlying3 e0
  obtain ⟨n1, q1, _, _⟩ := DataW.trod_int Tryz.underlying3 e1
  obtain ⟨n2, q2, _, _⟩ := DataW.trod_int Tryz.underlying3 h1
  obtain ⟨zs, m2, hm2, rfl, _, hlz, hz⟩ := DataW.trod_struct Tryz.underlying27 h3
  match zs, hlz with
  | [z0, z1, z2, z3], _ =>
  have g0 := hz 0 _ rfl
  have g1 := hz 1 _ rfl
  have g2 := hz 2 _ rfl
  have g3 := hz 3 _ rfl
  simp only [List.getElem_toArray, List.getElem_cons_zero, List.getElem_cons_succ, c3, c9, List.drop_zero, List.drop_succ_cons, List.take_succ_cons, List.take_zero, List.getElem?_cons_zero, List.getElem?_cons_succ] at g0 g1 g2 g3
  obtain ⟨k0, r0, _, _⟩ := DataW.trod_int Tryz.underlying3 g0
  obtain ⟨s1, r1, r1x, _⟩ := DataW.trod_string Tryz.underlying9 g1
  obtain ⟨s2, r2, r2x, _⟩ := DataW.trod_string Tryz.underlying9 g2
  obtain ⟨k3, r3, _, _⟩ := DataW.trod_int Tryz.underlying3 g3
  simp only [DataW.weights, Tryz.underlying29, List.map_cons, List.map_nil, DataW.weightsEach, List.append_nil, List.mem_append, List.map_toArray] at hw
  obtain ⟨pa, pc, L, q3, hsl⟩ := open_id.slice Tryz.underlying25 (by kernel_rfl) (by rw [show Tryz.prog.bytesOf 81 = 32 by kernel_rfl]; decide) h2 (fun n hn => hw n (by simp [hn]))
  injection q0 with q0
  injection q1 with q1
  injection q2 with q2
  injection q3 with q3
  injection r0 with r0
  injection r1 with r1
  injection r2 with r2
  injection r3 with r3
  subst q0 q1 q2 q3 r0 r1 r2 r3
  exact ⟨⟨⟨n0, n1⟩, n2, L, ⟨k0, s1, s2, k3⟩⟩, (pa, pc), rfl, fun A hA => by simp only [Cell.facts, List.mem_singleton] at hA; subst hA; exact hsl⟩⟩
end Ab
end Go.Proofs.YtdgeffphifgflaaGreat

/- Arguments of the laws, opened. -/
namespace Go.Proofs.YtdgeffphifgflaaGreat
open Go Go.ChangeShapes Go.WideShapes Go.ChangeAt Go.RowKit
set_option linter.unusedVariables false

theorem knobs : ownKnob Tryz.prog.godebug = none := by kernel_rfl
theorem laid : laidOutB Tryz.prog = true := by kernel_rfl

theorem arg_sl {P : Program} {H : Type} {enc : TypeId × Value → H} {W : World} {α : Type} [Ab.Cell α] {t e : TypeId} (hO : Ab.OpenT P α e) (ht : P.underlying t = some (.slice e)) (hc : P.cellsOf e = Ab.Cell.sz α) (hb : 1 ≤ P.bytesOf e)
    {r : Reach} {base : Nat} {v : Value} {d : DataW H} {p : List MemPlace} (hv : Value.okWide P W r base t v) (h : DataW.Trod enc P W 0 (fun _ => true) true t v d p) (hw : ∀ n ∈ d.weights P t, n ≤ reachBytes) :
    ∃ (a : Option Addr) (c : Nat) (L : List α), v = .slice a L.length c ∧ (Ab.sl a c L).holds (fun _ => True) W := by
  obtain ⟨a, len, cap, rfl⟩ := okWide_slice ht hv
  obtain ⟨fuel, hf⟩ := h
  obtain ⟨a', c', L, hcs, hsl⟩ := hO.slice ht hc hb hf hw
  simp [Value.cells] at hcs
  obtain ⟨rfl, rfl, rfl⟩ := hcs
  exact ⟨_, _, L, rfl, hsl⟩

theorem bytes_commit : Tryz.prog.bytesOf 29 = 96 := by kernel_rfl
section
variable {H : Type} {enc : TypeId × Value → H} {W : World} {r : Reach} {base : Nat} {v : Value} {d : DataW H} {p : List MemPlace}
set_option maxRecDepth 100000 in
theorem arg_commits (hv : Value.okWide Tryz.prog W r base 35 v) (h : DataW.Trod enc Tryz.prog W 0 (fun _ => true) true 35 v d p) (hw : ∀ n ∈ d.weights Tryz.prog 35, n ≤ reachBytes) :
    ∃ (a : Option Addr) (c : Nat) (L : List Ab.Commit), v = .slice a L.length c ∧ (Ab.sl a c L).holds (fun _ => True) W :=
  arg_sl Ab.open_commit Tryz.underlying35 (by kernel_rfl) (by rw [bytes_commit]; decide) hv h hw
end
section
variable {H : Type} {enc : TypeId × Value → H} {P : Program} {w : World} {base : Nat} {spare : Nat → Bool} {held : Bool}
end
end Go.Proofs.YtdgeffphifgflaaGreat

/- Contracts: slices.Clone of commits; front.Next. -/
namespace Go.Proofs.YtdgeffphifgflaaGreat
namespace Ab
open Go Go.RowKit
set_option linter.unusedVariables false
set_option linter.unusedSimpArgs false
set_option synthInstance.maxSize 4000
set_option synthInstance.maxHeartbeats 400000
attribute [local irreducible] JC JO JR JQ andThen inBlock OpV Gives retTo JM JS

attribute [local irreducible] hashC idA l0 l1 ents
end Ab
end Go.Proofs.YtdgeffphifgflaaGreat

/- Repositories, messages and what nodes tell one another, in plain words. -/
namespace Go.Proofs.YtdgeffphifgflaaGreat
namespace Ab
open Go Go.RowKit
set_option linter.unusedVariables false
set_option linter.unusedSimpArgs false
set_option synthInstance.maxSize 4000
set_option synthInstance.maxHeartbeats 400000
attribute [local irreducible] JC JO JR JQ andThen inBlock OpV Gives retTo JM JS

attribute [local irreducible] hashC
/-- A repository. -/
structure Nd where
  no : Int
  disk : List UInt8
  room : Int
  l : List Commit
  wait : List Commit
  seq : Int
  up : Bool
  peers : List Int
  next : Int
  miss : Int
/-- Where its rows lie. -/
structure Na where
  d : Option Addr
  dk : Nat
  l : Option Addr
  lk : Nat
  w : Option Addr
  wk : Nat
  p : Option Addr
  pk : Nat
abbrev ndC (n : Nd) (y : Na) : List Value := [.int .i64 n.no, .slice y.d n.disk.length y.dk, .int .i64 n.room, .slice y.l n.l.length y.lk, .slice y.w n.wait.length y.wk, .int .i64 n.seq, .bool n.up, .slice y.p n.peers.length y.pk, .int .i64 n.next, .int .i64 n.miss]
/-- A message. -/
structure Mg where
  kind : Int
  ids : List ID
  commits : List Commit
structure Ma where
  i : Option Addr
  ik : Nat
  c : Option Addr
  ck : Nat
abbrev mgC (m : Mg) (y : Ma) : List Value := [.int .i64 m.kind, .slice y.i m.ids.length y.ik, .slice y.c m.commits.length y.ck]
noncomputable section
end
end Ab
end Go.Proofs.YtdgeffphifgflaaGreat

/- Arguments: repositories, messages, words, opened. -/
namespace Go.Proofs.YtdgeffphifgflaaGreat
namespace Ab
open Go Go.RowKit
set_option linter.unusedVariables false
set_option linter.unusedSimpArgs false
instance : Cell Nd where
  Ix := Na
  sz := 10
  cells n y := ndC n y
  facts n y := [sl y.d y.dk n.disk, sl y.l y.lk n.l, sl y.w y.wk n.wait, sl y.p y.pk n.peers]
  len _ _ := rfl
  one n y := by
    intro v hv
    simp only [List.mem_cons, List.not_mem_nil, or_false] at hv
    rcases hv with rfl | rfl | rfl | rfl | rfl | rfl | rfl | rfl | rfl | rfl <;> rfl
  pos := by decide
instance : Cell Mg where
  Ix := Ma
  sz := 3
  cells n y := mgC n y
  facts n y := [sl y.i y.ik n.ids, sl y.c y.ck n.commits]
  len _ _ := rfl
  one n y := by
    intro v hv
    simp only [List.mem_cons, List.not_mem_nil, or_false] at hv
    rcases hv with rfl | rfl | rfl <;> rfl
  pos := by decide
end Ab
open Go.ChangeShapes Go.WideShapes Go.ChangeAt
section
variable {H : Type} {enc : TypeId × Value → H} {W : World} {r : Reach} {base : Nat} {v : Value} {d : DataW H} {p : List MemPlace}
set_option maxRecDepth 100000 in
theorem arg_byte (hv : Value.okWide Tryz.prog W r base 5 v) : ∃ x : UInt8, v = .int .u8 (x.toNat : Int) := by
  simp only [Value.okWide, Tryz.underlying5, Cell.okWide] at hv
  cases v <;> simp_all [Cell.ok, IntKind.has, IntKind.min, IntKind.max, IntKind.signed, IntKind.bits]
  rename_i k n
  obtain ⟨rfl, h1, h2⟩ := hv
  exact ⟨UInt8.ofNat n.toNat, by rw [UInt8.toNat_ofNat']; omega⟩
end
end Go.Proofs.YtdgeffphifgflaaGreat
