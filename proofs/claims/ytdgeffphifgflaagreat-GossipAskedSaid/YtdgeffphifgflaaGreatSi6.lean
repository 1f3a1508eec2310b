/- Lemmas for the walks, part 6 of 6: GsF, Bound, GsG, GsH, GsI, StB, StC, GsJ, GsK, GsN, Entry, Shut, ShutN. -/
import Derived.Test.YtdgeffphifgflaaGreatSi5
import Derived.Test.YtdgeffphifgflaaGreatSi3
import Derived.Test.YtdgeffphifgflaaGreatSi2
import Derived.Test.YtdgeffphifgflaaGreatSi4
import Derived.SizedLaws
import Derived.ChangeArms
import Derived.KernelRfl
import Derived.OpenShut
import Derived.Test.YtdgeffphifgflaaGreatRows
import Derived.ProofKit
import Derived.Carry
namespace Go.Proofs.YtdgeffphifgflaaGreat
namespace Ab
open Go Go.RowKit
set_option linter.unusedVariables false
set_option linter.unusedSimpArgs false
set_option synthInstance.maxSize 4000
set_option synthInstance.maxHeartbeats 400000
attribute [local irreducible] JC JO JR JQ andThen inBlock OpV Gives retTo JM JS
attribute [local irreducible] hashC
theorem parents_bound : ∀ {L : List Commit}, (∀ c ∈ L, c.parents.length ≤ 1000) → (parentsL L).length ≤ 1000 * L.length
  | [], _ => by simp [parentsL]
  | c :: L, h => by
    have h1 := h c (by simp)
    have h2 := parents_bound (L := L) (fun x hx => h x (by simp [hx]))
    have h3 : parentsL (c :: L) = c.parents ++ parentsL L := by simp [parentsL]
    rw [h3, List.length_append, List.length_cons]
    omega
theorem missL_le (L : List Commit) (I : List ID) : (missL L I).length ≤ (parentsL L).length := by
  unfold missL
  exact someF_le _ _ _
section
variable {P : Commit → Prop}
theorem settleF_wait : ∀ (f : Nat) {n : Nd}, (∀ x ∈ n.wait, P x) → ∀ x ∈ (settleF f n).wait, P x
  | 0, n, h => h
  | f + 1, n, h => by
    unfold settleF
    split
    · rename_i hr
      refine settleF_wait f ?_
      rw [settle1_wait]
      exact fun x hx => h x ((ready_is (L := n.wait) (rc := (waitReady n.wait (idsP n.l)).1) (rl := (waitReady n.wait (idsP n.l)).2.1) (H := idsP n.l) (by rw [← hr])).2.2.1 x hx)
    · exact h
theorem takeN_wait {n : Nd} {c : Commit} (h : ∀ x ∈ n.wait, P x) (hc : P c) : ∀ x ∈ (takeN n c).wait, P x := by
  unfold takeN
  split
  · refine settleF_wait _ (fun x hx => ?_)
    rcases waitPut_sub hx with hx | rfl
    · exact h x hx
    · exact hc
  · exact h
theorem takes_wait : ∀ (l : List Commit) {n : Nd}, (∀ x ∈ n.wait, P x) → (∀ x ∈ l, P x) → ∀ x ∈ (l.foldl takeN n).wait, P x
  | [], n, h, _ => h
  | c :: l, n, h, hl => takes_wait l (takeN_wait h (hl c (by simp))) (fun x hx => hl x (by simp [hx]))
theorem takeL_wait {n : Nd} {l : List Commit} (h : ∀ x ∈ n.wait, P x) (hl : ∀ x ∈ l, P x) : ∀ x ∈ (takeL n l).wait, P x := by
  unfold takeL
  split
  · exact takes_wait l h hl
  · exact h
end
theorem takeL_few {n : Nd} {l : List Commit} (h : NdFew n) (hl : ∀ c ∈ l, fine c) : (∀ x ∈ (takeL n l).l, fine x) ∧ (∀ x ∈ (takeL n l).wait, fine x) ∧ (takeL n l).disk.length ≤ 1048576 ∧ (takeL n l).l.length + (takeL n l).wait.length ≤ 800 + l.length := by
  unfold takeL
  split
  · rename_i hm
    have h1 : ndMay n = true := by simp only [Bool.and_eq_true] at hm; exact hm.1
    have h2 := takes_ok (N := 800) (n := n) ⟨h.fl, h.fw, h.disk, (ndMay_room h1).1, h.len⟩ l hl
    exact ⟨h2.fl, h2.fw, h2.disk, h2.len⟩
  · exact ⟨h.fl, h.fw, h.disk, by have := h.len; omega⟩
section
variable {w0 w : World} {F : Nat → Prop} {Γ : List Fact} {bh : Nat}
set_option maxHeartbeats 8000000 in
theorem given_hearer (n : Nd) (y : Na) (m : Mg) (z : Ma) (hn : NdFew n) (hL : m.commits.length ≤ 90) (hfc : ∀ c ∈ m.commits, fine c) (hq : ∀ x ∈ n.wait, x.parents.length ≤ 1000) (hqc : ∀ x ∈ m.commits, x.parents.length ≤ 1000) (ho : Hold w0 F (.own bh 112 (heC n y mg0 ma0 false) :: .st (sl y.d y.dk n.disk) :: .st (sl y.l y.lk n.l) :: .st (sl y.w y.wk n.wait) :: .st (sl y.p y.pk n.peers) :: .st (sl z.i z.ik m.ids) :: .st (sl z.c z.ck m.commits) :: Γ) w) :
    Calls Tryz.prog 78 ⟨[.pointer (some ⟨bh, 0, none⟩), mgV m z]⟩ w fun x w' => ∃ q : Na × Ma, x = .returned (.tuple ⟨[]⟩) ∧ Hold w0 F ((fun q => .own bh 112 (heC (takeL n m.commits) q.1 (wantM (missL (takeL n m.commits).wait (idsP (takeL n m.commits).l))).1 q.2 (wantM (missL (takeL n m.commits).wait (idsP (takeL n m.commits).l))).2) :: .st (sl q.2.i q.2.ik (wantM (missL (takeL n m.commits).wait (idsP (takeL n m.commits).l))).1.ids) :: .st (sl q.2.c q.2.ck (wantM (missL (takeL n m.commits).wait (idsP (takeL n m.commits).l))).1.commits) :: .st (sl q.1.d q.1.dk (takeL n m.commits).disk) :: .st (sl q.1.l q.1.lk (takeL n m.commits).l) :: .st (sl q.1.w q.1.wk (takeL n m.commits).wait) :: .st (sl q.1.p q.1.pk (takeL n m.commits).peers) :: Γ) q) w' := by
  refine calls_of (v := fun q : Na × Ma => .tuple ⟨[]⟩) (B := fun q => .own bh 112 (heC (takeL n m.commits) q.1 (wantM (missL (takeL n m.commits).wait (idsP (takeL n m.commits).l))).1 q.2 (wantM (missL (takeL n m.commits).wait (idsP (takeL n m.commits).l))).2) :: .st (sl q.2.i q.2.ik (wantM (missL (takeL n m.commits).wait (idsP (takeL n m.commits).l))).1.ids) :: .st (sl q.2.c q.2.ck (wantM (missL (takeL n m.commits).wait (idsP (takeL n m.commits).l))).1.commits) :: .st (sl q.1.d q.1.dk (takeL n m.commits).disk) :: .st (sl q.1.l q.1.lk (takeL n m.commits).l) :: .st (sl q.1.w q.1.wk (takeL n m.commits).wait) :: .st (sl q.1.p q.1.pk (takeL n m.commits).peers) :: Γ) Tryz.func78 rfl Tryz.ntmps78 rfl rfl _ ho ?_
  obtain ⟨hfl2, hfw2, hdk2, hln2⟩ := takeL_few hn hfc
  have hpw := parents_bound (takeL_wait (P := fun x => x.parents.length ≤ 1000) (l := m.commits) hq hqc)
  rcases n with ⟨no, disk, room, l, wait, seq, up, peers, next, miss⟩
  rcases y with ⟨ad, kd, al, kl, aw, kw, ap, kp⟩
  rcases m with ⟨kind, ids, cs⟩
  rcases z with ⟨ai, ki, ac, kc⟩
  dsimp only [mgV, mgC, heC, mg0, ma0, List.length_nil] at *
  generalize hn2 : takeL ⟨no, disk, room, l, wait, seq, up, peers, next, miss⟩ cs = n2 at hfl2 hfw2 hdk2 hln2 hpw
  repeat (first|refine Wa ?_|refine Wb ?_|refine Wc ?_|refine Wd ?_|refine We rfl ?_|(refine Wh rfl ?_; intro _))
  rename_i bm
  refine JC.drawP mixed ?_
  refine JP.pure 0 rfl (by kernel_rfl) rfl (fun _ => Va) rfl rfl ?_
  refine JP.pure 1 rfl (by kernel_rfl) rfl (fun _ => Va) rfl rfl ?_
  refine JP.pure 2 rfl (by kernel_rfl) rfl (fun _ => OpV.nilCheck) rfl rfl ?_
  refine JP.pure 3 rfl (by kernel_rfl) rfl (fun _ => Vd) rfl rfl ?_
  refine JP.take 4 [.own bh 112 [.int .i64 no, .slice ad disk.length kd, .int .i64 room, .slice al l.length kl, .slice aw wait.length kw, .int .i64 seq, .bool up, .slice ap peers.length kp, .int .i64 next, .int .i64 miss, .int .i64 0, .slice none 0 0, .slice none 0 0, .bool false]] rfl (by kernel_rfl) rfl Vc rfl rfl ?_
  refine JP.pure 5 rfl (by kernel_rfl) rfl (fun _ => Vd) rfl rfl ?_
  refine JP.take 6 [.own bm 52 [.int .i64 kind, .slice ai ids.length ki, .slice ac cs.length kc]] rfl (by kernel_rfl) rfl Vc rfl rfl ?_
  refine JP.op 7 (by kernel_rfl) rfl rfl (JR.call (v := fun z : Na => ndV n2 z) (B := fun z => ndB n2 z) rfl (fun w1 hw => by rw [← hn2]; exact take_branch w1 _ ⟨no, disk, room, l, wait, seq, up, peers, next, miss⟩ ⟨ad, kd, al, kl, aw, kw, ap, kp⟩ cs ac kc (hw.get (A := sl ad kd disk)) (hw.get (A := sl al kl l)) (hw.get (A := sl aw kw wait)) (hw.get (A := sl ap kp peers)) (hw.get (A := sl ac kc cs)) hn (by omega) hfc) (fun z2 => Wd ⟨rfl, (by repeat (first|exact Obs.nil|refine Obs.keep ?_|refine Obs.skip (by kernel_rfl) ?_)), ?_⟩))
  dsimp only [ndB, ndV, ndC, List.cons_append, List.nil_append]
  refine JP.pure 8 rfl (by kernel_rfl) rfl (fun _ => OpV.nilCheck) rfl rfl ?_
  refine JP.pure 9 rfl (by kernel_rfl) rfl (fun _ => Vd) rfl rfl ?_
  refine JP.reslot 13 (.pointer (some ⟨bh, 0, none⟩)) rfl ?_
  refine JP.op 10 (by kernel_rfl) rfl rfl (Wi (Wd ⟨rfl, (by repeat (first|exact Obs.nil|refine Obs.keep ?_|refine Obs.skip (by kernel_rfl) ?_)), ?_⟩))
  refine JP.nil (by kernel_rfl) ?_
  repeat (refine Wa ?_)
  refine JC.drawP mixed ?_
  refine JP.pure 0 rfl (by kernel_rfl) rfl (fun _ => Va) rfl rfl ?_
  refine JP.pure 1 rfl (by kernel_rfl) rfl (fun _ => Va) rfl rfl ?_
  refine JP.pure 2 rfl (by kernel_rfl) rfl (fun _ => OpV.nilCheck) rfl rfl ?_
  refine JP.pure 3 rfl (by kernel_rfl) rfl (fun _ => Vd) rfl rfl ?_
  refine JP.pure 4 rfl (by kernel_rfl) rfl (fun _ => Vd) rfl rfl ?_
  refine JP.take 5 [.own bh 112 [.int .i64 n2.no, .slice z2.d n2.disk.length z2.dk, .int .i64 n2.room, .slice z2.l n2.l.length z2.lk, .slice z2.w n2.wait.length z2.wk, .int .i64 n2.seq, .bool n2.up, .slice z2.p n2.peers.length z2.pk, .int .i64 n2.next, .int .i64 n2.miss, .int .i64 0, .slice none 0 0, .slice none 0 0, .bool false]] rfl (by kernel_rfl) rfl Vc rfl rfl ?_
  refine JP.pure 6 rfl (by kernel_rfl) rfl (fun _ => Va) rfl rfl ?_
  refine JP.pure 7 rfl (by kernel_rfl) rfl (fun _ => OpV.nilCheck) rfl rfl ?_
  refine JP.pure 8 rfl (by kernel_rfl) rfl (fun _ => Vd) rfl rfl ?_
  refine JP.pure 9 rfl (by kernel_rfl) rfl (fun _ => Vd) rfl rfl ?_
  refine JP.take 10 [.own bh 112 [.int .i64 n2.no, .slice z2.d n2.disk.length z2.dk, .int .i64 n2.room, .slice z2.l n2.l.length z2.lk, .slice z2.w n2.wait.length z2.wk, .int .i64 n2.seq, .bool n2.up, .slice z2.p n2.peers.length z2.pk, .int .i64 n2.next, .int .i64 n2.miss, .int .i64 0, .slice none 0 0, .slice none 0 0, .bool false]] rfl (by kernel_rfl) rfl Vc rfl rfl ?_
  refine JP.op 11 (by kernel_rfl) rfl rfl (JR.callBuf rfl (fun w1 hw => ids_buf w1 _ z2.l z2.lk n2.l (hw.get (A := sl z2.l z2.lk n2.l)) (by omega) hfl2) (fun a4 k4 => Wd ⟨rfl, (by repeat (first|exact Obs.nil|refine Obs.keep ?_|refine Obs.skip (by kernel_rfl) ?_)), ?_⟩))
  refine JP.more (fun w1 ho => ho.pub) ?_
  refine JP.op 12 (by kernel_rfl) rfl rfl (JR.callBuf rfl (fun w1 hw => missing_wait w1 _ z2.w a4 z2.wk k4 n2.wait (idsP n2.l) (hw.get (A := sl z2.w z2.wk n2.wait)) (hw.get (A := sl a4 k4 (idsP n2.l))) (by have := idsP_le n2.l; omega) (by omega) hfw2) (fun a5 k5 => Wd ⟨rfl, (by repeat (first|exact Obs.nil|refine Obs.keep ?_|refine Obs.skip (by kernel_rfl) ?_)), ?_⟩))
  refine JP.more (fun w1 ho => ho.pub) ?_
  generalize hms : missL n2.wait (idsP n2.l) = ms
  refine JP.more (Γ' := .own bh 112 [.int .i64 n2.no, .slice z2.d n2.disk.length z2.dk, .int .i64 n2.room, .slice z2.l n2.l.length z2.lk, .slice z2.w n2.wait.length z2.wk, .int .i64 n2.seq, .bool n2.up, .slice z2.p n2.peers.length z2.pk, .int .i64 n2.next, .int .i64 n2.miss, .int .i64 0, .slice none 0 0, .slice none 0 0, .bool false] :: .st (sl a5 k5 ms) :: .st (sl z2.d z2.dk n2.disk) :: .st (sl z2.l z2.lk n2.l) :: .st (sl z2.w z2.wk n2.wait) :: .st (sl z2.p z2.pk n2.peers) :: Γ) (fun w1 ho => ho.ent) ?_
  refine JP.op 13 (by kernel_rfl) rfl rfl (JR.callW (v := fun q : Ma => .tuple ⟨[]⟩) (B := fun q => .own bh 112 (heC n2 z2 (wantM ms).1 q (wantM ms).2) :: .st (sl q.i q.ik (wantM ms).1.ids) :: .st (sl q.c q.ck (wantM ms).1.commits) :: .st (sl z2.d z2.dk n2.disk) :: .st (sl z2.l z2.lk n2.l) :: .st (sl z2.w z2.wk n2.wait) :: .st (sl z2.p z2.pk n2.peers) :: Γ) rfl (fun w1 hw => want_hearer n2 z2 ms a5 k5 (by have := missL_le n2.wait (idsP n2.l); rw [hms] at this; omega) hw) (fun q => Wd ⟨rfl, (by repeat (first|exact Obs.nil|refine Obs.keep ?_|refine Obs.skip (by kernel_rfl) ?_)), ?_⟩))
  refine JP.nil (by kernel_rfl) ?_
  skip
  exact CT.doneN (z2, q) rfl (fun w ho => ho)
end
end Ab
end Go.Proofs.YtdgeffphifgflaaGreat
namespace Go.Proofs.YtdgeffphifgflaaGreat
namespace Ab
open Go Go.RowKit
set_option linter.unusedVariables false
section
variable {P : Program} {n : Nn} {w0 : World} {F : Nat → Prop} {ops : Array Oper} {i d : Nat} {t : TypeId} {pos : String} {aft : Array Edge} {g : Option (Nat × Bool)} {os : List Oper} {Q : Cont} {e : E} {Γ : List Fact} [Dr]
theorem JR.callWF {f : Operand} {args : Array Operand} {ats : Array TypeId} {fid : FuncId} {firsts vs us : List Value} {Y : Type} {v : Y → Value} {B : Y → List Fact}
    [hf : Ev e f (.func (.func fid) ⟨firsts⟩ ⟨[]⟩)] [hv : ArgVs e args.toList vs] [hu : App firsts vs us] [hb : Body P fid] (hd : Nat.blt d n.s = true)
    (hg : ∀ w, Hold w0 F Γ w → Calls P fid ⟨us⟩ w fun x w' => ∃ y, x = .returned (v y) ∧ Hold w0 F (B y) w') (k : ∀ y, JO P n w0 F ops (i + 1) os Q ((d, v y) :: e) (B y)) :
    JR P n w0 F ops i ⟨some d, .call ⟨.value f, args, ats⟩, t, pos, aft, g⟩ os Q e Γ := by
  intro hdr a w fr ho
  unfold Oper.wp
  have e1 := hf.ok n a fr
  have e2 : args.map a.eval = ⟨vs⟩ := by apply Array.ext'; simp [hv.ok n a fr]
  have e0 : (resolve a.eval ⟨.value f, args, ats⟩ t).run P w = .ok ⟨.fn (.func fid) ⟨[]⟩, (⟨firsts⟩ : Array Value) ++ args.map a.eval⟩ w := by
    simp [resolve, e1, Deferred.ofValue]
  have e3 : (⟨firsts⟩ : Array Value) ++ (⟨vs⟩ : Array Value) ++ (⟨[]⟩ : Array Value) = ⟨us⟩ := by apply Array.ext'; simp [← hu.ok]
  have e4 : (execOp a.eval ⟨some d, .call ⟨.value f, args, ats⟩, t, pos, aft, g⟩).run P w = .ok (.enter fid ⟨us⟩) w := by
    simp only [execOp, Sem.run_bind, e0, Result.andThen_ok, invoke, e2, e3, hb.ok]
  rw [e4]
  refine Calls.mono (hg w ho) ?_
  rintro x w' ⟨y, rfl, ho'⟩
  exact k y (drop_at hdr).2 _ w' (fr.put hd _) ho'
end
end Ab
end Go.Proofs.YtdgeffphifgflaaGreat
namespace Go.Proofs.YtdgeffphifgflaaGreat
namespace Ab
open Go Go.RowKit
set_option linter.unusedVariables false
set_option linter.unusedSimpArgs false
set_option synthInstance.maxSize 4000
set_option synthInstance.maxHeartbeats 400000
attribute [local irreducible] JC JO JR JQ andThen inBlock OpV Gives retTo JM JS
attribute [local irreducible] hashC
theorem ids16 {k : Int} {ids : List ID} {cs : List Commit} (h : mgMay ⟨k, ids, cs⟩ = true) (hk : k = 0 ∨ k = 1) : ids.length ≤ 16 := by
  unfold mgMay at h
  rw [if_pos hk] at h
  simp only [Bool.and_eq_true, decide_eq_true_eq] at h
  exact h.1.1
theorem mgKinds {k : Int} {ids : List ID} {cs : List Commit} (h : mgMay ⟨k, ids, cs⟩ = true) : k = 0 ∨ k = 1 ∨ k = 2 := by
  by_cases h0 : k = 0
  · exact .inl h0
  by_cases h1 : k = 1
  · exact .inr (.inl h1)
  by_cases h2 : k = 2
  · exact .inr (.inr h2)
  unfold mgMay at h
  rw [if_neg (by rintro (h | h); exact h0 h; exact h1 h), if_neg h2] at h
  cases h
theorem hear_not {n : Nd} {m : Mg} (h : (ndMay n && n.up && mgMay m) = false) : hearN n m = (n, mg0, false) := if_neg (by rw [h]; exact Bool.false_ne_true)
set_option maxHeartbeats 8000000 in
theorem hear_gossip (w : World) (F : Nat → Prop) (n : Nd) (y : Na) (m : Mg) (z : Ma) (h1 : (sl y.d y.dk n.disk).holds F w) (h2 : (sl y.l y.lk n.l).holds F w) (h3 : (sl y.w y.wk n.wait).holds F w) (h4 : (sl y.p y.pk n.peers).holds F w) (h5 : (sl z.i z.ik m.ids).holds F w) (h6 : (sl z.c z.ck m.commits).holds F w)
    (hn : NdFew n) (hcl : m.commits.length ≤ 90) (hfc : ∀ c ∈ m.commits, fine c) (hq : ∀ x ∈ n.wait, x.parents.length ≤ 1000) (hqc : ∀ x ∈ m.commits, x.parents.length ≤ 1000) :
    Gives Tryz.prog 31 [ndV n y, mgV m z] w F (fun q : Na × Ma => .tuple ⟨[ndV (hearN n m).1 q.1, mgV (hearN n m).2.1 q.2, .bool (hearN n m).2.2]⟩)
      (fun q => [.st (sl q.1.d q.1.dk (hearN n m).1.disk), .st (sl q.1.l q.1.lk (hearN n m).1.l), .st (sl q.1.w q.1.wk (hearN n m).1.wait), .st (sl q.1.p q.1.pk (hearN n m).1.peers), .st (sl q.2.i q.2.ik (hearN n m).2.1.ids), .st (sl q.2.c q.2.ck (hearN n m).2.1.commits)]) := by
  have hst := (Hold.start4 h1 h2 h3 h4).add (A := sl z.c z.ck m.commits) (Asn.mono _ _ _ _ (fun k hk => ⟨.inl hk, by simp [free, Fact.owns]⟩) h6)
  have hst := hst.add (A := sl z.i z.ik m.ids) (Asn.mono _ _ _ _ (fun k hk => ⟨.inl hk, by simp [free, Fact.owns]⟩) h5)
  have hn' := hn
  obtain ⟨no, disk, room, l, wait, seq, up, peers, next, miss⟩ := n
  obtain ⟨ad, kd, al, kl, aw, kw, ap, kp⟩ := y
  obtain ⟨kind, ids, cs⟩ := m
  obtain ⟨ai, ki, ac, kc⟩ := z
  dsimp only [ndV, ndC, mgV, mgC] at *
  refine gives_of Tryz.func31 rfl Tryz.ntmps31 rfl rfl _ hst ?_
  repeat (first|refine Wa ?_|refine Wb ?_|refine Wc ?_|refine Wd ?_|refine We rfl ?_|refine Wf (by first|exact Vb|exact Vc) rfl ?_|(refine Wg rfl ?_; intro _)|(refine Wh rfl ?_; intro _))
  rename_i bn bm b4 b5
  refine JR.call (v := fun z : Na => ndV ⟨no, disk, room, l, wait, seq, up, peers, next, miss⟩ z) (B := fun z => ndB ⟨no, disk, room, l, wait, seq, up, peers, next, miss⟩ z) rfl (fun w1 hw => own_gossip w1 _ ⟨no, disk, room, l, wait, seq, up, peers, next, miss⟩ ⟨ad, kd, al, kl, aw, kw, ap, kp⟩ (hw.get (A := sl ad kd disk)) (hw.get (A := sl al kl l)) (hw.get (A := sl aw kw wait)) (hw.get (A := sl ap kp peers)) hn) ?_
  rintro ⟨ad2, kd2, al2, kl2, aw2, kw2, ap2, kp2⟩
  dsimp only [ndB, ndV, ndC, List.cons_append, List.nil_append]
  repeat (refine We rfl ?_)
  refine Wf (OpV.build [.int .i64 no, .slice ad2 disk.length kd2, .int .i64 room, .slice al2 l.length kl2, .slice aw2 wait.length kw2, .int .i64 seq, .bool up, .slice ap2 peers.length kp2, .int .i64 next, .int .i64 miss, .int .i64 0, .slice none 0 0, .slice none 0 0, .bool false] (by kernel_rfl)) rfl ?_
  repeat (first|refine Wa ?_|refine Wb ?_|refine Wc ?_|refine Wd ?_|refine We rfl ?_|refine Wf (by first|exact Vb|exact Vc) rfl ?_|(refine Wh rfl ?_; intro _))
  rename_i bh
  refine JR.callV rfl (fun w1 hw => may_branch w1 _ ⟨no, disk, room, l, wait, seq, up, peers, next, miss⟩ ⟨ad, kd, al, kl, aw, kw, ap, kp⟩ (hw.get (A := sl ad kd disk)) (hw.get (A := sl al kl l)) (hw.get (A := sl aw kw wait)) hn.fw) ?_
  cases hm : ndMay ⟨no, disk, room, l, wait, seq, up, peers, next, miss⟩ with
  | false =>
    have hx := hm
    rw [hear_not (by rw [hx]; simp)]
    dsimp only [mg0, List.length_nil]
    repeat (first|refine Wa ?_|refine Wb ?_|refine Wc ?_|refine Wd ?_|refine We rfl ?_|refine Wf (by first|exact Va|exact Vh|exact Vi) rfl ?_|refine Wj ?_|refine Wv rfl rfl ?_)
    refine Wf OpV.nilCheck rfl ?_
    repeat (first|refine We rfl ?_|refine Wf (by first|exact Vc|exact Vd) rfl ?_)
    refine Wf (OpV.build [.int .i64 0, .slice none 0 0, .slice none 0 0] (by kernel_rfl)) rfl ?_
    repeat (first|refine Wa ?_|refine Wd ?_|refine We rfl ?_|refine Wf (by exact Vb) rfl ?_|refine Wi ?_|refine Ws ?_|refine Wt ?_)
    exact CT.done (Y := Na × Ma) (⟨ad2, kd2, al2, kl2, aw2, kw2, ap2, kp2⟩, ⟨none, 0, none, 0⟩) rfl (fun w ho => ((ho.add (A := sl (α := Commit) none 0 []) sl_nil).add (A := sl (α := ID) none 0 []) sl_nil).ent)
  | true =>
  cases up with
  | false =>
    have hx := hm
    rw [hear_not (by rw [hx]; simp)]
    dsimp only [mg0, List.length_nil]
    repeat (first|refine Wa ?_|refine Wb ?_|refine Wc ?_|refine Wd ?_|refine We rfl ?_|refine Wf (by first|exact Va|exact Vc|exact Vd|exact Vh|exact Vi|exact Vj) rfl ?_|refine Wj ?_|refine Wv rfl rfl ?_)
    refine Wf OpV.nilCheck rfl ?_
    repeat (first|refine We rfl ?_|refine Wf (by first|exact Vc|exact Vd) rfl ?_)
    refine Wf (OpV.build [.int .i64 0, .slice none 0 0, .slice none 0 0] (by kernel_rfl)) rfl ?_
    repeat (first|refine Wa ?_|refine Wd ?_|refine We rfl ?_|refine Wf (by exact Vb) rfl ?_|refine Wi ?_|refine Ws ?_|refine Wt ?_)
    exact CT.done (Y := Na × Ma) (⟨ad2, kd2, al2, kl2, aw2, kw2, ap2, kp2⟩, ⟨none, 0, none, 0⟩) rfl (fun w ho => ((ho.add (A := sl (α := Commit) none 0 []) sl_nil).add (A := sl (α := ID) none 0 []) sl_nil).ent)
  | true =>
  repeat (first|refine We rfl ?_|refine Wf (by first|exact Va|exact Vc|exact Vd|exact Vh|exact Vj) rfl ?_)
  refine JR.callV rfl (fun w1 hw => may_msg w1 _ ⟨kind, ids, cs⟩ ⟨ai, ki, ac, kc⟩ (hw.get (A := sl ai ki ids)) (hw.get (A := sl ac kc cs)) hfc) ?_
  cases hmm : mgMay ⟨kind, ids, cs⟩ with
  | false =>
    have hx := hmm
    rw [hear_not (by rw [hx]; simp)]
    dsimp only [mg0, List.length_nil]
    repeat (first|refine Wa ?_|refine Wb ?_|refine Wc ?_|refine Wd ?_|refine We rfl ?_|refine Wf (by first|exact Va|exact Vh|exact Vj) rfl ?_|refine Wj ?_)
    refine Wf OpV.nilCheck rfl ?_
    repeat (first|refine We rfl ?_|refine Wf (by first|exact Vc|exact Vd) rfl ?_)
    refine Wf (OpV.build [.int .i64 0, .slice none 0 0, .slice none 0 0] (by kernel_rfl)) rfl ?_
    repeat (first|refine Wa ?_|refine Wd ?_|refine We rfl ?_|refine Wf (by exact Vb) rfl ?_|refine Wi ?_|refine Ws ?_|refine Wt ?_)
    exact CT.done (Y := Na × Ma) (⟨ad2, kd2, al2, kl2, aw2, kw2, ap2, kp2⟩, ⟨none, 0, none, 0⟩) rfl (fun w ho => ((ho.add (A := sl (α := Commit) none 0 []) sl_nil).add (A := sl (α := ID) none 0 []) sl_nil).ent)
  | true =>
  have hn1 : NdFew ⟨no, disk, room, l, wait, seq, true, peers, next, 0⟩ := ⟨hn'.fl, hn'.fw, hn'.disk, hn'.len, hn'.peers⟩
  repeat (first|refine Wa ?_|refine Wb ?_|refine Wc ?_|refine Wd ?_|refine We rfl ?_|refine Wf (by first|exact Va|exact Vh|exact Vj) rfl ?_|refine Wk ?_|refine Wl ?_)
  refine Wf OpV.nilCheck rfl ?_
  repeat (first|refine Wa ?_|refine Wb ?_|refine Wc ?_|refine Wd ?_|refine We rfl ?_|refine Wf (by exact Vd) rfl ?_|refine Wi ?_)
  refine JR.makeMap intV rfl ?_
  intro mk
  repeat (first|refine We rfl ?_|refine Wf (by first|exact Va|exact Vr) rfl ?_)
  refine JR.insert (M := []) (0 : Int) List.nodup_nil rfl ?_
  dsimp only [List.nil_append, List.length_cons, List.length_nil]
  repeat (first|refine We rfl ?_|refine Wf (by first|exact Va|exact Vr) rfl ?_)
  refine JR.insert (M := [((0 : Int), _)]) (1 : Int) (by show ([0] : List Int).Nodup; decide) rfl ?_
  dsimp only [List.nil_append, List.cons_append, List.length_cons, List.length_nil]
  repeat (first|refine We rfl ?_|refine Wf (by first|exact Va|exact Vr) rfl ?_)
  refine JR.insert (M := [((0 : Int), _), ((1 : Int), _)]) (2 : Int) (by show ([0, 1] : List Int).Nodup; decide) rfl ?_
  dsimp only [List.nil_append, List.cons_append, List.length_cons, List.length_nil]
  repeat (first|refine We rfl ?_|refine Wf (by first|exact Va|exact Vc|exact Vd) rfl ?_)
  rcases mgKinds hmm with hk | hk | hk
  · obtain rfl : kind = 0 := hk
    refine Wf (OpV.lookupNo (M := [((0 : Int), .func (.func 76) ⟨[.pointer (some ⟨bh, 0, none⟩)]⟩ ⟨[]⟩), ((1 : Int), .func (.func 77) ⟨[.pointer (some ⟨bh, 0, none⟩)]⟩ ⟨[]⟩), ((2 : Int), .func (.func 78) ⟨[.pointer (some ⟨bh, 0, none⟩)]⟩ ⟨[]⟩)]) (v := .func (.func 76) ⟨[.pointer (some ⟨bh, 0, none⟩)]⟩ ⟨[]⟩) (0 : Int) (by show ([0, 1, 2] : List Int).Nodup; decide) rfl) rfl ?_
    repeat (first|refine Wa ?_|refine Wb ?_|refine Wc ?_|refine Wd ?_|refine We rfl ?_|refine Wf (by first|exact Va|exact Vb|exact Vc) rfl ?_)
    have e9 : hearN ⟨no, disk, room, l, wait, seq, true, peers, next, miss⟩ ⟨0, ids, cs⟩ = (⟨no, disk, room, l, wait, seq, true, peers, next, 0⟩, digestM l ids) := by unfold hearN; rw [hm, hmm]; rfl
    rw [e9]
    generalize hD : digestM l ids = D
    refine JR.more (Γ' := .own bh 112 [.int .i64 no, .slice ad2 disk.length kd2, .int .i64 room, .slice al2 l.length kl2, .slice aw2 wait.length kw2, .int .i64 seq, .bool true, .slice ap2 peers.length kp2, .int .i64 next, .int .i64 0, .int .i64 0, .slice none 0 0, .slice none 0 0, .bool false] :: .st (sl ad2 kd2 disk) :: .st (sl al2 kl2 l) :: .st (sl aw2 kw2 wait) :: .st (sl ap2 kp2 peers) :: .st (sl ai ki ids) :: .st (sl ac kc cs) :: [.own b4 50 [.int .i64 0, .slice none 0 0, .int .i64 0, .slice none 0 0, .slice none 0 0, .int .i64 0, .bool false, .slice none 0 0, .int .i64 0, .int .i64 0], .own b5 52 [.int .i64 0, .slice none 0 0, .slice none 0 0]]) (fun w1 ho => ho.ent) ?_
    refine JR.callWF (v := fun _ => .tuple ⟨[]⟩) (B := fun q : Ma => .own bh 112 (heC ⟨no, disk, room, l, wait, seq, true, peers, next, 0⟩ ⟨ad2, kd2, al2, kl2, aw2, kw2, ap2, kp2⟩ D.1 q D.2) :: .st (sl q.i q.ik D.1.ids) :: .st (sl q.c q.ck D.1.commits) :: .st (sl ad2 kd2 disk) :: .st (sl al2 kl2 l) :: .st (sl aw2 kw2 wait) :: .st (sl ap2 kp2 peers) :: [.own b4 50 [.int .i64 0, .slice none 0 0, .int .i64 0, .slice none 0 0, .slice none 0 0, .int .i64 0, .bool false, .slice none 0 0, .int .i64 0, .int .i64 0], .own b5 52 [.int .i64 0, .slice none 0 0, .slice none 0 0]]) rfl (fun w1 hw => by have h9 := digest_hearer ⟨no, disk, room, l, wait, seq, true, peers, next, 0⟩ ⟨ad2, kd2, al2, kl2, aw2, kw2, ap2, kp2⟩ ⟨0, ids, cs⟩ ⟨ai, ki, ac, kc⟩ hn1 (by have := ids16 hmm (.inl rfl); show ids.length ≤ 1000; omega) hw; rw [hD] at h9; exact h9) ?_
    intro q
    repeat (first|refine Wa ?_|refine Wb ?_|refine Wd ?_)
    refine JC.drawP mixed ?_
    refine JP.pure 0 rfl (by kernel_rfl) rfl (fun _ => Va) rfl rfl ?_
    refine JP.pure 1 rfl (by kernel_rfl) rfl (fun _ => OpV.nilCheck) rfl rfl ?_
    refine JP.pure 2 rfl (by kernel_rfl) rfl (fun _ => Vd) rfl rfl ?_
    refine JP.take 3 [.own bh 112 [.int .i64 no, .slice ad2 disk.length kd2, .int .i64 room, .slice al2 l.length kl2, .slice aw2 wait.length kw2, .int .i64 seq, .bool true, .slice ap2 peers.length kp2, .int .i64 next, .int .i64 0, .int .i64 D.1.kind, .slice q.i D.1.ids.length q.ik, .slice q.c D.1.commits.length q.ck, .bool D.2]] rfl (by kernel_rfl) rfl Vc rfl rfl ?_
    refine JP.pure 4 rfl (by kernel_rfl) rfl (fun _ => Va) rfl rfl ?_
    refine JP.pure 5 rfl (by kernel_rfl) rfl (fun _ => OpV.nilCheck) rfl rfl ?_
    refine JP.pure 6 rfl (by kernel_rfl) rfl (fun _ => Vd) rfl rfl ?_
    refine JP.take 7 [.own bh 112 [.int .i64 no, .slice ad2 disk.length kd2, .int .i64 room, .slice al2 l.length kl2, .slice aw2 wait.length kw2, .int .i64 seq, .bool true, .slice ap2 peers.length kp2, .int .i64 next, .int .i64 0, .int .i64 D.1.kind, .slice q.i D.1.ids.length q.ik, .slice q.c D.1.commits.length q.ck, .bool D.2]] rfl (by kernel_rfl) rfl Vc rfl rfl ?_
    refine JP.pure 8 rfl (by kernel_rfl) rfl (fun _ => Va) rfl rfl ?_
    refine JP.pure 9 rfl (by kernel_rfl) rfl (fun _ => OpV.nilCheck) rfl rfl ?_
    refine JP.pure 10 rfl (by kernel_rfl) rfl (fun _ => Vd) rfl rfl ?_
    refine JP.take 11 [.own bh 112 [.int .i64 no, .slice ad2 disk.length kd2, .int .i64 room, .slice al2 l.length kl2, .slice aw2 wait.length kw2, .int .i64 seq, .bool true, .slice ap2 peers.length kp2, .int .i64 next, .int .i64 0, .int .i64 D.1.kind, .slice q.i D.1.ids.length q.ik, .slice q.c D.1.commits.length q.ck, .bool D.2]] rfl (by kernel_rfl) rfl Vc rfl rfl ?_
    refine JP.op 12 (by kernel_rfl) rfl rfl (Wi (Wd ⟨rfl, (by repeat (first|exact Obs.nil|refine Obs.keep ?_|refine Obs.skip (by kernel_rfl) ?_)), ?_⟩))
    refine JP.op 13 (by kernel_rfl) rfl rfl (Wi (Wd ⟨rfl, (by repeat (first|exact Obs.nil|refine Obs.keep ?_|refine Obs.skip (by kernel_rfl) ?_)), ?_⟩))
    refine JP.pure 14 rfl (by kernel_rfl) rfl (fun _ => Vb) rfl rfl ?_
    refine JP.nil (by kernel_rfl) ?_
    repeat (first|refine Wa ?_|refine Ws ?_)
    exact CT.done (Y := Na × Ma) (⟨ad2, kd2, al2, kl2, aw2, kw2, ap2, kp2⟩, q) rfl (fun w ho => ho.ent)
  · obtain rfl : kind = 1 := hk
    refine Wf (OpV.lookupNo (M := [((0 : Int), .func (.func 76) ⟨[.pointer (some ⟨bh, 0, none⟩)]⟩ ⟨[]⟩), ((1 : Int), .func (.func 77) ⟨[.pointer (some ⟨bh, 0, none⟩)]⟩ ⟨[]⟩), ((2 : Int), .func (.func 78) ⟨[.pointer (some ⟨bh, 0, none⟩)]⟩ ⟨[]⟩)]) (v := .func (.func 77) ⟨[.pointer (some ⟨bh, 0, none⟩)]⟩ ⟨[]⟩) (1 : Int) (by show ([0, 1, 2] : List Int).Nodup; decide) rfl) rfl ?_
    repeat (first|refine Wa ?_|refine Wb ?_|refine Wc ?_|refine Wd ?_|refine We rfl ?_|refine Wf (by first|exact Va|exact Vb|exact Vc) rfl ?_)
    have e9 : hearN ⟨no, disk, room, l, wait, seq, true, peers, next, miss⟩ ⟨1, ids, cs⟩ = (⟨no, disk, room, l, wait, seq, true, peers, next, 0⟩, giveM (partF (sortF l) ids)) := by unfold hearN; rw [hm, hmm]; rfl
    rw [e9]
    generalize hD : giveM (partF (sortF l) ids) = D
    refine JR.more (Γ' := .own bh 112 [.int .i64 no, .slice ad2 disk.length kd2, .int .i64 room, .slice al2 l.length kl2, .slice aw2 wait.length kw2, .int .i64 seq, .bool true, .slice ap2 peers.length kp2, .int .i64 next, .int .i64 0, .int .i64 0, .slice none 0 0, .slice none 0 0, .bool false] :: .st (sl ad2 kd2 disk) :: .st (sl al2 kl2 l) :: .st (sl aw2 kw2 wait) :: .st (sl ap2 kp2 peers) :: .st (sl ai ki ids) :: .st (sl ac kc cs) :: [.own b4 50 [.int .i64 0, .slice none 0 0, .int .i64 0, .slice none 0 0, .slice none 0 0, .int .i64 0, .bool false, .slice none 0 0, .int .i64 0, .int .i64 0], .own b5 52 [.int .i64 0, .slice none 0 0, .slice none 0 0]]) (fun w1 ho => ho.ent) ?_
    refine JR.callWF (v := fun _ => .tuple ⟨[]⟩) (B := fun q : Ma => .own bh 112 (heC ⟨no, disk, room, l, wait, seq, true, peers, next, 0⟩ ⟨ad2, kd2, al2, kl2, aw2, kw2, ap2, kp2⟩ D.1 q D.2) :: .st (sl q.i q.ik D.1.ids) :: .st (sl q.c q.ck D.1.commits) :: .st (sl ad2 kd2 disk) :: .st (sl al2 kl2 l) :: .st (sl aw2 kw2 wait) :: .st (sl ap2 kp2 peers) :: [.own b4 50 [.int .i64 0, .slice none 0 0, .int .i64 0, .slice none 0 0, .slice none 0 0, .int .i64 0, .bool false, .slice none 0 0, .int .i64 0, .int .i64 0], .own b5 52 [.int .i64 0, .slice none 0 0, .slice none 0 0]]) rfl (fun w1 hw => by have h9 := wanted_hearer ⟨no, disk, room, l, wait, seq, true, peers, next, 0⟩ ⟨ad2, kd2, al2, kl2, aw2, kw2, ap2, kp2⟩ ⟨1, ids, cs⟩ ⟨ai, ki, ac, kc⟩ hn1 (by have := ids16 hmm (.inr rfl); show ids.length ≤ 1000; omega) hw; rw [hD] at h9; exact h9) ?_
    intro q
    repeat (first|refine Wa ?_|refine Wb ?_|refine Wd ?_)
    refine JC.drawP mixed ?_
    refine JP.pure 0 rfl (by kernel_rfl) rfl (fun _ => Va) rfl rfl ?_
    refine JP.pure 1 rfl (by kernel_rfl) rfl (fun _ => OpV.nilCheck) rfl rfl ?_
    refine JP.pure 2 rfl (by kernel_rfl) rfl (fun _ => Vd) rfl rfl ?_
    refine JP.take 3 [.own bh 112 [.int .i64 no, .slice ad2 disk.length kd2, .int .i64 room, .slice al2 l.length kl2, .slice aw2 wait.length kw2, .int .i64 seq, .bool true, .slice ap2 peers.length kp2, .int .i64 next, .int .i64 0, .int .i64 D.1.kind, .slice q.i D.1.ids.length q.ik, .slice q.c D.1.commits.length q.ck, .bool D.2]] rfl (by kernel_rfl) rfl Vc rfl rfl ?_
    refine JP.pure 4 rfl (by kernel_rfl) rfl (fun _ => Va) rfl rfl ?_
    refine JP.pure 5 rfl (by kernel_rfl) rfl (fun _ => OpV.nilCheck) rfl rfl ?_
    refine JP.pure 6 rfl (by kernel_rfl) rfl (fun _ => Vd) rfl rfl ?_
    refine JP.take 7 [.own bh 112 [.int .i64 no, .slice ad2 disk.length kd2, .int .i64 room, .slice al2 l.length kl2, .slice aw2 wait.length kw2, .int .i64 seq, .bool true, .slice ap2 peers.length kp2, .int .i64 next, .int .i64 0, .int .i64 D.1.kind, .slice q.i D.1.ids.length q.ik, .slice q.c D.1.commits.length q.ck, .bool D.2]] rfl (by kernel_rfl) rfl Vc rfl rfl ?_
    refine JP.pure 8 rfl (by kernel_rfl) rfl (fun _ => Va) rfl rfl ?_
    refine JP.pure 9 rfl (by kernel_rfl) rfl (fun _ => OpV.nilCheck) rfl rfl ?_
    refine JP.pure 10 rfl (by kernel_rfl) rfl (fun _ => Vd) rfl rfl ?_
    refine JP.take 11 [.own bh 112 [.int .i64 no, .slice ad2 disk.length kd2, .int .i64 room, .slice al2 l.length kl2, .slice aw2 wait.length kw2, .int .i64 seq, .bool true, .slice ap2 peers.length kp2, .int .i64 next, .int .i64 0, .int .i64 D.1.kind, .slice q.i D.1.ids.length q.ik, .slice q.c D.1.commits.length q.ck, .bool D.2]] rfl (by kernel_rfl) rfl Vc rfl rfl ?_
    refine JP.op 12 (by kernel_rfl) rfl rfl (Wi (Wd ⟨rfl, (by repeat (first|exact Obs.nil|refine Obs.keep ?_|refine Obs.skip (by kernel_rfl) ?_)), ?_⟩))
    refine JP.op 13 (by kernel_rfl) rfl rfl (Wi (Wd ⟨rfl, (by repeat (first|exact Obs.nil|refine Obs.keep ?_|refine Obs.skip (by kernel_rfl) ?_)), ?_⟩))
    refine JP.pure 14 rfl (by kernel_rfl) rfl (fun _ => Vb) rfl rfl ?_
    refine JP.nil (by kernel_rfl) ?_
    repeat (first|refine Wa ?_|refine Ws ?_)
    exact CT.done (Y := Na × Ma) (⟨ad2, kd2, al2, kl2, aw2, kw2, ap2, kp2⟩, q) rfl (fun w ho => ho.ent)
  · obtain rfl : kind = 2 := hk
    refine Wf (OpV.lookupNo (M := [((0 : Int), .func (.func 76) ⟨[.pointer (some ⟨bh, 0, none⟩)]⟩ ⟨[]⟩), ((1 : Int), .func (.func 77) ⟨[.pointer (some ⟨bh, 0, none⟩)]⟩ ⟨[]⟩), ((2 : Int), .func (.func 78) ⟨[.pointer (some ⟨bh, 0, none⟩)]⟩ ⟨[]⟩)]) (v := .func (.func 78) ⟨[.pointer (some ⟨bh, 0, none⟩)]⟩ ⟨[]⟩) (2 : Int) (by show ([0, 1, 2] : List Int).Nodup; decide) rfl) rfl ?_
    repeat (first|refine Wa ?_|refine Wb ?_|refine Wc ?_|refine Wd ?_|refine We rfl ?_|refine Wf (by first|exact Va|exact Vb|exact Vc) rfl ?_)
    have e9 : hearN ⟨no, disk, room, l, wait, seq, true, peers, next, miss⟩ ⟨2, ids, cs⟩ = (takeL ⟨no, disk, room, l, wait, seq, true, peers, next, 0⟩ cs, wantM (missL (takeL ⟨no, disk, room, l, wait, seq, true, peers, next, 0⟩ cs).wait (idsP (takeL ⟨no, disk, room, l, wait, seq, true, peers, next, 0⟩ cs).l))) := by unfold hearN; rw [hm, hmm]; rfl
    rw [e9]
    generalize hn2 : takeL ⟨no, disk, room, l, wait, seq, true, peers, next, 0⟩ cs = n2
    generalize hD : wantM (missL n2.wait (idsP n2.l)) = D
    refine JR.more (Γ' := .own bh 112 [.int .i64 no, .slice ad2 disk.length kd2, .int .i64 room, .slice al2 l.length kl2, .slice aw2 wait.length kw2, .int .i64 seq, .bool true, .slice ap2 peers.length kp2, .int .i64 next, .int .i64 0, .int .i64 0, .slice none 0 0, .slice none 0 0, .bool false] :: .st (sl ad2 kd2 disk) :: .st (sl al2 kl2 l) :: .st (sl aw2 kw2 wait) :: .st (sl ap2 kp2 peers) :: .st (sl ai ki ids) :: .st (sl ac kc cs) :: [.own b4 50 [.int .i64 0, .slice none 0 0, .int .i64 0, .slice none 0 0, .slice none 0 0, .int .i64 0, .bool false, .slice none 0 0, .int .i64 0, .int .i64 0], .own b5 52 [.int .i64 0, .slice none 0 0, .slice none 0 0]]) (fun w1 ho => ho.ent) ?_
    refine JR.callWF (v := fun _ => .tuple ⟨[]⟩) (B := fun q : Na × Ma => .own bh 112 (heC n2 q.1 D.1 q.2 D.2) :: .st (sl q.2.i q.2.ik D.1.ids) :: .st (sl q.2.c q.2.ck D.1.commits) :: .st (sl q.1.d q.1.dk n2.disk) :: .st (sl q.1.l q.1.lk n2.l) :: .st (sl q.1.w q.1.wk n2.wait) :: .st (sl q.1.p q.1.pk n2.peers) :: [.own b4 50 [.int .i64 0, .slice none 0 0, .int .i64 0, .slice none 0 0, .slice none 0 0, .int .i64 0, .bool false, .slice none 0 0, .int .i64 0, .int .i64 0], .own b5 52 [.int .i64 0, .slice none 0 0, .slice none 0 0]]) rfl (fun w1 hw => by have h9 := given_hearer ⟨no, disk, room, l, wait, seq, true, peers, next, 0⟩ ⟨ad2, kd2, al2, kl2, aw2, kw2, ap2, kp2⟩ ⟨2, ids, cs⟩ ⟨ai, ki, ac, kc⟩ hn1 hcl hfc hq hqc hw; dsimp only at h9; rw [hn2, hD] at h9; exact h9) ?_
    intro q
    repeat (first|refine Wa ?_|refine Wb ?_|refine Wd ?_)
    refine JC.drawP mixed ?_
    refine JP.pure 0 rfl (by kernel_rfl) rfl (fun _ => Va) rfl rfl ?_
    refine JP.pure 1 rfl (by kernel_rfl) rfl (fun _ => OpV.nilCheck) rfl rfl ?_
    refine JP.pure 2 rfl (by kernel_rfl) rfl (fun _ => Vd) rfl rfl ?_
    refine JP.take 3 [.own bh 112 [.int .i64 n2.no, .slice q.1.d n2.disk.length q.1.dk, .int .i64 n2.room, .slice q.1.l n2.l.length q.1.lk, .slice q.1.w n2.wait.length q.1.wk, .int .i64 n2.seq, .bool n2.up, .slice q.1.p n2.peers.length q.1.pk, .int .i64 n2.next, .int .i64 n2.miss, .int .i64 D.1.kind, .slice q.2.i D.1.ids.length q.2.ik, .slice q.2.c D.1.commits.length q.2.ck, .bool D.2]] rfl (by kernel_rfl) rfl Vc rfl rfl ?_
    refine JP.pure 4 rfl (by kernel_rfl) rfl (fun _ => Va) rfl rfl ?_
    refine JP.pure 5 rfl (by kernel_rfl) rfl (fun _ => OpV.nilCheck) rfl rfl ?_
    refine JP.pure 6 rfl (by kernel_rfl) rfl (fun _ => Vd) rfl rfl ?_
    refine JP.take 7 [.own bh 112 [.int .i64 n2.no, .slice q.1.d n2.disk.length q.1.dk, .int .i64 n2.room, .slice q.1.l n2.l.length q.1.lk, .slice q.1.w n2.wait.length q.1.wk, .int .i64 n2.seq, .bool n2.up, .slice q.1.p n2.peers.length q.1.pk, .int .i64 n2.next, .int .i64 n2.miss, .int .i64 D.1.kind, .slice q.2.i D.1.ids.length q.2.ik, .slice q.2.c D.1.commits.length q.2.ck, .bool D.2]] rfl (by kernel_rfl) rfl Vc rfl rfl ?_
    refine JP.pure 8 rfl (by kernel_rfl) rfl (fun _ => Va) rfl rfl ?_
    refine JP.pure 9 rfl (by kernel_rfl) rfl (fun _ => OpV.nilCheck) rfl rfl ?_
    refine JP.pure 10 rfl (by kernel_rfl) rfl (fun _ => Vd) rfl rfl ?_
    refine JP.take 11 [.own bh 112 [.int .i64 n2.no, .slice q.1.d n2.disk.length q.1.dk, .int .i64 n2.room, .slice q.1.l n2.l.length q.1.lk, .slice q.1.w n2.wait.length q.1.wk, .int .i64 n2.seq, .bool n2.up, .slice q.1.p n2.peers.length q.1.pk, .int .i64 n2.next, .int .i64 n2.miss, .int .i64 D.1.kind, .slice q.2.i D.1.ids.length q.2.ik, .slice q.2.c D.1.commits.length q.2.ck, .bool D.2]] rfl (by kernel_rfl) rfl Vc rfl rfl ?_
    refine JP.op 12 (by kernel_rfl) rfl rfl (Wi (Wd ⟨rfl, (by repeat (first|exact Obs.nil|refine Obs.keep ?_|refine Obs.skip (by kernel_rfl) ?_)), ?_⟩))
    refine JP.op 13 (by kernel_rfl) rfl rfl (Wi (Wd ⟨rfl, (by repeat (first|exact Obs.nil|refine Obs.keep ?_|refine Obs.skip (by kernel_rfl) ?_)), ?_⟩))
    refine JP.pure 14 rfl (by kernel_rfl) rfl (fun _ => Vb) rfl rfl ?_
    refine JP.nil (by kernel_rfl) ?_
    repeat (first|refine Wa ?_|refine Ws ?_)
    exact CT.done (Y := Na × Ma) q rfl (fun w ho => ho.ent)
noncomputable def tickW (n : Nd) (now : Int) (x : UInt32) : Nd × Int × Mg × Bool × UInt32 :=
  if (tellN n).2 = 0 ∧ n.next ≤ now ∧ n.peers ≠ [] then
    ({ n with next := now + waitX n.miss, miss := IntKind.i64.wrap (min n.miss 5 + 1) }, n.peers.getD ((nextX x).toNat % n.peers.length) 0, (tellN n).1, true, nextX x)
  else (n, 0, mg0, false, x)
theorem tick_not {n : Nd} {now : Int} {x : UInt32} (h : ¬ ((tellN n).2 = 0 ∧ n.next ≤ now ∧ n.peers ≠ [])) : tickW n now x = (n, 0, mg0, false, x) := if_neg h
theorem waitX_in (m : Int) : 1 ≤ waitX m ∧ waitX m ≤ 64 := by
  unfold waitX
  have h1 : (min (max m 0) 6).toNat ≤ 6 := by omega
  generalize (min (max m 0) 6).toNat = k at h1
  have h3 : k = 0 ∨ k = 1 ∨ k = 2 ∨ k = 3 ∨ k = 4 ∨ k = 5 ∨ k = 6 := by omega
  rcases h3 with rfl | rfl | rfl | rfl | rfl | rfl | rfl <;> decide
set_option maxHeartbeats 8000000 in
theorem tick_gossip (w : World) (F : Nat → Prop) (n : Nd) (y : Na) (now : Int) (x : UInt32) (h1 : (sl y.d y.dk n.disk).holds F w) (h2 : (sl y.l y.lk n.l).holds F w) (h3 : (sl y.w y.wk n.wait).holds F w) (h4 : (sl y.p y.pk n.peers).holds F w)
    (hn : NdFew n) (hnow : -4611686018427387904 ≤ now ∧ now ≤ 4611686018427387904) :
    Gives Tryz.prog 37 [ndV n y, .int .i64 now, w32 x] w F (fun q : Na × Ma => .tuple ⟨[ndV (tickW n now x).1 q.1, .int .i64 (tickW n now x).2.1, mgV (tickW n now x).2.2.1 q.2, .bool (tickW n now x).2.2.2.1, w32 (tickW n now x).2.2.2.2]⟩)
      (fun q => [.st (sl q.1.d q.1.dk (tickW n now x).1.disk), .st (sl q.1.l q.1.lk (tickW n now x).1.l), .st (sl q.1.w q.1.wk (tickW n now x).1.wait), .st (sl q.1.p q.1.pk (tickW n now x).1.peers), .st (sl q.2.i q.2.ik (tickW n now x).2.2.1.ids), .st (sl q.2.c q.2.ck (tickW n now x).2.2.1.commits)]) := by
  have hn' := hn
  obtain ⟨no, disk, room, l, wait, seq, up, peers, next, miss⟩ := n
  obtain ⟨ad, kd, al, kl, aw, kw, ap, kp⟩ := y
  have hpl : peers.length ≤ 1000 := hn.peers
  dsimp only [ndV, ndC] at *
  refine gives_of Tryz.func37 rfl Tryz.ntmps37 rfl rfl [.st (sl ad kd disk), .st (sl al kl l), .st (sl aw kw wait), .st (sl ap kp peers)] (.start4 h1 h2 h3 h4) ?_
  repeat (first|refine Wa ?_|refine Wb ?_|refine Wc ?_|refine Wd ?_|refine We rfl ?_|refine Wf (by first|exact Vb|exact Vc) rfl ?_|(refine Wg rfl ?_; intro _)|(refine Wh rfl ?_; intro _))
  rename_i bn b6 b8
  refine JR.call (v := fun z : Na => ndV ⟨no, disk, room, l, wait, seq, up, peers, next, miss⟩ z) (B := fun z => ndB ⟨no, disk, room, l, wait, seq, up, peers, next, miss⟩ z) rfl (fun w1 hw => own_gossip w1 _ ⟨no, disk, room, l, wait, seq, up, peers, next, miss⟩ ⟨ad, kd, al, kl, aw, kw, ap, kp⟩ (hw.get (A := sl ad kd disk)) (hw.get (A := sl al kl l)) (hw.get (A := sl aw kw wait)) (hw.get (A := sl ap kp peers)) hn) ?_
  rintro ⟨ad2, kd2, al2, kl2, aw2, kw2, ap2, kp2⟩
  dsimp only [ndB, ndV, ndC, List.cons_append, List.nil_append]
  repeat (first|refine Wa ?_|refine Wb ?_|refine Wc ?_|refine Wd ?_|refine We rfl ?_|refine Wf (by exact Vc) rfl ?_|refine Wi ?_)
  generalize hT : tellN ⟨no, disk, room, l, wait, seq, up, peers, next, miss⟩ = T
  refine JR.call (v := fun z : Ma => .tuple ⟨[mgV T.1 z, .int .i64 T.2]⟩) (B := fun z => mgB T.1 z) rfl (fun w1 hw => by rw [← hT]; exact tell_gossip w1 _ ⟨no, disk, room, l, wait, seq, up, peers, next, miss⟩ ⟨ad2, kd2, al2, kl2, aw2, kw2, ap2, kp2⟩ (hw.get (A := sl ad2 kd2 disk)) (hw.get (A := sl al2 kl2 l)) (hw.get (A := sl aw2 kw2 wait)) hn) ?_
  intro z
  dsimp only [mgB, mgV, mgC, List.cons_append, List.nil_append]
  repeat (first|refine Wa ?_|refine Wb ?_|refine Wc ?_|refine Wd ?_|refine We rfl ?_|refine Wf (by first|exact Va|exact Vb|exact Vm|exact Vq) rfl ?_|(refine Wg rfl ?_; intro _)|refine Wi ?_)
  rename_i b11
  by_cases hT2 : T.2 = 0
  case neg =>
    have hx : ¬ ((tellN ⟨no, disk, room, l, wait, seq, up, peers, next, miss⟩).2 = 0 ∧ next ≤ now ∧ peers ≠ []) := by rw [hT]; rintro ⟨h, _⟩; exact hT2 h
    refine JO.reslot 24 (.bool true) (by congr 1; exact decide_eq_true hT2) ?_
    rw [tick_not hx]
    dsimp only [mg0, List.length_nil]
    repeat (first|refine Wa ?_|refine Wb ?_|refine Wc ?_|refine Wd ?_|refine We rfl ?_|refine Wf (by first|exact Va|exact Vc|exact Vi) rfl ?_|refine Wj ?_|refine Wv rfl rfl ?_)
    refine Wf (OpV.build [.int .i64 0, .slice none 0 0, .slice none 0 0] (by kernel_rfl)) rfl ?_
    repeat (first|refine Wa ?_|refine Wd ?_|refine We rfl ?_|refine Wf (by first|exact Va|exact Vb) rfl ?_|refine Wi ?_|refine Ws ?_|refine Wt ?_)
    exact CT.done (Y := Na × Ma) (⟨ad2, kd2, al2, kl2, aw2, kw2, ap2, kp2⟩, ⟨none, 0, none, 0⟩) rfl (fun w ho => ((ho.add (A := sl (α := Commit) none 0 []) sl_nil).add (A := sl (α := ID) none 0 []) sl_nil).ent)
  refine JO.reslot 24 (.bool false) (by congr 1; exact decide_eq_false (fun h => h hT2)) ?_
  repeat (first|refine We rfl ?_|refine Wf (by first|exact Va|exact Vc|exact Vd|exact Vg|exact Vj) rfl ?_)
  by_cases hnx : next ≤ now
  case neg =>
    have hx : ¬ ((tellN ⟨no, disk, room, l, wait, seq, up, peers, next, miss⟩).2 = 0 ∧ next ≤ now ∧ peers ≠ []) := by rintro ⟨_, h, _⟩; exact hnx h
    refine JO.reslot 30 (.bool true) (by congr 1; exact decide_eq_true (by omega)) ?_
    rw [tick_not hx]
    dsimp only [mg0, List.length_nil]
    repeat (first|refine Wa ?_|refine Wb ?_|refine Wc ?_|refine Wd ?_|refine We rfl ?_|refine Wf (by first|exact Vc|exact Vi) rfl ?_|refine Wj ?_|refine Wv rfl rfl ?_)
    refine Wf (OpV.build [.int .i64 0, .slice none 0 0, .slice none 0 0] (by kernel_rfl)) rfl ?_
    repeat (first|refine Wa ?_|refine Wd ?_|refine We rfl ?_|refine Wf (by first|exact Va|exact Vb) rfl ?_|refine Wi ?_|refine Ws ?_|refine Wt ?_)
    exact CT.done (Y := Na × Ma) (⟨ad2, kd2, al2, kl2, aw2, kw2, ap2, kp2⟩, ⟨none, 0, none, 0⟩) rfl (fun w ho => ((ho.add (A := sl (α := Commit) none 0 []) sl_nil).add (A := sl (α := ID) none 0 []) sl_nil).ent)
  refine JO.reslot 30 (.bool false) (by congr 1; exact decide_eq_false (by omega)) ?_
  repeat (first|refine Wa ?_|refine Wd ?_|refine We rfl ?_|refine Wf (by first|exact Vc|exact Vd|exact Vf|exact Vj|exact Vl) rfl ?_)
  refine JC.test (fun hp => ?_) (fun hp => ?_)
  · have hx : ¬ ((tellN ⟨no, disk, room, l, wait, seq, up, peers, next, miss⟩).2 = 0 ∧ next ≤ now ∧ peers ≠ []) := by
      rintro ⟨_, _, h⟩
      exact h (List.eq_nil_of_length_eq_zero (by omega))
    rw [tick_not hx]
    dsimp only [mg0, List.length_nil]
    repeat (first|refine Wb ?_|refine Wc ?_|refine We rfl ?_|refine Wf (by exact Vc) rfl ?_)
    refine Wf (OpV.build [.int .i64 0, .slice none 0 0, .slice none 0 0] (by kernel_rfl)) rfl ?_
    repeat (first|refine Wa ?_|refine Wd ?_|refine We rfl ?_|refine Wf (by first|exact Va|exact Vb) rfl ?_|refine Wi ?_|refine Ws ?_|refine Wt ?_)
    exact CT.done (Y := Na × Ma) (⟨ad2, kd2, al2, kl2, aw2, kw2, ap2, kp2⟩, ⟨none, 0, none, 0⟩) rfl (fun w ho => ((ho.add (A := sl (α := Commit) none 0 []) sl_nil).add (A := sl (α := ID) none 0 []) sl_nil).ent)
  have hpn : peers ≠ [] := by rintro rfl; exact hp rfl
  have e1 : tickW ⟨no, disk, room, l, wait, seq, up, peers, next, miss⟩ now x = (⟨no, disk, room, l, wait, seq, up, peers, now + waitX miss, IntKind.i64.wrap (min miss 5 + 1)⟩, peers.getD ((nextX x).toNat % peers.length) 0, T.1, true, nextX x) := by
    unfold tickW
    rw [hT, if_pos ⟨hT2, hnx, hpn⟩]
  rw [e1]
  have hwx := waitX_in miss
  repeat (first|refine Wa ?_|refine Wb ?_|refine Wc ?_|refine We rfl ?_|refine Wf (by exact Va) rfl ?_|refine Wl ?_)
  refine JR.callV rfl (fun w1 hw => next_peer w1 _ x) ?_
  repeat (first|refine Wa ?_|refine Wb ?_|refine Wc ?_|refine Wd ?_|refine We rfl ?_|refine Wf (by first|exact Va|exact Vb|exact Vc|exact Vd) rfl ?_)
  refine JR.callV rfl (fun w1 hw => pick_peer w1 _ ap2 kp2 peers (nextX x) (hw.get (A := sl ap2 kp2 peers)) hpl hpn) ?_
  repeat (first|refine Wa ?_|refine Wb ?_|refine Wd ?_|refine We rfl ?_|refine Wf (by first|exact Va|exact Vb|exact Vq) rfl ?_)
  refine JC.drawP mixed ?_
  refine JP.pure 0 rfl (by kernel_rfl) rfl (fun _ => Va) rfl rfl ?_
  refine JP.pure 1 rfl (by kernel_rfl) rfl (fun _ => Vd) rfl rfl ?_
  refine JP.take 2 [.own bn 50 [.int .i64 no, .slice ad2 disk.length kd2, .int .i64 room, .slice al2 l.length kl2, .slice aw2 wait.length kw2, .int .i64 seq, .bool up, .slice ap2 peers.length kp2, .int .i64 next, .int .i64 miss]] rfl (by kernel_rfl) rfl Vc rfl rfl ?_
  refine JP.pure 5 rfl (by kernel_rfl) rfl (fun _ => Vd) rfl rfl ?_
  refine JP.take 6 [.own bn 50 [.int .i64 no, .slice ad2 disk.length kd2, .int .i64 room, .slice al2 l.length kl2, .slice aw2 wait.length kw2, .int .i64 seq, .bool up, .slice ap2 peers.length kp2, .int .i64 next, .int .i64 miss]] rfl (by kernel_rfl) rfl Vc rfl rfl ?_
  refine JP.pure 7 rfl (by kernel_rfl) rfl (fun _ => OpV.min) rfl rfl ?_
  refine JP.pure 8 rfl (by kernel_rfl) rfl (fun _ => OpV.addw) rfl rfl ?_
  refine JP.op 3 (by kernel_rfl) rfl rfl (JR.callV rfl (fun w1 hw => wait_peer w1 _ miss) (Wd ⟨rfl, (by repeat (first|exact Obs.nil|refine Obs.keep ?_|refine Obs.skip (by kernel_rfl) ?_)), ?_⟩))
  refine JP.pure 4 rfl (by kernel_rfl) rfl (fun _ => Vt (by omega)) rfl rfl ?_
  refine JP.pure 9 rfl (by kernel_rfl) rfl (fun _ => Vd) rfl rfl ?_
  refine JP.reslot 57 (.pointer (some ⟨bn, 8, none⟩)) rfl ?_
  refine JP.op 10 (by kernel_rfl) rfl rfl (Wi (Wd ⟨rfl, (by repeat (first|exact Obs.nil|refine Obs.keep ?_|refine Obs.skip (by kernel_rfl) ?_)), ?_⟩))
  refine JP.pure 11 rfl (by kernel_rfl) rfl (fun _ => Vd) rfl rfl ?_
  refine JP.reslot 58 (.pointer (some ⟨bn, 9, none⟩)) rfl ?_
  refine JP.op 12 (by kernel_rfl) rfl rfl (Wi (Wd ⟨rfl, (by repeat (first|exact Obs.nil|refine Obs.keep ?_|refine Obs.skip (by kernel_rfl) ?_)), ?_⟩))
  refine JP.nil (by kernel_rfl) ?_
  repeat (first|refine Wa ?_|refine Wb ?_)
  refine JC.drawP mixed ?_
  refine JP.take 0 [.own bn 50 [.int .i64 no, .slice ad2 disk.length kd2, .int .i64 room, .slice al2 l.length kl2, .slice aw2 wait.length kw2, .int .i64 seq, .bool up, .slice ap2 peers.length kp2, .int .i64 (now + waitX miss), .int .i64 (IntKind.i64.wrap (min miss 5 + 1))]] rfl (by kernel_rfl) rfl Vc rfl rfl ?_
  refine JP.pure 1 rfl (by kernel_rfl) rfl (fun _ => Va) rfl rfl ?_
  refine JP.take 2 [.own b11 52 [.int .i64 T.1.kind, .slice z.i T.1.ids.length z.ik, .slice z.c T.1.commits.length z.ck]] rfl (by kernel_rfl) rfl Vc rfl rfl ?_
  refine JP.pure 3 rfl (by kernel_rfl) rfl (fun _ => Va) rfl rfl ?_
  refine JP.op 4 (by kernel_rfl) rfl rfl (Wi (Wd ⟨rfl, (by repeat (first|exact Obs.nil|refine Obs.keep ?_|refine Obs.skip (by kernel_rfl) ?_)), ?_⟩))
  refine JP.pure 5 rfl (by kernel_rfl) rfl (fun _ => Vb) rfl rfl ?_
  refine JP.op 6 (by kernel_rfl) rfl rfl (Wi (Wd ⟨rfl, (by repeat (first|exact Obs.nil|refine Obs.keep ?_|refine Obs.skip (by kernel_rfl) ?_)), ?_⟩))
  refine JP.pure 7 rfl (by kernel_rfl) rfl (fun _ => Vb) rfl rfl ?_
  refine JP.pure 8 rfl (by kernel_rfl) rfl (fun _ => Vb) rfl rfl ?_
  refine JP.nil (by kernel_rfl) ?_
  repeat (first|refine Wa ?_|refine Ws ?_)
  exact CT.done (Y := Na × Ma) (⟨ad2, kd2, al2, kl2, aw2, kw2, ap2, kp2⟩, z) rfl (fun w ho => ho.ent)
def fewNd (n : Nd) : Bool := fewL n.l 8 && fewL n.wait 10 && decide (n.disk.length ≤ 1200) && decide (n.peers.length ≤ 20)
structure NdSmall (n : Nd) : Prop where
  few : NdFew n
  l : n.l.length ≤ 8
  wait : n.wait.length ≤ 10
  disk : n.disk.length ≤ 1200
  peers : n.peers.length ≤ 20
  ql : ∀ x ∈ n.l, x.parents.length ≤ 1000
  qw : ∀ x ∈ n.wait, x.parents.length ≤ 1000
theorem fewL_parents {L : List Commit} {m : Nat} (h : fewL L m = true) : ∀ x ∈ L, x.parents.length ≤ 1000 := by
  simp only [fewL, Bool.and_eq_true, decide_eq_true_eq, List.all_eq_true] at h
  intro x hx
  have := h.2 x hx
  simp only [fewC, Bool.and_eq_true, decide_eq_true_eq] at this
  omega
theorem fewNd_small {n : Nd} (h : fewNd n = true) : NdSmall n := by
  simp only [fewNd, Bool.and_eq_true, decide_eq_true_eq] at h
  obtain ⟨⟨⟨h1, h2⟩, h3⟩, h4⟩ := h
  obtain ⟨a1, a2⟩ := few_fine h1
  obtain ⟨b1, b2⟩ := few_fine h2
  exact ⟨⟨a2, b2, by omega, by omega, by omega⟩, a1, b1, h3, h4, fewL_parents h1, fewL_parents h2⟩
theorem few_node (w : World) (F : Nat → Prop) (n : Nd) (y : Na) (h2 : (sl y.l y.lk n.l).holds F w) (h3 : (sl y.w y.wk n.wait).holds F w) (hd : n.disk.length < 9223372036854775807) (hp : n.peers.length < 9223372036854775807) :
    GivesV Tryz.prog 29 [ndV n y] w F (.bool (fewNd n)) := by
  obtain ⟨no, disk, room, l, wait, seq, up, peers, next, miss⟩ := n
  obtain ⟨ad, kd, al, kl, aw, kw, ap, kp⟩ := y
  dsimp only [ndV, ndC] at *
  refine gives_of Tryz.func29 rfl Tryz.ntmps29 rfl rfl [.st (sl al kl l), .st (sl aw kw wait)] (.start2 h2 h3) ?_
  repeat (first|refine Wa ?_|refine Wb ?_|refine Wc ?_|refine Wd ?_|refine We rfl ?_|refine Wf (by first|exact Vb|exact Vc|exact Vd) rfl ?_|(refine Wh rfl ?_; intro _))
  refine JR.callV rfl (fun w1 hw => few_all w1 _ al kl l 8 (hw.get (A := sl al kl l))) ?_
  repeat (first|refine Wa ?_|refine Wb ?_|refine Wc ?_|refine Wd ?_|refine We rfl ?_|refine Wf (by first|exact Vb|exact Vc|exact Vd) rfl ?_)
  refine JR.callV rfl (fun w1 hw => few_all w1 _ aw kw wait 10 (hw.get (A := sl aw kw wait))) ?_
  cases hf1 : fewL l 8 with
  | false =>
    repeat (first|refine Wa ?_|refine Wb ?_|refine Wc ?_|refine Wd ?_|refine We rfl ?_|refine Wf (by first|exact Va|exact Vb|exact Vj) rfl ?_|refine Ws ?_|refine Wv rfl rfl ?_)
    refine CT.done () ?_ (fun w ho => ho.ent)
    simp only [packed]
    unfold fewNd; rw [hf1]; rfl
  | true =>
  cases hf2 : fewL wait 10 with
  | false =>
    repeat (first|refine Wa ?_|refine Wb ?_|refine Wc ?_|refine Wd ?_|refine We rfl ?_|refine Wf (by first|exact Va|exact Vb|exact Vi|exact Vj) rfl ?_|refine Ws ?_|refine Wv rfl rfl ?_)
    refine CT.done () ?_ (fun w ho => ho.ent)
    simp only [packed]
    unfold fewNd; rw [hf1, hf2]; rfl
  | true =>
  repeat (first|refine Wa ?_|refine Wb ?_|refine Wc ?_|refine Wd ?_|refine We rfl ?_|refine Wf (by first|exact Va|exact Vb|exact Vc|exact Vd|exact Vf|exact Vi|exact Vn) rfl ?_)
  refine JO.test 21 (fun h4 => ?_) (fun h4 => ?_)
  · have h4' : disk.length ≤ 1200 := by omega
    repeat (first|refine Wa ?_|refine Wd ?_|refine We rfl ?_|refine Wf (by first|exact Vb|exact Vc|exact Vd|exact Vf|exact Vi|exact Vn) rfl ?_|refine Ws ?_)
    refine CT.done () ?_ (fun w ho => ho.ent)
    simp only [packed]
    unfold fewNd
    rw [hf1, hf2, decide_eq_true h4']
    congr 1
    exact decide_eq_decide.2 (by show _ ↔ peers.length ≤ 20; omega)
  · have h4' : ¬ disk.length ≤ 1200 := by omega
    repeat (first|refine Wa ?_|refine Wd ?_|refine We rfl ?_|refine Wf (by first|exact Vb|exact Vj) rfl ?_|refine Ws ?_|refine Wv rfl rfl ?_)
    refine CT.done () ?_ (fun w ho => ho.ent)
    simp only [packed]
    unfold fewNd
    rw [hf1, hf2, decide_eq_false h4']; rfl
theorem readL_nil : readL [] = [] := rfl
theorem le_fold (L : List Commit) : ∀ (ps : List ID) (g : Int), g ≤ ps.foldl (fun g p => max g (genAt L p)) g ∧ ∀ p ∈ ps, genAt L p ≤ ps.foldl (fun g p => max g (genAt L p)) g
  | [], g => ⟨Int.le_refl _, by simp⟩
  | q :: ps, g => by
    obtain ⟨h1, h2⟩ := le_fold L ps (max g (genAt L q))
    refine ⟨by simp only [List.foldl_cons]; omega, fun p hp => ?_⟩
    simp only [List.foldl_cons]
    rcases List.mem_cons.1 hp with rfl | hp
    · omega
    · exact h2 p hp
theorem le_maxGen {L : List Commit} {p : ID} {ps : List ID} (h : p ∈ ps) : genAt L p ≤ maxGen L ps := (le_fold L ps 0).2 p h
theorem Closed.take {s : List Commit} (h : Closed s) (hs : s.Pairwise leS) (k : Nat) : Closed (s.take k) := by
  refine h.sub (fun c hc => List.mem_of_mem_take hc) (nodup_sub h.nodup (List.take_sublist k s)) fun c hc p hp => ?_
  obtain ⟨i, hi, rfl⟩ := List.getElem_of_mem hc
  rw [List.length_take] at hi
  rw [List.getElem_take] at hp
  have hm : s[i] ∈ s := List.getElem_mem _
  have hf := h.fine s[i] hm
  obtain ⟨d, hd, rfl⟩ := mem_cids.1 (hf.here p hp)
  obtain ⟨j, hj, rfl⟩ := List.getElem_of_mem hd
  have hg : genAt s (idC s[j]) ≤ maxGen s s[i].parents := le_maxGen hp
  rw [genAt_of h.nodup hd] at hg
  have hg2 := hf.gen
  have hji : j < i := by
    rcases Nat.lt_trichotomy j i with h1 | h1 | h1
    · exact h1
    · subst h1; omega
    · have := List.pairwise_iff_getElem.1 hs i j (by omega) hj h1
      rcases this with h2 | ⟨h2, _⟩ <;> omega
  exact mem_cids.2 ⟨s[j], List.mem_of_getElem? (i := j) (by rw [List.getElem?_take_of_lt (by omega), List.getElem?_eq_getElem hj]), rfl⟩
theorem load_nil : loadL [] = [] ∧ loadEnd [] = 0 := by
  have h : loadL [] = [] := by unfold loadL; rw [readL_nil]; rfl
  exact ⟨h, by unfold loadEnd; rw [h, readL_nil]; rfl⟩
theorem may_fresh {no room : Int} {peers : List Int} {next miss : Int} (h : fitsB no room = true) : ndMay ⟨no, [], room, [], [], 0, true, peers, next, miss⟩ = true := by
  have hr := fits_room h
  rw [ndMay_up (n := ⟨no, [], room, [], [], 0, true, peers, next, miss⟩) h (by show ¬ room < ((0 : Nat) : Int); omega) rfl]
  show (decide (loadL [] = []) && decide (loadEnd [] = 0) && decide ((0 : Int) = lastF [] no) && true && true) = true
  rw [load_nil.1, load_nil.2]
  rfl
def n0 : Nd := ⟨0, [], 1000, [], [], 0, true, [], 0, 0⟩
theorem few_n0 : NdFew n0 := ⟨by simp [n0], by simp [n0], by simp [n0], by simp [n0], by simp [n0]⟩
theorem few_n1 : NdFew ⟨0, [], 1000, [], [], 0, true, [1], 0, 0⟩ := ⟨by simp, by simp, by simp, by simp, by simp⟩
theorem new_n0 : newN 0 1000 = (n0, true) := by unfold newN; rw [if_pos (by decide)]; rfl
theorem hear_n0 (a : ID) : hearN n0 ⟨0, [a], []⟩ = (n0, ⟨1, [a], []⟩, true) := by
  have h1 : ndMay n0 = true := may_fresh (by decide)
  have h2 : mgMay ⟨0, [a], []⟩ = true := rfl
  have h3 : digestM [] [a] = (⟨1, [a], []⟩, true) := by
    have : idsP [] = [] := rfl
    unfold digestM
    rw [this, some_one a [] (by simp), if_neg (by simp), wantM, if_neg (by simp)]
    rfl
  unfold hearN
  rw [h1, h2]
  show (if true = true then _ else _) = _
  rw [if_pos rfl, if_pos rfl]
  show (_, digestM [] [a]) = _
  rw [h3]; rfl
theorem tell_n0 : tellN n0 = (⟨0, [], []⟩, 0) := by
  have h1 : ndMay n0 = true := may_fresh (by decide)
  have h2 : frontF n0.l = [] := (front_nil closed_nil).2 rfl
  unfold tellN
  rw [h1, if_pos rfl, h2]; rfl
theorem tick_n0 (x : UInt32) : tickW ⟨0, [], 1000, [], [], 0, true, [1], 0, 0⟩ 0 x = (⟨0, [], 1000, [], [], 0, true, [1], 1, 1⟩, 1, ⟨0, [], []⟩, true, nextX x) := by
  have h1 : ndMay ⟨0, [], 1000, [], [], 0, true, [1], 0, 0⟩ = true := may_fresh (by decide)
  have h2 : frontF [] = [] := (front_nil closed_nil).2 rfl
  have h3 : tellN ⟨0, [], 1000, [], [], 0, true, [1], 0, 0⟩ = (⟨0, [], []⟩, 0) := by
    unfold tellN
    rw [h1, if_pos rfl]
    show (if true = true then (Mg.mk 0 (frontF []) [], (0 : Int)) else _) = _
    rw [h2]; rfl
  unfold tickW
  rw [h3, if_pos ⟨rfl, by decide, by simp⟩]
  have h4 : (nextX x).toNat % ([1] : List Int).length = 0 := Nat.mod_one _
  rw [h4]
  rfl
theorem sl_of_roI {F : Nat → Prop} {w : World} {b : Nat} {x : Int} (h : (ro b 0 [.int .i64 x]).holds F w) : (sl (some ⟨b, 0, none⟩) 1 [x]).holds F w := by
  refine ⟨by simp, by simp [maxLen], by simp [lim], fun _ => ⟨b, 0, rfl, h.1, h.2.1, fun i hi => ⟨(), ?_, by simp [Cell.facts]⟩⟩⟩
  have hi0 : i = 0 := by simpa using hi
  subst hi0
  exact fun j v hj => by simpa using h.2.2 j v hj
def id1 : ID := ⟨1 :: List.replicate 31 0, by simp⟩
set_option maxHeartbeats 8000000 in
theorem awake_gossip (w : World) (F : Nat → Prop) : GivesV Tryz.prog 28 [] w F (.bool true) := by
  refine gives_of Tryz.func28 rfl Tryz.ntmps28 rfl rfl [] (.start w F) ?_
  repeat (first|refine Wa ?_|refine Wb ?_|refine Wc ?_|refine Wd ?_|refine We rfl ?_|refine Wf (by exact Vb) rfl ?_)
  refine JR.call (v := fun _ : Unit => .tuple ⟨[ndV (newN 0 1000).1 na0, .bool (newN 0 1000).2]⟩) (B := fun _ => []) rfl (fun w1 hw => new_branch w1 _ 0 1000) ?_
  intro _
  rw [new_n0]
  dsimp only [n0, na0, ndV, ndC, List.length_nil, List.nil_append]
  repeat (first|refine Wa ?_|refine Wb ?_|refine Wc ?_|refine Wd ?_|refine We rfl ?_|refine Wf (by first|exact Va|exact Vb|exact Vq) rfl ?_|(refine Wg rfl ?_; intro _)|refine Wi ?_)
  rename_i b1
  refine Wf (OpV.build (idc id1) (by kernel_rfl)) rfl ?_
  repeat (first|refine Wa ?_|refine Wb ?_|refine Wc ?_|refine Wd ?_|refine We rfl ?_|refine Wf (by exact Vc) rfl ?_|(refine Wg rfl ?_; intro _)|refine Wi ?_|(refine Ww rfl ⟨rfl, by decide, by decide, by decide⟩ ?_; intro _))
  rename_i b3 bl
  refine JR.pubOwn bl ?_
  refine Wf (OpV.build [.int .i64 0, .slice (some ⟨bl, 0, none⟩) 1 1, .slice none 0 0] (by kernel_rfl)) rfl ?_
  repeat (refine We rfl ?_)
  refine JR.call (v := fun q : Na × Ma => .tuple ⟨[ndV (hearN n0 ⟨0, [id1], []⟩).1 q.1, mgV (hearN n0 ⟨0, [id1], []⟩).2.1 q.2, .bool (hearN n0 ⟨0, [id1], []⟩).2.2]⟩) (B := fun q => [.st (sl q.1.d q.1.dk (hearN n0 ⟨0, [id1], []⟩).1.disk), .st (sl q.1.l q.1.lk (hearN n0 ⟨0, [id1], []⟩).1.l), .st (sl q.1.w q.1.wk (hearN n0 ⟨0, [id1], []⟩).1.wait), .st (sl q.1.p q.1.pk (hearN n0 ⟨0, [id1], []⟩).1.peers), .st (sl q.2.i q.2.ik (hearN n0 ⟨0, [id1], []⟩).2.1.ids), .st (sl q.2.c q.2.ck (hearN n0 ⟨0, [id1], []⟩).2.1.commits)]) rfl (fun w1 hw => hear_gossip w1 _ n0 na0 ⟨0, [id1], []⟩ ⟨some ⟨bl, 0, none⟩, 1, none, 0⟩ sl_nil sl_nil sl_nil sl_nil (sl_of_ro (hw.get (A := ro bl 0 (idc id1)))) sl_nil few_n0 (by decide) (by simp) (by simp [n0]) (by simp)) ?_
  rintro ⟨⟨a4, k4, a5, k5, a6, k6, a7, k7⟩, ⟨a8, k8, a9, k9⟩⟩
  rw [hear_n0]
  dsimp only [n0, ndV, ndC, mgV, mgC, List.length_nil, List.cons_append, List.nil_append]
  repeat (first|refine Wa ?_|refine Wb ?_|refine Wc ?_|refine Wd ?_|refine We rfl ?_|refine Wf (by first|exact Va|exact Vb|exact Vc|exact Vq) rfl ?_|(refine Wg rfl ?_; intro _)|refine Wi ?_)
  rename_i b4 b5
  refine JR.call (v := fun z : Ma => .tuple ⟨[mgV (tellN n0).1 z, .int .i64 (tellN n0).2]⟩) (B := fun z => mgB (tellN n0).1 z) rfl (fun w1 hw => tell_gossip w1 _ n0 na0 sl_nil sl_nil sl_nil few_n0) ?_
  rintro ⟨p1, q1, p2, q2⟩
  rw [tell_n0]
  dsimp only [mgB, mgV, mgC, List.length_nil, List.cons_append, List.nil_append]
  repeat (first|refine Wa ?_|refine Wb ?_|refine Wc ?_|refine Wd ?_|refine We rfl ?_|refine Wf (by first|exact Va|exact Vb|exact Vc|exact Vd|exact Vq) rfl ?_|(refine Wg rfl ?_; intro _)|refine Wi ?_|(refine Ww rfl ⟨rfl, by decide, by decide, by decide⟩ ?_; intro _))
  rename_i b7 bi
  refine JR.pubOwn bi ?_
  refine JR.call (v := fun q : Na × Ma => .tuple ⟨[ndV (tickW ⟨0, [], 1000, [], [], 0, true, [1], 0, 0⟩ 0 1).1 q.1, .int .i64 (tickW ⟨0, [], 1000, [], [], 0, true, [1], 0, 0⟩ 0 1).2.1, mgV (tickW ⟨0, [], 1000, [], [], 0, true, [1], 0, 0⟩ 0 1).2.2.1 q.2, .bool (tickW ⟨0, [], 1000, [], [], 0, true, [1], 0, 0⟩ 0 1).2.2.2.1, w32 (tickW ⟨0, [], 1000, [], [], 0, true, [1], 0, 0⟩ 0 1).2.2.2.2]⟩) (B := fun q => [.st (sl q.1.d q.1.dk (tickW ⟨0, [], 1000, [], [], 0, true, [1], 0, 0⟩ 0 1).1.disk), .st (sl q.1.l q.1.lk (tickW ⟨0, [], 1000, [], [], 0, true, [1], 0, 0⟩ 0 1).1.l), .st (sl q.1.w q.1.wk (tickW ⟨0, [], 1000, [], [], 0, true, [1], 0, 0⟩ 0 1).1.wait), .st (sl q.1.p q.1.pk (tickW ⟨0, [], 1000, [], [], 0, true, [1], 0, 0⟩ 0 1).1.peers), .st (sl q.2.i q.2.ik (tickW ⟨0, [], 1000, [], [], 0, true, [1], 0, 0⟩ 0 1).2.2.1.ids), .st (sl q.2.c q.2.ck (tickW ⟨0, [], 1000, [], [], 0, true, [1], 0, 0⟩ 0 1).2.2.1.commits)]) rfl (fun w1 hw => tick_gossip w1 _ ⟨0, [], 1000, [], [], 0, true, [1], 0, 0⟩ ⟨none, 0, none, 0, none, 0, some ⟨bi, 0, none⟩, 1⟩ 0 1 sl_nil sl_nil sl_nil (sl_of_roI (hw.get (A := ro bi 0 [.int .i64 1]))) few_n1 (by decide)) ?_
  rintro ⟨⟨c4, r4, c5, r5, c6, r6, c7, r7⟩, ⟨c8, r8, c9, r9⟩⟩
  rw [tick_n0]
  dsimp only [ndV, ndC, mgV, mgC, List.length_nil, List.cons_append, List.nil_append]
  repeat (first|refine Wa ?_|refine Wb ?_|refine Wd ?_|refine We rfl ?_|refine Wf (by first|exact Va|exact Vb|exact Vq) rfl ?_|(refine Wg rfl ?_; intro _)|refine Wi ?_)
  refine JC.openID (L := [id1]) (.slice a8 [id1].length k8) 0 (by decide) ?_
  intro b9 o9
  refine JC.quiet mixed (by kernel_rfl) ?_
  repeat (refine Wy rfl (by first|exact Va|exact Vc|exact Vi|exact Vl) rfl ?_)
  refine JQ.reslot 51 (.bool true) (by simp) ?_
  skip
  refine JQ.reslot 58 (.bool true) (by simp) ?_
  skip
  refine JQ.call rfl rfl (fun w1 hw => may_branch w1 _ n0 ⟨a4, k4, a5, k5, a6, k6, a7, k7⟩ (hw.get (A := sl a4 k4 ([] : List UInt8))) (hw.get (A := sl a5 k5 ([] : List Commit))) (hw.get (A := sl a6 k6 ([] : List Commit))) (by simp [n0])) ?_
  refine JQ.reslot 60 (.bool true) (by rw [show ndMay n0 = true from may_fresh (by decide)]) ?_
  repeat (first|refine Wy rfl (by first|exact Va|exact Vb|exact Vc|exact Vd|exact Ve|exact Vf|exact Vi|exact Vl|exact Vx) rfl ?_|refine WB ?_)
  repeat (first|refine Wa ?_|refine Ws ?_)
  exact CT.done () (by simp [packed]) (fun w ho => ho.ent)
theorem ndMay_closed {n : Nd} (h : ndMay n = true) (hu : n.up = true) : Closed n.l := by
  obtain ⟨h1, h2, h3⟩ := ndMay_room h
  rw [ndMay_up h3 (by omega) hu] at h
  simp only [Bool.and_eq_true, decide_eq_true_eq] at h
  rw [← h.1.1.1.1]
  exact closeF_closed _ _ closed_nil
theorem hear_yes {n : Nd} {k : Int} {ids : List ID} {cs : List Commit} (h1 : ndMay n = true) (h2 : n.up = true) (h3 : mgMay ⟨k, ids, cs⟩ = true) :
    hearN n ⟨k, ids, cs⟩ = if k = 0 then ({ n with miss := 0 }, digestM n.l ids) else if k = 1 then ({ n with miss := 0 }, giveM (partF (sortF n.l) ids)) else (takeL { n with miss := 0 } cs, wantM (missL (takeL { n with miss := 0 } cs).wait (idsP (takeL { n with miss := 0 } cs).l))) := by
  unfold hearN
  rw [h1, h2, h3]; rfl
noncomputable abbrev hearV (n : Nd) (m : Mg) (q : Na × Ma) : Value := .tuple ⟨[ndV (hearN n m).1 q.1, mgV (hearN n m).2.1 q.2, .bool (hearN n m).2.2]⟩
noncomputable abbrev hearB (n : Nd) (m : Mg) (q : Na × Ma) : List Fact := [.st (sl q.1.d q.1.dk (hearN n m).1.disk), .st (sl q.1.l q.1.lk (hearN n m).1.l), .st (sl q.1.w q.1.wk (hearN n m).1.wait), .st (sl q.1.p q.1.pk (hearN n m).1.peers), .st (sl q.2.i q.2.ik (hearN n m).2.1.ids), .st (sl q.2.c q.2.ck (hearN n m).2.1.commits)]
theorem want_ids {L : List Commit} (hc : Closed L) (A : List ID) : (someIds A (idsP L) true).length = (partF (sortF L) A).length ∧ ∀ c ∈ partF (sortF L) A, idC c ∈ someIds A (idsP L) true := by
  have hm : ∀ x, x ∈ someIds A (idsP L) true ↔ x ∈ cids (partF (sortF L) A) := by
    intro x
    rw [mem_someT, idsP_of hc]
    constructor
    · rintro ⟨h1, h2⟩
      obtain ⟨c, hcm, rfl⟩ := mem_cids.1 h2
      exact mem_cids.2 ⟨c, (mem_part_sort hc).2 ⟨hcm, h1⟩, rfl⟩
    · intro h
      obtain ⟨c, hcm, rfl⟩ := mem_cids.1 h
      obtain ⟨h1, h2⟩ := (mem_part_sort hc).1 hcm
      exact ⟨h2, mem_cids.2 ⟨c, h1, rfl⟩⟩
  have hn : (cids (partF (sortF L) A)).Nodup := by
    rw [part_sort hc]
    exact nodup_sub (sortF_closed hc).nodup List.filter_sublist
  have hp := (List.perm_ext_iff_of_nodup (some_nodup _ _ _) hn).2 hm
  exact ⟨by rw [hp.length_eq, cids_length], fun c hcm => (hm _).2 (mem_cids.2 ⟨c, hcm, rfl⟩)⟩
theorem part_pair {L : List Commit} (hc : Closed L) (A : List ID) : (partF (sortF L) A).Pairwise leS := by
  rw [part_sort hc]; exact ((sortF_ok L).sorted hc).filter _
set_option maxHeartbeats 8000000 in
theorem law_asked (w : World) (F : Nat → Prop) (y : Na) (b : Option Addr) (k : Nat) (n : Nd) (A : List ID) (h1 : (sl y.d y.dk n.disk).holds F w) (h2 : (sl y.l y.lk n.l).holds F w) (h3 : (sl y.w y.wk n.wait).holds F w) (h4 : (sl y.p y.pk n.peers).holds F w) (h5 : (sl b k A).holds F w) :
    GivesV Tryz.prog 12 [ndV n y, .slice b A.length k] w F (.bool true) := by
  have hdl : n.disk.length < 9223372036854775807 := by have := h1.2.2.1; simp only [lim] at this; omega
  have hpl : n.peers.length < 9223372036854775807 := by have := h4.2.2.1; simp only [lim] at this; omega
  have hst := (Hold.start4 h1 h2 h3 h4).add (A := sl b k A) (Asn.mono _ _ _ _ (fun k hk => ⟨.inl hk, by simp [free, Fact.owns]⟩) h5)
  obtain ⟨no, disk, room, l, wait, seq, up, peers, next, miss⟩ := n
  obtain ⟨ad, kd, al, kl, aw, kw, ap, kp⟩ := y
  dsimp only [ndV, ndC] at *
  refine gives_of Tryz.func12 rfl Tryz.ntmps12 rfl rfl _ hst ?_
  repeat (first|refine Wa ?_|refine Wb ?_|refine Wc ?_|refine Wd ?_|refine We rfl ?_|refine Wf (by exact Vb) rfl ?_|(refine Wh rfl ?_; intro _))
  rename_i b2
  refine JR.callV rfl (fun w1 hw => awake_gossip w1 _) ?_
  repeat (first|refine Wa ?_|refine Wb ?_|refine Wc ?_|refine Wd ?_|refine We rfl ?_|refine Wf (by first|exact Vb|exact Vc) rfl ?_)
  refine JR.callV rfl (fun w1 hw => few_node w1 _ ⟨no, disk, room, l, wait, seq, up, peers, next, miss⟩ ⟨ad, kd, al, kl, aw, kw, ap, kp⟩ (hw.get (A := sl al kl l)) (hw.get (A := sl aw kw wait)) hdl hpl) ?_
  cases hfew : fewNd ⟨no, disk, room, l, wait, seq, up, peers, next, miss⟩ with
  | false =>
    repeat (first|refine Wa ?_|refine Wb ?_|refine Wc ?_|refine Wd ?_|refine We rfl ?_|refine Wf (by first|exact Va|exact Vb|exact Vh|exact Vi|exact Vj) rfl ?_|refine Wj ?_|refine Ws ?_|refine Wt ?_|refine Wv rfl rfl ?_)
    exact CT.done () rfl (fun w ho => ho.ent)
  | true =>
  have hs := fewNd_small hfew
  have hl8 : l.length ≤ 8 := hs.l
  repeat (first|refine Wa ?_|refine Wb ?_|refine Wc ?_|refine Wd ?_|refine We rfl ?_|refine Wf (by first|exact Va|exact Vb|exact Vf|exact Vh|exact Vj|exact Vo) rfl ?_)
  by_cases g1 : A.length > 16
  · refine JO.reslot 28 (.bool true) (by congr 1; exact decide_eq_true (by omega)) ?_
    repeat (first|refine Wa ?_|refine Wb ?_|refine Wc ?_|refine Wd ?_|refine We rfl ?_|refine Wf (by first|exact Va|exact Vb|exact Vi) rfl ?_|refine Wj ?_|refine Ws ?_|refine Wt ?_|refine Wv rfl rfl ?_)
    exact CT.done () rfl (fun w ho => ho.ent)
  refine JO.reslot 28 (.bool false) (by congr 1; exact decide_eq_false (by omega)) ?_
  repeat (first|refine We rfl ?_|refine Wf (by exact Vc) rfl ?_)
  refine JR.callV rfl (fun w1 hw => may_branch w1 _ ⟨no, disk, room, l, wait, seq, up, peers, next, miss⟩ ⟨ad, kd, al, kl, aw, kw, ap, kp⟩ (hw.get (A := sl ad kd disk)) (hw.get (A := sl al kl l)) (hw.get (A := sl aw kw wait)) hs.few.fw) ?_
  cases hm : ndMay ⟨no, disk, room, l, wait, seq, up, peers, next, miss⟩ with
  | false =>
    repeat (first|refine Wa ?_|refine Wb ?_|refine Wc ?_|refine Wd ?_|refine We rfl ?_|refine Wf (by first|exact Va|exact Vb|exact Vh|exact Vi|exact Vj) rfl ?_|refine Wj ?_|refine Ws ?_|refine Wt ?_|refine Wv rfl rfl ?_)
    exact CT.done () rfl (fun w ho => ho.ent)
  | true =>
  cases up with
  | false =>
    repeat (first|refine Wa ?_|refine Wb ?_|refine Wc ?_|refine Wd ?_|refine We rfl ?_|refine Wf (by first|exact Va|exact Vb|exact Vc|exact Vd|exact Vh|exact Vi|exact Vj) rfl ?_|refine Wj ?_|refine Ws ?_|refine Wt ?_|refine Wv rfl rfl ?_)
    exact CT.done () rfl (fun w ho => ho.ent)
  | true =>
  have hc : Closed l := ndMay_closed hm rfl
  repeat (first|refine We rfl ?_|refine Wf (by first|exact Va|exact Vc|exact Vd|exact Vh|exact Vj) rfl ?_)
  refine JR.callV rfl (fun w1 hw => rises_ids w1 _ b k A (hw.get (A := sl b k A))) ?_
  cases hr : rises A with
  | false =>
    repeat (first|refine Wa ?_|refine Wb ?_|refine Wc ?_|refine Wd ?_|refine We rfl ?_|refine Wf (by first|exact Va|exact Vb|exact Vh|exact Vj) rfl ?_|refine Wj ?_|refine Ws ?_|refine Wt ?_)
    exact CT.done () rfl (fun w ho => ho.ent)
  | true =>
  have hmg : mgMay ⟨1, A, []⟩ = true := by
    unfold mgMay
    rw [if_pos (.inr rfl), hr]
    simp; omega
  have e1 : hearN ⟨no, disk, room, l, wait, seq, true, peers, next, miss⟩ ⟨1, A, []⟩ = (⟨no, disk, room, l, wait, seq, true, peers, next, 0⟩, giveM (partF (sortF l) A)) := by
    rw [hear_yes hm rfl hmg, if_neg (by decide), if_pos rfl]
  obtain ⟨hwl, hwm⟩ := want_ids hc A
  have hPp := part_pair hc A
  have hPm : ∀ c ∈ partF (sortF l) A, c ∈ l := fun c hcm => ((mem_part_sort hc).1 hcm).1
  have hPl : (partF (sortF l) A).length ≤ 8 := by
    have h6 := partF_le (sortF l) A
    have h7 := sortF_le l
    omega
  generalize hP : partF (sortF l) A = P at hwl hwm hPp hPm hPl
  rw [hP] at e1
  repeat (first|refine Wa ?_|refine Wb ?_|refine Wc ?_|refine Wd ?_|refine We rfl ?_|refine Wf (by first|exact Va|exact Vc|exact Vh|exact Vj) rfl ?_|refine Wk ?_|refine Wl ?_)
  refine Wf (OpV.build [.int .i64 1, .slice b A.length k, .slice none 0 0] (by kernel_rfl)) rfl ?_
  repeat (refine We rfl ?_)
  refine JR.call (v := hearV ⟨no, disk, room, l, wait, seq, true, peers, next, miss⟩ ⟨1, A, []⟩) (B := hearB ⟨no, disk, room, l, wait, seq, true, peers, next, miss⟩ ⟨1, A, []⟩) rfl (fun w1 hw => hear_gossip w1 _ ⟨no, disk, room, l, wait, seq, true, peers, next, miss⟩ ⟨ad, kd, al, kl, aw, kw, ap, kp⟩ ⟨1, A, []⟩ ⟨b, k, none, 0⟩ (hw.get (A := sl ad kd disk)) (hw.get (A := sl al kl l)) (hw.get (A := sl aw kw wait)) (hw.get (A := sl ap kp peers)) (hw.get (A := sl b k A)) sl_nil hs.few (by simp) (by simp) hs.qw (by simp)) ?_
  rintro ⟨⟨c4, r4, c5, r5, c6, r6, c7, r7⟩, ⟨c8, r8, c9, r9⟩⟩
  dsimp only [hearV, hearB]
  rw [e1]
  generalize hW : someIds A (idsP l) true = W at hwl hwm
  by_cases hP0 : P = []
  · have e4 : giveM P = (mg0, false) := if_pos hP0
    have hW0 : W = [] := List.eq_nil_of_length_eq_zero (by rw [hwl, hP0]; rfl)
    rw [e4]
    dsimp only [mg0, ndV, ndC, mgV, mgC, List.cons_append, List.nil_append, List.length_nil]
    repeat (first|refine Wa ?_|refine Wb ?_|refine Wc ?_|refine Wd ?_|refine We rfl ?_|refine Wf (by first|exact Va|exact Vb|exact Vc|exact Vd|exact Vq) rfl ?_|(refine Wg rfl ?_; intro _)|refine Wi ?_)
    refine JR.callBuf rfl (fun w1 hw => ids_buf w1 _ al kl l (hw.get (A := sl al kl l)) (by omega) hs.few.fl) ?_
    intro p1 q1
    refine JO.more (fun w1 ho => ho.pub) ?_
    repeat (refine We rfl ?_)
    refine JR.callBuf rfl (fun w1 hw => common_ids w1 _ b p1 k q1 A (idsP l) (hw.get (A := sl b k A)) (hw.get (A := sl p1 q1 (idsP l))) (by omega)) ?_
    intro p2 q2
    rw [hW, hW0]
    dsimp only [List.length_nil]
    repeat (first|refine Wa ?_|refine Wb ?_|refine Wc ?_|refine Wd ?_|refine We rfl ?_|refine Wf (by first|exact Va|exact Vb|exact Vc|exact Vd|exact Vf|exact Vi|exact Vj|exact Vm|exact Vn|exact Vo|exact VF) rfl ?_|refine Wk ?_|refine Wl ?_|refine Wn ?_|refine Wv rfl rfl ?_)
    rename_i b7 b8
    refine JC.loop1 (fun (j : Nat) => [(8, .pointer (some ⟨b8, 0, none⟩)), (11, .int .i64 (j : Int))]) (fun _ => [.own b8 52 [.int .i64 0, .slice c8 0 r8, .slice c9 0 r9]]) (fun j => j = 0) (fun _ => 0) 0 rfl inferInstance ?_
    rintro j rfl
    repeat (first|refine Wa ?_|refine Wb ?_|refine Wc ?_|refine Wd ?_|refine We rfl ?_|refine Wf (by first|exact Va|exact Vb|exact Vc|exact Vd|exact Vf|exact Vg) rfl ?_|refine Wk ?_|refine Wm ?_|refine Wo ?_|refine Wp ?_|refine Ws ?_)
    exact CT.done () rfl (fun w ho => ho.ent)
  · have e4 : giveM P = (⟨2, [], P.take 6⟩, true) := if_neg hP0
    have hpos := List.length_pos_iff.2 hP0
    rw [e4]
    have hT : (P.take 6).length = min 6 P.length := List.length_take ..
    have htm : ∀ c ∈ P.take 6, c ∈ l ∧ idC c ∈ W := fun c hcm => ⟨hPm c (List.mem_of_mem_take hcm), hwm c (List.mem_of_mem_take hcm)⟩
    have htp : (P.take 6).Pairwise leS := hPp.sublist (List.take_sublist _ _)
    generalize P.take 6 = T at hT htm htp
    dsimp only [ndV, ndC, mgV, mgC, List.cons_append, List.nil_append, List.length_nil]
    repeat (first|refine Wa ?_|refine Wb ?_|refine Wc ?_|refine Wd ?_|refine We rfl ?_|refine Wf (by first|exact Va|exact Vb|exact Vc|exact Vd|exact Vq) rfl ?_|(refine Wg rfl ?_; intro _)|refine Wi ?_)
    rename_i b7 b8
    refine JR.callBuf rfl (fun w1 hw => ids_buf w1 _ al kl l (hw.get (A := sl al kl l)) (by omega) hs.few.fl) ?_
    intro p1 q1
    refine JO.more (fun w1 ho => ho.pub) ?_
    repeat (refine We rfl ?_)
    refine JR.callBuf rfl (fun w1 hw => common_ids w1 _ b p1 k q1 A (idsP l) (hw.get (A := sl b k A)) (hw.get (A := sl p1 q1 (idsP l))) (by omega)) ?_
    intro p2 q2
    rw [hW]
    refine JO.more (fun w1 ho => ho.pub) ?_
    repeat (first|refine Wa ?_|refine Wb ?_|refine Wc ?_|refine Wd ?_|refine We rfl ?_|refine Wf (by first|exact Va|exact Vb|exact Vf|exact Vo|exact VF) rfl ?_)
    refine JO.reslot 62 (.bool false) (by simp; omega) ?_
    repeat (first|refine We rfl ?_|refine Wf (by first|exact Va|exact Vc|exact Vd|exact Vf|exact Vj|exact Vo) rfl ?_)
    refine JO.reslot 68 (.bool false) (by congr 1; exact decide_eq_false (by omega)) ?_
    repeat (first|refine We rfl ?_|refine Wf (by first|exact Va|exact Vf|exact Vn) rfl ?_)
    by_cases hw6 : W.length ≤ 6
    · refine JO.reslot 72 (.bool true) (by congr 1; exact decide_eq_true (by omega)) ?_
      repeat (first|refine We rfl ?_|refine Wf (by first|exact Va|exact Vc|exact Vd|exact Vf|exact Vi|exact Vj|exact Vm) rfl ?_)
      refine JO.reslot 81 (.bool false) (by congr 1; exact decide_eq_false (by omega)) ?_
      repeat (first|refine We rfl ?_|refine Wf (by first|exact Va|exact Vf|exact Vo) rfl ?_)
      refine JO.reslot 85 (.bool false) (by congr 1; exact decide_eq_false (by omega)) ?_
      repeat (first|refine Wa ?_|refine Wb ?_|refine Wc ?_|refine Wd ?_|refine We rfl ?_|refine Wf (by first|exact Vb|exact Vj) rfl ?_|refine Wk ?_|refine Wl ?_|refine Wn ?_|refine Wv rfl rfl ?_)
      refine JC.loop1 (fun (j : Nat) => [(8, .pointer (some ⟨b8, 0, none⟩)), (10, .slice p2 W.length q2), (11, .int .i64 (j : Int))]) (fun _ => [.own b8 52 [.int .i64 2, .slice c8 0 r8, .slice c9 T.length r9], .st (sl c9 r9 T), .st (sl p2 q2 W)]) (fun j => j ≤ T.length) (fun j => T.length - j) 0 (Nat.zero_le _) inferInstance ?_
      intro j hj
      repeat (first|refine Wa ?_|refine Wb ?_|refine Wc ?_|refine Wd ?_|refine We rfl ?_|refine Wf (by first|exact Va|exact Vc|exact Vd|exact Vf|exact Vg) rfl ?_)
      refine JC.test (fun hlt => ?_) (fun hge => ?_)
      · have hlt' : j < T.length := by omega
        have hjm := htm T[j] (List.getElem_mem hlt')
        have hmay : may T[j] = true := hc.may _ hjm.1
        have hx := hs.few.fl _ hjm.1
        repeat (first|refine Wa ?_|refine Wb ?_|refine Wc ?_|refine We rfl ?_|refine Wf (by first|exact Va|exact Vc|exact Vd) rfl ?_|refine Wl ?_|refine Wn ?_)
        refine JR.indexCommit rfl hlt' ?_
        intro b5 o5 p5 q5
        repeat (first|refine We rfl ?_|refine Wf (by exact Vc) rfl ?_)
        refine JR.callV rfl (fun w1 hw => hash_commit w1 _ T[j] p5 q5 hw.get hx.1) ?_
        repeat (first|refine Wa ?_|refine Wb ?_|refine Wd ?_|refine We rfl ?_|refine Wf (by first|exact Va|exact Vb|exact Vq) rfl ?_|(refine Wg rfl ?_; intro _)|refine Wi ?_)
        by_cases hj0 : j = 0
        · generalize T[j] = cj at hjm hmay hx ⊢
          refine JC.quiet mixed (by kernel_rfl) ?_
          repeat (refine Wy rfl (by first|exact Va|exact Vm) rfl ?_)
          refine JQ.reslot 110 (.bool false) (by congr 1; exact decide_eq_false (fun h => h ((hash_err cj).2 hmay))) ?_
          repeat (refine Wy rfl (by first|exact Va|exact Vc) rfl ?_)
          refine JQ.call rfl rfl (fun w1 hw => has_ids w1 _ p2 q2 W (hashC cj).1 (hw.get (A := sl p2 q2 W))) ?_
          refine JQ.reslot 113 (.bool true) (by rw [decide_eq_true (show (hashC cj).1 ∈ W from hjm.2)]) ?_
          repeat (refine Wy rfl (by first|exact Va|exact Vd|exact Vh|exact Vj|exact Vo) rfl ?_)
          refine JQ.reslot 119 (.bool false) (by congr 1; exact decide_eq_false (by omega)) ?_
          repeat (first|refine Wy rfl (by first|exact Va|exact Vd|exact Vj) rfl ?_|refine Wz rfl rfl ?_|refine WB ?_)
          repeat (first|refine Wa ?_|refine Wc ?_|refine Wd ?_|refine We rfl ?_|refine Wf (by first|exact Va|exact Vb|exact Vk (by omega)) rfl ?_|refine Wk ?_|refine Wl ?_|refine Wr ?_)
          exact ⟨j + 1, by omega, by omega, inferInstance⟩
        · obtain ⟨m, rfl⟩ : ∃ m, j = m + 1 := ⟨j - 1, by omega⟩
          have hgen : ¬ T[m + 1].gen < (T[m]'(by omega)).gen := by
            have := List.pairwise_iff_getElem.1 htp m (m + 1) (by omega) hlt' (by omega)
            rcases this with h6 | ⟨h6, _⟩ <;> omega
          refine JC.openCommit (L := T) (.slice c9 T.length r9) (m + 1) hlt' ?_
          intro b6 o6 p6 q6
          refine JC.openCommit (L := T) (.slice c9 T.length r9) m (by omega) ?_
          intro b7' o7 p7 q7
          generalize T[m] = ck at hgen ⊢
          generalize T[m + 1] = cj at hjm hmay hx hgen ⊢
          refine JC.quiet mixed (by kernel_rfl) ?_
          repeat (refine Wy rfl (by first|exact Va|exact Vm) rfl ?_)
          refine JQ.reslot 110 (.bool false) (by congr 1; exact decide_eq_false (fun h => h ((hash_err cj).2 hmay))) ?_
          repeat (refine Wy rfl (by first|exact Va|exact Vc) rfl ?_)
          refine JQ.call rfl rfl (fun w1 hw => has_ids w1 _ p2 q2 W (hashC cj).1 (hw.get (A := sl p2 q2 W))) ?_
          refine JQ.reslot 113 (.bool true) (by rw [decide_eq_true (show (hashC cj).1 ∈ W from hjm.2)]) ?_
          repeat (refine Wy rfl (by first|exact Va|exact Vd|exact Vh|exact Vj|exact Vo) rfl ?_)
          refine JQ.reslot 119 (.bool true) (by congr 1; exact decide_eq_true (by omega)) ?_
          repeat (refine Wy rfl (by first|exact Va|exact Vc|exact Vd|exact Ve|exact Vu (by omega)) rfl ?_)
          refine JQ.reslot 129 (.int .i64 ((m : Nat) : Int)) (by rw [Nat.add_sub_cancel]) ?_
          repeat (first|refine Wy rfl (by first|exact Vc|exact Vd|exact Ve|exact Vg|exact Vi|exact Vj) rfl ?_|refine WB ?_)
          repeat (refine Wa ?_)
          refine JC.reslot 135 (.bool false) (by congr 1; exact decide_eq_false hgen) ?_
          repeat (first|refine Wa ?_|refine Wc ?_|refine Wd ?_|refine We rfl ?_|refine Wf (by first|exact Va|exact Vb|exact Vk (by omega)) rfl ?_|refine Wk ?_|refine Wl ?_|refine Wr ?_)
          exact ⟨m + 1 + 1, by omega, by omega, inferInstance⟩
      · repeat (first|refine Wa ?_|refine Wb ?_|refine Wc ?_|refine Wd ?_|refine We rfl ?_|refine Wf (by exact Vb) rfl ?_|refine Wm ?_|refine Wo ?_|refine Wp ?_|refine Ws ?_)
        exact CT.done () rfl (fun w ho => ho.ent)
    · refine JO.reslot 72 (.bool false) (by congr 1; exact decide_eq_false (by omega)) ?_
      repeat (first|refine We rfl ?_|refine Wf (by first|exact Va|exact Vf|exact Vj|exact Vo) rfl ?_|refine Wv rfl rfl ?_)
      refine JO.reslot 85 (.bool true) (by congr 1; exact decide_eq_true (by omega)) ?_
      repeat (first|refine Wa ?_|refine Wd ?_|refine We rfl ?_|refine Wf (by first|exact Vc|exact Vd|exact Vf|exact Vi|exact Vj|exact Vm) rfl ?_)
      refine JC.reslot 91 (.bool false) (by congr 1; exact decide_eq_false (by omega)) ?_
      repeat (first|refine Wa ?_|refine Wb ?_|refine Wc ?_|refine Wd ?_|refine We rfl ?_|refine Wf (by exact Vb) rfl ?_|refine Wk ?_|refine Wl ?_|refine Wn ?_)
      refine JC.loop1 (fun (j : Nat) => [(8, .pointer (some ⟨b8, 0, none⟩)), (10, .slice p2 W.length q2), (11, .int .i64 (j : Int))]) (fun _ => [.own b8 52 [.int .i64 2, .slice c8 0 r8, .slice c9 T.length r9], .st (sl c9 r9 T), .st (sl p2 q2 W)]) (fun j => j ≤ T.length) (fun j => T.length - j) 0 (Nat.zero_le _) inferInstance ?_
      intro j hj
      repeat (first|refine Wa ?_|refine Wb ?_|refine Wc ?_|refine Wd ?_|refine We rfl ?_|refine Wf (by first|exact Va|exact Vc|exact Vd|exact Vf|exact Vg) rfl ?_)
      refine JC.test (fun hlt => ?_) (fun hge => ?_)
      · have hlt' : j < T.length := by omega
        have hjm := htm T[j] (List.getElem_mem hlt')
        have hmay : may T[j] = true := hc.may _ hjm.1
        have hx := hs.few.fl _ hjm.1
        repeat (first|refine Wa ?_|refine Wb ?_|refine Wc ?_|refine We rfl ?_|refine Wf (by first|exact Va|exact Vc|exact Vd) rfl ?_|refine Wl ?_|refine Wn ?_)
        refine JR.indexCommit rfl hlt' ?_
        intro b5 o5 p5 q5
        repeat (first|refine We rfl ?_|refine Wf (by exact Vc) rfl ?_)
        refine JR.callV rfl (fun w1 hw => hash_commit w1 _ T[j] p5 q5 hw.get hx.1) ?_
        repeat (first|refine Wa ?_|refine Wb ?_|refine Wd ?_|refine We rfl ?_|refine Wf (by first|exact Va|exact Vb|exact Vq) rfl ?_|(refine Wg rfl ?_; intro _)|refine Wi ?_)
        by_cases hj0 : j = 0
        · generalize T[j] = cj at hjm hmay hx ⊢
          refine JC.quiet mixed (by kernel_rfl) ?_
          repeat (refine Wy rfl (by first|exact Va|exact Vm) rfl ?_)
          refine JQ.reslot 110 (.bool false) (by congr 1; exact decide_eq_false (fun h => h ((hash_err cj).2 hmay))) ?_
          repeat (refine Wy rfl (by first|exact Va|exact Vc) rfl ?_)
          refine JQ.call rfl rfl (fun w1 hw => has_ids w1 _ p2 q2 W (hashC cj).1 (hw.get (A := sl p2 q2 W))) ?_
          refine JQ.reslot 113 (.bool true) (by rw [decide_eq_true (show (hashC cj).1 ∈ W from hjm.2)]) ?_
          repeat (refine Wy rfl (by first|exact Va|exact Vd|exact Vh|exact Vj|exact Vo) rfl ?_)
          refine JQ.reslot 119 (.bool false) (by congr 1; exact decide_eq_false (by omega)) ?_
          repeat (first|refine Wy rfl (by first|exact Va|exact Vd|exact Vj) rfl ?_|refine Wz rfl rfl ?_|refine WB ?_)
          repeat (first|refine Wa ?_|refine Wc ?_|refine Wd ?_|refine We rfl ?_|refine Wf (by first|exact Va|exact Vb|exact Vk (by omega)) rfl ?_|refine Wk ?_|refine Wl ?_|refine Wr ?_)
          exact ⟨j + 1, by omega, by omega, inferInstance⟩
        · obtain ⟨m, rfl⟩ : ∃ m, j = m + 1 := ⟨j - 1, by omega⟩
          have hgen : ¬ T[m + 1].gen < (T[m]'(by omega)).gen := by
            have := List.pairwise_iff_getElem.1 htp m (m + 1) (by omega) hlt' (by omega)
            rcases this with h6 | ⟨h6, _⟩ <;> omega
          refine JC.openCommit (L := T) (.slice c9 T.length r9) (m + 1) hlt' ?_
          intro b6 o6 p6 q6
          refine JC.openCommit (L := T) (.slice c9 T.length r9) m (by omega) ?_
          intro b7' o7 p7 q7
          generalize T[m] = ck at hgen ⊢
          generalize T[m + 1] = cj at hjm hmay hx hgen ⊢
          refine JC.quiet mixed (by kernel_rfl) ?_
          repeat (refine Wy rfl (by first|exact Va|exact Vm) rfl ?_)
          refine JQ.reslot 110 (.bool false) (by congr 1; exact decide_eq_false (fun h => h ((hash_err cj).2 hmay))) ?_
          repeat (refine Wy rfl (by first|exact Va|exact Vc) rfl ?_)
          refine JQ.call rfl rfl (fun w1 hw => has_ids w1 _ p2 q2 W (hashC cj).1 (hw.get (A := sl p2 q2 W))) ?_
          refine JQ.reslot 113 (.bool true) (by rw [decide_eq_true (show (hashC cj).1 ∈ W from hjm.2)]) ?_
          repeat (refine Wy rfl (by first|exact Va|exact Vd|exact Vh|exact Vj|exact Vo) rfl ?_)
          refine JQ.reslot 119 (.bool true) (by congr 1; exact decide_eq_true (by omega)) ?_
          repeat (refine Wy rfl (by first|exact Va|exact Vc|exact Vd|exact Ve|exact Vu (by omega)) rfl ?_)
          refine JQ.reslot 129 (.int .i64 ((m : Nat) : Int)) (by rw [Nat.add_sub_cancel]) ?_
          repeat (first|refine Wy rfl (by first|exact Vc|exact Vd|exact Ve|exact Vg|exact Vi|exact Vj) rfl ?_|refine WB ?_)
          repeat (refine Wa ?_)
          refine JC.reslot 135 (.bool false) (by congr 1; exact decide_eq_false hgen) ?_
          repeat (first|refine Wa ?_|refine Wc ?_|refine Wd ?_|refine We rfl ?_|refine Wf (by first|exact Va|exact Vb|exact Vk (by omega)) rfl ?_|refine Wk ?_|refine Wl ?_|refine Wr ?_)
          exact ⟨m + 1 + 1, by omega, by omega, inferInstance⟩
      · repeat (first|refine Wa ?_|refine Wb ?_|refine Wc ?_|refine Wd ?_|refine We rfl ?_|refine Wf (by exact Vb) rfl ?_|refine Wm ?_|refine Wo ?_|refine Wp ?_|refine Ws ?_)
        exact CT.done () rfl (fun w ho => ho.ent)
end Ab
end Go.Proofs.YtdgeffphifgflaaGreat
namespace Go.Proofs.YtdgeffphifgflaaGreat
namespace Ab
open Go Go.RowKit
set_option linter.unusedVariables false
set_option linter.unusedSimpArgs false
structure OpenT (P : Program) (α : Type) [Cell α] (t : TypeId) : Prop where
  ok : ∀ {H : Type} {enc : TypeId × Value → H} {w : World} {sp : Nat → Bool} {held : Bool} {fuel : Nat} {cs : List Value} {x : DataW H × List MemPlace},
    DataW.trod enc P w 0 sp held fuel t cs = some x → (∀ n ∈ x.1.weights P t, n ≤ reachBytes) → ∃ (u : α) (y : Cell.Ix α), cs = Cell.cells u y ∧ ∀ A ∈ Cell.facts u y, A.holds (fun _ => True) w
theorem weightsAll_mem {H : Type} {P : Program} {e : TypeId} {d : DataW H} {n : Nat} (hn : n ∈ d.weights P e) : ∀ {ds : List (DataW H)}, d ∈ ds → n ∈ DataW.weightsAll P e ds
  | [], h => by cases h
  | d' :: ds, h => by
    simp only [DataW.weightsAll, List.mem_append]
    rcases List.mem_cons.1 h with rfl | h
    · exact .inl hn
    · exact .inr (weightsAll_mem hn h)
theorem add_zero_addr (a : Addr) : (a.add 0).add 0 = a := by simp [Addr.add]
theorem cells_get {w : World} {a : Addr} {n : Nat} {ci : List Value} (h : w.cells? 0 a n = some ci) (j : Nat) (v : Value) (hv : ci[j]? = some v) : w.cell? (a.add j) = some v := by
  unfold World.cells? at h
  rw [if_pos (Nat.zero_le _)] at h
  have hl := mapM_some_length h
  have hj : j < n := by
    have := (List.getElem?_eq_some_iff.1 hv).1
    rw [hl, List.length_range] at this
    exact this
  have := mapM_some_get h j j (by simp [hj])
  rw [this, hv]
theorem OpenT.slice {P : Program} {α : Type} [Cell α] {t e : TypeId} (hO : OpenT P α e) (ht : P.underlying t = some (.slice e)) (hc : P.cellsOf e = Cell.sz α) (hb : 1 ≤ P.bytesOf e)
    {H : Type} {enc : TypeId × Value → H} {w : World} {sp : Nat → Bool} {held : Bool} {fuel : Nat} {cs : List Value} {x : DataW H × List MemPlace}
    (h : DataW.trod enc P w 0 sp held fuel t cs = some x) (hw : ∀ n ∈ x.1.weights P t, n ≤ reachBytes) :
    ∃ (a : Option Addr) (c : Nat) (L : List α), cs = [.slice a L.length c] ∧ (sl a c L).holds (fun _ => True) w := by
  rcases DataW.trod_slice ht h with ⟨rfl, rfl⟩ | ⟨a, len, cap, elems, rest, n, _, rfl, rfl, _, hlc, hcm, hlen, helems, _, _⟩
  · exact ⟨none, 0, [], rfl, sl_nil⟩
  · simp only [DataW.weights, ht] at hw
    have hw1 : len ≤ reachBytes := by
      have := hw _ (List.mem_cons_self ..)
      simp only [List.length_map] at this
      have h2 : (elems.length + rest.length) * 1 ≤ (elems.length + rest.length) * P.bytesOf e := Nat.mul_le_mul_left _ hb
      omega
    have key : ∀ i (hi : i < len), ∃ (u : α), ∃ (y : Cell.Ix α), (∀ j v, (Cell.cells u y)[j]? = some v → w.cell? ((a.add (i * Cell.sz α)).add j) = some v) ∧ ∀ A ∈ Cell.facts u y, A.holds (fun _ => True) w := by
      intro i hi
      have h1 := helems i hi
      have hi' : i < elems.length := by omega
      rw [List.getElem?_eq_getElem hi', hc] at h1
      obtain ⟨ci, hci, hd⟩ := Option.bind_eq_some_iff.1 h1
      obtain ⟨u, y, rfl, hf⟩ := hO.ok hd (fun n hn => hw n (List.mem_cons_of_mem _ (List.mem_append_left _ (weightsAll_mem hn (List.mem_map_of_mem (List.getElem_mem hi'))))))
      exact ⟨u, y, fun j v hv => cells_get hci j v hv, hf⟩
    obtain ⟨f, hf⟩ := Classical.axiomOfChoice (fun i : Fin len => key i.1 i.2)
    refine ⟨some a, cap, List.ofFn f, by simp, ?_⟩
    have hR : reachBytes = 140737488351232 := rfl
    refine ⟨by simpa using hlc, hcm, by simp only [List.length_ofFn, lim]; omega, fun hne => ?_⟩
    have h0 : 0 < len := by
      have := List.length_pos_iff.2 hne
      simpa using this
    obtain ⟨y0, hy0, _⟩ := hf ⟨0, h0⟩
    have hpos : 0 < (Cell.cells (f ⟨0, h0⟩) y0).length := by rw [Cell.len]; exact Cell.pos
    have hc0 := hy0 0 _ (List.getElem?_eq_getElem hpos)
    simp only [Nat.zero_mul, add_zero_addr] at hc0
    obtain ⟨b, off, spot⟩ := a
    have hspot : spot = none := by
      cases spot with
      | none => rfl
      | some s =>
        unfold World.cell? at hc0
        split at hc0
        · simp at hc0
        · cases hc0
    subst hspot
    refine ⟨b, off, rfl, trivial, ?_, fun i hi => ?_⟩
    · rcases Nat.lt_or_ge b w.heap.size with h | h
      · exact h
      · unfold World.cell? at hc0
        simp [Array.getElem?_eq_none h] at hc0
    · have hi' : i < len := by simpa using hi
      obtain ⟨y, hy, hfa⟩ := hf ⟨i, hi'⟩
      refine ⟨y, fun j v hv => ?_, fun A hA => ?_⟩
      · simp only [List.getElem_ofFn] at hv
        have := hy j v hv
        rw [Addr.add_mid, Addr.add_mid] at this
        exact this
      · simp only [List.getElem_ofFn] at hA
        exact hfa A hA
theorem open_byte : OpenT Tryz.prog UInt8 5 := ⟨fun h _ => by
  obtain ⟨n, rfl, _, hw⟩ := DataW.trod_int Tryz.underlying5 h
  have hb : 0 ≤ n ∧ n ≤ 255 := by simpa [Lit.wf, IntKind.min, IntKind.max, IntKind.signed, IntKind.bits] using hw
  refine ⟨UInt8.ofNat n.toNat, (), ?_, by simp [Cell.facts]⟩
  show _ = [byteV _]
  simp only [byteV, List.cons.injEq, and_true, Value.int.injEq, true_and]
  rw [UInt8.toNat_ofNat']
  omega⟩
def byteOfV : Value → UInt8
  | .int _ n => UInt8.ofNat n.toNat
  | _ => 0
set_option maxRecDepth 100000 in
theorem open_id : OpenT Tryz.prog ID 81 := ⟨fun {H enc w sp held fuel cs x} h _ => by
  have hcell : Tryz.prog.cellsOf 5 = 1 := by kernel_rfl
  have hcell2 : Tryz.prog.cellsOf 81 = 32 := by kernel_rfl
  obtain ⟨xs, m, rfl, rfl, hl, hlx, hx⟩ := DataW.trod_array Tryz.underlying81 h
  rw [hcell2] at hl
  have key : ∀ i (hi : i < cs.length), cs[i] = byteV (byteOfV cs[i]) := by
    intro i hi
    have h1 := hx i (by omega)
    rw [hcell, Nat.mul_one, List.getElem?_eq_getElem (by omega)] at h1
    have h2 : (cs.drop i).take 1 = [cs[i]] := by
      rw [List.drop_eq_getElem_cons hi]; rfl
    rw [h2] at h1
    obtain ⟨n, hn, _, hw⟩ := DataW.trod_int Tryz.underlying5 h1
    injection hn with hn
    have hb : 0 ≤ n ∧ n ≤ 255 := by simpa [Lit.wf, IntKind.min, IntKind.max, IntKind.signed, IntKind.bits] using hw
    rw [hn]
    simp only [byteOfV, byteV, Value.int.injEq, true_and]
    rw [UInt8.toNat_ofNat']
    omega
  refine ⟨⟨cs.map byteOfV, by rw [List.length_map]; exact hl⟩, (), ?_, by simp [Cell.facts]⟩
  show cs = (cs.map byteOfV).map byteV
  apply List.ext_getElem
  · simp
  · intro i h1 h2
    simp only [List.getElem_map]
    exact key i h1⟩
set_option maxRecDepth 100000 in
theorem open_commit : OpenT Tryz.prog Commit 29 := ⟨fun {H enc w sp held fuel cs x} h hw => by
  have c24 : Tryz.prog.cellsOf 24 = 2 := by kernel_rfl
  have c27 : Tryz.prog.cellsOf 27 = 4 := by kernel_rfl
  have c29 : Tryz.prog.cellsOf 29 = 8 := by kernel_rfl
  have c25 : Tryz.prog.cellsOf 25 = 1 := by kernel_rfl
  have c3 : Tryz.prog.cellsOf 3 = 1 := by kernel_rfl
  have c9 : Tryz.prog.cellsOf 9 = 1 := by kernel_rfl
  obtain ⟨xs, m, rfl, rfl, hl, hlx, hx⟩ := DataW.trod_struct Tryz.underlying29 h
  rw [c29] at hl
  match cs, hl with
  | [v0, v1, v2, v3, v4, v5, v6, v7], _ =>
  match xs, hlx with
  | [x0, x1, x2, x3], _ =>
  have h0 := hx 0 _ rfl
  have h1 := hx 1 _ rfl
  have h2 := hx 2 _ rfl
  have h3 := hx 3 _ rfl
  simp only [List.getElem_toArray, List.getElem_cons_zero, List.getElem_cons_succ, c24, c3, c25, c27, List.drop_zero, List.drop_succ_cons, List.take_succ_cons, List.take_zero, List.getElem?_cons_zero, List.getElem?_cons_succ] at h0 h1 h2 h3
  obtain ⟨ys, m', rfl, rfl, _, hly, hy⟩ := DataW.trod_struct Tryz.underlying24 h0
  match ys, hly with
  | [y0, y1], _ =>
  have e0 := hy 0 _ rfl
  have e1 := hy 1 _ rfl
  simp only [List.getElem_toArray, List.getElem_cons_zero, List.getElem_cons_succ, c3, List.drop_zero, List.drop_succ_cons, List.take_succ_cons, List.take_zero, List.getElem?_cons_zero, List.getElem?_cons_succ] at e0 e1
  obtain ⟨n0, q0, _, _⟩ := DataW.trod_int Tryz.underlying3 e0
  obtain ⟨n1, q1, _, _⟩ := DataW.trod_int Tryz.underlying3 e1
  obtain ⟨n2, q2, _, _⟩ := DataW.trod_int Tryz.underlying3 h1
  obtain ⟨zs, m2, hm2, rfl, _, hlz, hz⟩ := DataW.trod_struct Tryz.underlying27 h3
  match zs, hlz with
  | [z0, z1, z2, z3], _ =>
  have g0 := hz 0 _ rfl
  have g1 := hz 1 _ rfl
  have g2 := hz 2 _ rfl
  have g3 := hz 3 _ rfl
  simp only [List.getElem_toArray, List.getElem_cons_zero, List.getElem_cons_succ, c3, c9, List.drop_zero, List.drop_succ_cons, List.take_succ_cons, List.take_zero, List.getElem?_cons_zero, List.getElem?_cons_succ] at g0 g1 g2 g3
  obtain ⟨k0, r0, _, _⟩ := DataW.trod_int Tryz.underlying3 g0
  obtain ⟨s1, r1, r1x, _⟩ := DataW.trod_string Tryz.underlying9 g1
  obtain ⟨s2, r2, r2x, _⟩ := DataW.trod_string Tryz.underlying9 g2
  obtain ⟨k3, r3, _, _⟩ := DataW.trod_int Tryz.underlying3 g3
  simp only [DataW.weights, Tryz.underlying29, List.map_cons, List.map_nil, DataW.weightsEach, List.append_nil, List.mem_append, List.map_toArray] at hw
  obtain ⟨pa, pc, L, q3, hsl⟩ := open_id.slice Tryz.underlying25 (by kernel_rfl) (by rw [show Tryz.prog.bytesOf 81 = 32 by kernel_rfl]; decide) h2 (fun n hn => hw n (by simp [hn]))
  injection q0 with q0
  injection q1 with q1
  injection q2 with q2
  injection q3 with q3
  injection r0 with r0
  injection r1 with r1
  injection r2 with r2
  injection r3 with r3
  subst q0 q1 q2 q3 r0 r1 r2 r3
  exact ⟨⟨⟨n0, n1⟩, n2, L, ⟨k0, s1, s2, k3⟩⟩, (pa, pc), rfl, fun A hA => by simp only [Cell.facts, List.mem_singleton] at hA; subst hA; exact hsl⟩⟩
end Ab
end Go.Proofs.YtdgeffphifgflaaGreat
namespace Go.Proofs.YtdgeffphifgflaaGreat
open Go Go.ChangeShapes Go.WideShapes Go.ChangeAt Go.RowKit
set_option linter.unusedVariables false
theorem knobs : ownKnob Tryz.prog.godebug = none := by kernel_rfl
theorem laid : laidOutB Tryz.prog = true := by kernel_rfl
theorem arg_sl {P : Program} {H : Type} {enc : TypeId × Value → H} {W : World} {α : Type} [Ab.Cell α] {t e : TypeId} (hO : Ab.OpenT P α e) (ht : P.underlying t = some (.slice e)) (hc : P.cellsOf e = Ab.Cell.sz α) (hb : 1 ≤ P.bytesOf e)
    {r : Reach} {base : Nat} {v : Value} {d : DataW H} {p : List MemPlace} (hv : Value.okWide P W r base t v) (h : DataW.Trod enc P W 0 (fun _ => true) true t v d p) (hw : ∀ n ∈ d.weights P t, n ≤ reachBytes) :
    ∃ (a : Option Addr) (c : Nat) (L : List α), v = .slice a L.length c ∧ (Ab.sl a c L).holds (fun _ => True) W := by
  obtain ⟨a, len, cap, rfl⟩ := okWide_slice ht hv
  obtain ⟨fuel, hf⟩ := h
  obtain ⟨a', c', L, hcs, hsl⟩ := hO.slice ht hc hb hf hw
  simp [Value.cells] at hcs
  obtain ⟨rfl, rfl, rfl⟩ := hcs
  exact ⟨_, _, L, rfl, hsl⟩
theorem bytes_id : Tryz.prog.bytesOf 81 = 32 := by kernel_rfl
section
variable {H : Type} {enc : TypeId × Value → H} {W : World} {r : Reach} {base : Nat} {v : Value} {d : DataW H} {p : List MemPlace}
set_option maxRecDepth 100000 in
theorem arg_ids (hv : Value.okWide Tryz.prog W r base 25 v) (h : DataW.Trod enc Tryz.prog W 0 (fun _ => true) true 25 v d p) (hw : ∀ n ∈ d.weights Tryz.prog 25, n ≤ reachBytes) :
    ∃ (a : Option Addr) (c : Nat) (L : List Ab.ID), v = .slice a L.length c ∧ (Ab.sl a c L).holds (fun _ => True) W :=
  arg_sl Ab.open_id Tryz.underlying25 (by kernel_rfl) (by rw [bytes_id]; decide) hv h hw
end
section
variable {H : Type} {enc : TypeId × Value → H} {P : Program} {w : World} {base : Nat} {spare : Nat → Bool} {held : Bool}
end
end Go.Proofs.YtdgeffphifgflaaGreat
namespace Go.Proofs.YtdgeffphifgflaaGreat
namespace Ab
open Go Go.RowKit
set_option linter.unusedVariables false
set_option linter.unusedSimpArgs false
instance : Cell Nd where
  Ix := Na
  sz := 10
  cells n y := ndC n y
  facts n y := [sl y.d y.dk n.disk, sl y.l y.lk n.l, sl y.w y.wk n.wait, sl y.p y.pk n.peers]
  len _ _ := rfl
  one n y := by
    intro v hv
    simp only [List.mem_cons, List.not_mem_nil, or_false] at hv
    rcases hv with rfl | rfl | rfl | rfl | rfl | rfl | rfl | rfl | rfl | rfl <;> rfl
  pos := by decide
instance : Cell Mg where
  Ix := Ma
  sz := 3
  cells n y := mgC n y
  facts n y := [sl y.i y.ik n.ids, sl y.c y.ck n.commits]
  len _ _ := rfl
  one n y := by
    intro v hv
    simp only [List.mem_cons, List.not_mem_nil, or_false] at hv
    rcases hv with rfl | rfl | rfl <;> rfl
  pos := by decide
theorem open_int : OpenT Tryz.prog Int 3 := ⟨fun h _ => by
  obtain ⟨n, rfl, _, _⟩ := DataW.trod_int Tryz.underlying3 h
  exact ⟨n, (), rfl, by simp [Cell.facts]⟩⟩
set_option maxRecDepth 100000 in
theorem open_node : OpenT Tryz.prog Nd 50 := ⟨fun {H enc w sp held fuel cs x} h hw => by
  have cT : Tryz.prog.cellsOf 50 = 10 := by kernel_rfl
  have c_bool : Tryz.prog.cellsOf 4 = 1 := by kernel_rfl
  have c_bytes : Tryz.prog.cellsOf 22 = 1 := by kernel_rfl
  have c_commits : Tryz.prog.cellsOf 35 = 1 := by kernel_rfl
  have c_int : Tryz.prog.cellsOf 3 = 1 := by kernel_rfl
  have c_ints : Tryz.prog.cellsOf 45 = 1 := by kernel_rfl
  obtain ⟨xs, m, rfl, rfl, hl, hlx, hx⟩ := DataW.trod_struct Tryz.underlying50 h
  rw [cT] at hl
  match cs, hl with
  | [v0, v1, v2, v3, v4, v5, v6, v7, v8, v9], _ =>
  match xs, hlx with
  | [x0, x1, x2, x3, x4, x5, x6, x7, x8, x9], _ =>
  have h0 := hx 0 _ rfl
  have h1 := hx 1 _ rfl
  have h2 := hx 2 _ rfl
  have h3 := hx 3 _ rfl
  have h4 := hx 4 _ rfl
  have h5 := hx 5 _ rfl
  have h6 := hx 6 _ rfl
  have h7 := hx 7 _ rfl
  have h8 := hx 8 _ rfl
  have h9 := hx 9 _ rfl
  simp only [List.getElem_toArray, List.getElem_cons_zero, List.getElem_cons_succ, c_bool, c_bytes, c_commits, c_int, c_ints, List.drop_zero, List.drop_succ_cons, List.take_succ_cons, List.take_zero, List.getElem?_cons_zero, List.getElem?_cons_succ] at h0 h1 h2 h3 h4 h5 h6 h7 h8 h9
  simp only [DataW.weights, Tryz.underlying50, List.map_cons, List.map_nil, DataW.weightsEach, List.append_nil, List.mem_append, List.map_toArray] at hw
  obtain ⟨n0, q0, _, _⟩ := DataW.trod_int Tryz.underlying3 h0
  obtain ⟨a1, k1, L1, q1, s1⟩ := open_byte.slice Tryz.underlying22 (by kernel_rfl) (by decide +kernel) h1 (fun n hn => hw n (by simp [hn]))
  obtain ⟨n2, q2, _, _⟩ := DataW.trod_int Tryz.underlying3 h2
  obtain ⟨a3, k3, L3, q3, s3⟩ := open_commit.slice Tryz.underlying35 (by kernel_rfl) (by rw [show Tryz.prog.bytesOf 29 = 96 by kernel_rfl]; decide) h3 (fun n hn => hw n (by simp [hn]))
  obtain ⟨a4, k4, L4, q4, s4⟩ := open_commit.slice Tryz.underlying35 (by kernel_rfl) (by rw [show Tryz.prog.bytesOf 29 = 96 by kernel_rfl]; decide) h4 (fun n hn => hw n (by simp [hn]))
  obtain ⟨n5, q5, _, _⟩ := DataW.trod_int Tryz.underlying3 h5
  obtain ⟨n6, q6, _, _⟩ := DataW.trod_bool Tryz.underlying4 h6
  obtain ⟨a7, k7, L7, q7, s7⟩ := open_int.slice Tryz.underlying45 (by kernel_rfl) (by decide +kernel) h7 (fun n hn => hw n (by simp [hn]))
  obtain ⟨n8, q8, _, _⟩ := DataW.trod_int Tryz.underlying3 h8
  obtain ⟨n9, q9, _, _⟩ := DataW.trod_int Tryz.underlying3 h9
  injection q0 with q0
  injection q1 with q1
  injection q2 with q2
  injection q3 with q3
  injection q4 with q4
  injection q5 with q5
  injection q6 with q6
  injection q7 with q7
  injection q8 with q8
  injection q9 with q9
  subst q0 q1 q2 q3 q4 q5 q6 q7 q8 q9
  refine ⟨⟨n0, L1, n2, L3, L4, n5, n6, L7, n8, n9⟩, ⟨a1, k1, a3, k3, a4, k4, a7, k7⟩, rfl, fun A hA => ?_⟩
  simp only [Cell.facts, List.mem_cons, List.not_mem_nil, or_false] at hA
  rcases hA with rfl | rfl | rfl | rfl
  · exact s1
  · exact s3
  · exact s4
  · exact s7⟩
end Ab
open Go.ChangeShapes Go.WideShapes Go.ChangeAt
section
variable {H : Type} {enc : TypeId × Value → H} {W : World} {r : Reach} {base : Nat} {v : Value} {d : DataW H} {p : List MemPlace}
set_option maxRecDepth 100000 in
theorem arg_node (hv : Value.okWide Tryz.prog W r base 50 v) (h : DataW.Trod enc Tryz.prog W 0 (fun _ => true) true 50 v d p) (hw : ∀ n ∈ d.weights Tryz.prog 50, n ≤ reachBytes) :
    ∃ (y : Ab.Na) (n : Ab.Nd), v = Ab.ndV n y ∧ (Ab.sl y.d y.dk n.disk).holds (fun _ => True) W ∧ (Ab.sl y.l y.lk n.l).holds (fun _ => True) W ∧ (Ab.sl y.w y.wk n.wait).holds (fun _ => True) W ∧ (Ab.sl y.p y.pk n.peers).holds (fun _ => True) W := by
  unfold Value.okWide at hv
  rw [Tryz.underlying50] at hv
  obtain ⟨cs, rfl, _, _⟩ := hv
  obtain ⟨fuel, hf⟩ := h
  obtain ⟨u, y, hcs, hfa⟩ := Ab.open_node.ok hf hw
  have hcs' : cs.toList = Ab.ndC u y := hcs
  refine ⟨y, u, ?_, hfa _ (by simp [Ab.Cell.facts]), hfa _ (by simp [Ab.Cell.facts]), hfa _ (by simp [Ab.Cell.facts]), hfa _ (by simp [Ab.Cell.facts])⟩
  show Value.agg cs = .agg ⟨Ab.ndC u y⟩
  rw [← hcs']
end
end Go.Proofs.YtdgeffphifgflaaGreat
