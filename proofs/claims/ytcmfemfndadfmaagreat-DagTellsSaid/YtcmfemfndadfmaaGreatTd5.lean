/- The statement DagTellsSaid: for every input DagTells returns true and leaves its arguments as they were. -/
import Derived.Test.YtcmfemfndadfmaaGreatTd4
import Derived.Test.YtcmfemfndadfmaaGreatTd2
import Derived.SizedLaws
import Derived.ChangeArms
import Derived.KernelRfl
import Derived.OpenShut
import Derived.Test.YtcmfemfndadfmaaGreatRows
import Derived.ProofKit
import Derived.Carry
/- Contract of the document's layer 11: Part. -/
namespace Go.Proofs.YtcmfemfndadfmaaGreat
namespace Ab
open Go Go.RowKit
set_option linter.unusedVariables false
set_option linter.unusedSimpArgs false
set_option synthInstance.maxSize 4000
set_option synthInstance.maxHeartbeats 400000
attribute [local irreducible] JC JO JR JQ andThen inBlock OpV Gives retTo JM JS

attribute [local irreducible] hashC
set_option maxHeartbeats 4000000 in
theorem part_ref (w : World) (F : Nat → Prop) (a d : Option Addr) (k m : Nat) (L : List Commit) (A : List ID) (h : (sl a k L).holds F w) (h' : (sl d m A).holds F w) (hl : L.length ≤ 1000) (hf : ∀ x ∈ L, fine x) (hq : ∀ x ∈ L, x.parents.length ≤ 1000) :
    Gives Tryz.prog 29 [.slice a L.length k, .slice d A.length m] w F (fun y : PartY L A => .slice y.1.2.1 y.1.1.length y.1.2.2) (fun y => [.st (sl y.1.2.1 y.1.2.2 y.1.1)]) := by
  refine gives_of Tryz.func29 rfl Tryz.ntmps29 rfl rfl [.st (sl a k L), .st (sl d m A)] (.start2 h h') ?_
  repeat (first|refine Wa ?_|refine Wb ?_|refine Wc ?_|refine Wd ?_|refine We rfl ?_|refine Wf (by first|exact Va|exact Vb) rfl ?_)
  refine JR.call (v := fun y : IsClosed L => .bool y.1) (B := fun _ => []) rfl (fun w1 hw => closed_ref w1 _ a k L hw.get hl hf hq) ?_
  rintro ⟨b, hb⟩
  simp only [List.nil_append]
  cases b with
  | false =>
    have hno : ¬ Closed L := fun hc => by have := hb.2 hc; cases this
    repeat (first|refine Wa ?_|refine Wb ?_|refine Wc ?_|refine Wd ?_|refine We rfl ?_|refine Wf (by first|exact Va|exact Vb|exact Vh) rfl ?_|refine Wj ?_|refine Ws ?_|refine Wt ?_)
    exact CT.done (Y := PartY L A) ⟨([], none, 0), ⟨fun hc => (hno hc).elim, fun _ => rfl⟩⟩ rfl (fun w ho => (Hold.add (A := sl (α := Commit) none 0 []) (ho.ent : Hold _ _ [] w) sl_nil))
  | true =>
  have hc := hb.1 rfl
  have hids := idsP_all hc.may
  have hcl := cids_length L
  repeat (first|refine Wa ?_|refine Wb ?_|refine Wc ?_|refine Wd ?_|refine We rfl ?_|refine Wf (by first|exact Va|exact Vb|exact Vh) rfl ?_|refine Wk ?_|refine Wl ?_)
  refine JR.callSl rfl (fun w1 hw => ids_ref w1 _ a k L hw.get (by omega) hf) ?_
  intro e n
  rw [hids]
  repeat (first|refine Wa ?_|refine Wb ?_|refine Wc ?_|refine Wd ?_|refine We rfl ?_|refine Wf (by exact Vb) rfl ?_|refine Wn ?_)
  refine JC.buf_nil (α := Commit) 29 ?_
  refine JC.loop4 (fun (i : Nat) (out : List Commit) r s => [(0, .slice a L.length k), (1, .slice d A.length m), (6, .slice e (cids L).length n), (7, .slice r out.length s), (8, .int .i64 (i : Int))])
    (fun i out r s => [.res (buf r s 29 out), .st (sl e n (cids L)), .st (sl a k L), .st (sl d m A)]) (fun i out _ _ => i ≤ L.length ∧ out.length ≤ i ∧ out = (L.take i).filter (fun c => decide (idC c ∈ A))) (fun i _ _ _ => L.length - i) 0 [] none 0 ⟨Nat.zero_le _, by simp, by simp⟩ inferInstance ?_
  intro i out r s ⟨hi, hol, hout⟩
  repeat (first|refine Wa ?_|refine Wb ?_|refine Wc ?_|refine Wd ?_|refine We rfl ?_|refine Wf (by first|exact Va|exact Vf|exact Vg) rfl ?_)
  refine JC.test (fun hlt => ?_) (fun hge => ?_)
  · have hlt' : i < L.length := by omega
    have hxe : (cids L)[i]'(by omega) = idC L[i] := cids_get L i (by omega)
    have hnx : (L.take (i + 1)).filter (fun c => decide (idC c ∈ A)) = out ++ (if idC L[i] ∈ A then [L[i]] else []) := by
      rw [List.take_succ_eq_append_getElem hlt', List.filter_append, ← hout]
      congr 1
      by_cases hA : idC L[i] ∈ A <;> simp [hA]
    repeat (first|refine Wa ?_|refine Wb ?_|refine Wc ?_|refine We rfl ?_|refine Wf (by exact Va) rfl ?_|refine Wl ?_|refine Wn ?_)
    refine JR.indexID (L := cids L) (k := i) rfl (by omega) ?_
    intro bi oi
    rw [hxe]
    repeat (first|refine We rfl ?_|refine Wf (by exact Vc) rfl ?_)
    refine JR.callV rfl (fun w1 hw => hasid_ref w1 _ d m A (idC L[i]) hw.get) ?_
    repeat (first|refine Wa ?_|refine Wb ?_|refine Wc ?_|refine Wd ?_|refine We rfl ?_|refine Wf (by first|exact Va|exact Vb) rfl ?_)
    refine JC.test (fun hA => ?_) (fun hA => ?_)
    · repeat (first|refine Wc ?_|refine We rfl ?_|refine Wf (by exact Va) rfl ?_)
      refine JR.indexCommit rfl hlt' ?_
      intro b1 o1 p1 q1
      repeat (first|refine We rfl ?_|refine Wf (by exact Vc) rfl ?_|(refine Ww rfl ⟨rfl, by decide, by decide, by decide⟩ ?_; intro _))
      refine JR.append1 (u := L[i]) rfl (by exact ⟨rfl, rfl, by decide⟩) (by omega) ?_
      intro r2 s2
      repeat (first|refine Wa ?_|refine Wc ?_|refine Wd ?_|refine We rfl ?_|refine Wf (by first|exact Va|exact Vb|exact Vk (by omega)) rfl ?_|refine Wr ?_)
      exact ⟨i + 1, out ++ [L[i]], r2, s2, ⟨by omega, by simp; omega, by rw [hnx, if_pos hA]⟩, by omega, inferInstance⟩
    · repeat (first|refine Wa ?_|refine Wc ?_|refine Wd ?_|refine We rfl ?_|refine Wf (by first|exact Va|exact Vb|exact Vk (by omega)) rfl ?_|refine Wl ?_|refine Wr ?_)
      exact ⟨i + 1, out, r, s, ⟨by omega, by omega, by rw [hnx, if_neg hA, List.append_nil]⟩, by omega, inferInstance⟩
  · obtain rfl : i = L.length := by omega
    rw [List.take_length] at hout
    refine JC.more (fun w1 ho => ho.pub) ?_
    repeat (first|refine Wa ?_|refine Wb ?_|refine Wc ?_|refine Wd ?_|refine We rfl ?_|refine Wf (by first|exact Va|exact Vb) rfl ?_|refine Wm ?_|refine Wo ?_|refine Wp ?_|refine Ws ?_)
    exact CT.done (Y := PartY L A) ⟨(out, r, s), ⟨fun _ => hout, fun hn => (hn hc).elim⟩⟩ rfl (fun w ho => ho.ent)
end Ab
end Go.Proofs.YtcmfemfndadfmaaGreat

/- Contract of the document's layer 11: Sorted. -/
namespace Go.Proofs.YtcmfemfndadfmaaGreat
namespace Ab
open Go Go.RowKit
set_option linter.unusedVariables false
set_option linter.unusedSimpArgs false
set_option synthInstance.maxSize 4000
set_option synthInstance.maxHeartbeats 400000
attribute [local irreducible] JC JO JR JQ andThen inBlock OpV Gives retTo JM JS

attribute [local irreducible] hashC
instance : Cell Nat where
  Ix := Unit
  sz := 1
  cells n _ := [natV n]
  facts _ _ := []
  len _ _ := rfl
  one _ _ := One.ok
  pos := by decide
instance {Γ : List Fact} {n : Nat} : Typed Γ [natV n] n := ⟨(), rfl, by simp [Cell.facts]⟩
instance {Γ : List Fact} {n : Nat} : Typed Γ [.int .i64 (n : Int)] n := ⟨(), rfl, by simp [Cell.facts]⟩
section
variable {P : Program} {n : Nat} {w0 : World} {F : Nat → Prop} {ops : Array Oper} {i d : Nat} {t : TypeId} {pos : String} {aft : Array Edge} {g : Option (Nat × Bool)} {os : List Oper} {Q : Cont} {e : E} {Γ : List Fact} [Dr]
theorem JR.indexNat {x ix : Operand} {v : Value} {L : List Nat} {kk : IntKind} {j : Int} {k : Nat} {ty el : TypeId} {sz by_ eb : Nat} {z ez : Value} {ed : TypeDesc}
    [hx : Ev e x v] [hL : HasSl Γ v Nat inferInstance L] [hi : Ev e ix (.int kk j)] [hk : NatI j k] [hT : Ty P ty (.slice el) sz by_ z] [hE : Ty P el ed 1 eb ez] (hd : Nat.blt d n = true) (h : k < L.length)
    (K : ∀ b o, JO P n w0 F ops (i + 1) os Q ((d, .pointer (some ⟨b, o, none⟩)) :: e) (.st (ro b o [.int .i64 ((L[k]'h : Nat) : Int)]) :: Γ)) :
    JR P n w0 F ops i ⟨some d, .indexAddr ty x ix, t, pos, aft, g⟩ os Q e Γ := JR.index hd rfl h fun b o _ => K b o
end
theorem leS_total (c d : Commit) : leS c d ∨ leS d c := by
  rcases Int.lt_trichotomy c.gen d.gen with h | h | h
  · exact .inl (.inl h)
  · cases hx : idLt (idC d) (idC c) with
    | false => exact .inl (.inr ⟨h, hx⟩)
    | true => exact .inr (.inr ⟨h.symm, idLt_asymm hx⟩)
  · exact .inr (.inl h)
theorem leS_trans {a b c : Commit} (h1 : leS a b) (h2 : leS b c) : leS a c := by
  rcases h1 with h1 | ⟨h1, h3⟩ <;> rcases h2 with h2 | ⟨h2, h4⟩
  · exact .inl (by omega)
  · exact .inl (by omega)
  · exact .inl (by omega)
  · exact .inr ⟨by omega, idLe_trans h3 h4⟩
def atC (L : List Commit) (i : Nat) : Commit := L.getD i commit0
theorem atC_eq {L : List Commit} {i : Nat} (h : i < L.length) : atC L i = L[i] := by simp [atC, List.getD_eq_getElem?_getD, h]
structure Ins (L : List Commit) (i : Nat) (O : List Nat) : Prop where
  perm : O.Perm (List.range i)
  sorted : O.Pairwise (fun x y => leS (atC L x) (atC L y))
theorem Ins.length {L : List Commit} {i : Nat} {O : List Nat} (h : Ins L i O) : O.length = i := by rw [h.perm.length_eq, List.length_range]
theorem Ins.lt {L : List Commit} {i : Nat} {O : List Nat} (h : Ins L i O) {j : Nat} (hj : j < O.length) : O[j] < i := List.mem_range.1 (h.perm.mem_iff.1 (List.getElem_mem hj))
theorem Ins.next {L : List Commit} {i : Nat} {O : List Nat} (h : Ins L i O) (at_ : Nat) (hle : at_ ≤ O.length) (hup : ∀ j (hj : j < O.length), at_ ≤ j → leS (atC L i) (atC L O[j]))
    (hdn : ∀ (h0 : 0 < at_), leS (atC L (O[at_ - 1]'(by omega))) (atC L i)) : Ins L (i + 1) (O.take at_ ++ [i] ++ O.drop at_) := by
  refine ⟨?_, ?_⟩
  · rw [List.range_succ, List.append_assoc]
    refine List.Perm.trans ((List.perm_append_comm (l₁ := [i]) (l₂ := O.drop at_)).append_left _) ?_
    rw [← List.append_assoc, List.take_append_drop]
    exact h.perm.append_right _
  · have hs2 : (O.take at_ ++ O.drop at_).Pairwise (fun x y => leS (atC L x) (atC L y)) := by rw [List.take_append_drop]; exact h.sorted
    rw [List.pairwise_append] at hs2
    rw [List.append_assoc, List.pairwise_append]
    refine ⟨hs2.1, ?_, ?_⟩
    · rw [List.singleton_append, List.pairwise_cons]
      refine ⟨fun y hy => ?_, hs2.2.1⟩
      obtain ⟨j, hj, rfl⟩ := List.getElem_of_mem hy
      rw [List.length_drop] at hj
      rw [List.getElem_drop]
      exact hup _ (by omega) (by omega)
    · intro y hy z hz
      rcases List.mem_append.1 hz with hz | hz
      · rw [List.mem_singleton.1 hz]
        obtain ⟨j, hj, rfl⟩ := List.getElem_of_mem hy
        rw [List.length_take] at hj
        have h0 : 0 < at_ := by omega
        rw [List.getElem_take]
        by_cases hja : j = at_ - 1
        · subst hja; exact hdn h0
        · exact leS_trans (List.pairwise_iff_getElem.1 h.sorted j (at_ - 1) (by omega) (by omega) (by omega)) (hdn h0)
      · exact hs2.2.2 y hy z hz
set_option maxHeartbeats 4000000 in
theorem sorted_ref (w : World) (F : Nat → Prop) (a : Option Addr) (k : Nat) (L : List Commit) (h : (sl a k L).holds F w) (hl : L.length ≤ 1000) (hf : ∀ x ∈ L, fine x) (hq : ∀ x ∈ L, x.parents.length ≤ 1000) :
    Gives Tryz.prog 31 [.slice a L.length k] w F (fun y : SortY L => .slice y.1.2.1 y.1.1.length y.1.2.2) (fun y => [.st (sl y.1.2.1 y.1.2.2 y.1.1)]) := by
  refine gives_of Tryz.func31 rfl Tryz.ntmps31 rfl rfl [.st (sl a k L)] (.start1 h) ?_
  repeat (first|refine Wa ?_|refine Wb ?_|refine Wc ?_|refine Wd ?_|refine We rfl ?_|refine Wf (by first|exact Va|exact Vb) rfl ?_)
  refine JR.call (v := fun y : IsClosed L => .bool y.1) (B := fun _ => []) rfl (fun w1 hw => closed_ref w1 _ a k L hw.get hl hf hq) ?_
  rintro ⟨b, hb⟩
  simp only [List.nil_append]
  cases b with
  | false =>
    have hno : ¬ Closed L := fun hc => by have := hb.2 hc; cases this
    repeat (first|refine Wa ?_|refine Wb ?_|refine Wc ?_|refine Wd ?_|refine We rfl ?_|refine Wf (by first|exact Va|exact Vb|exact Vh) rfl ?_|refine Wj ?_|refine Ws ?_|refine Wt ?_)
    exact CT.done (Y := SortY L) ⟨([], none, 0), ⟨fun hc => (hno hc).elim, fun hc => (hno hc).elim, fun _ => rfl⟩⟩ rfl (fun w ho => (Hold.add (A := sl (α := Commit) none 0 []) (ho.ent : Hold _ _ [] w) sl_nil))
  | true =>
  have hc := hb.1 rfl
  have hids := idsP_all hc.may
  have hcl := cids_length L
  repeat (first|refine Wa ?_|refine Wb ?_|refine Wc ?_|refine Wd ?_|refine We rfl ?_|refine Wf (by first|exact Va|exact Vb|exact Vh) rfl ?_|refine Wk ?_|refine Wl ?_)
  refine JR.callSl rfl (fun w1 hw => ids_ref w1 _ a k L hw.get (by omega) hf) ?_
  intro e n
  rw [hids]
  repeat (first|refine Wa ?_|refine Wb ?_|refine Wc ?_|refine Wd ?_|refine We rfl ?_|refine Wf (by exact Vb) rfl ?_|refine Wn ?_)
  refine JC.more (Γ' := [.st (sl (α := Nat) none 0 []), .st (sl e n (cids L)), .st (sl a k L)]) (fun w1 ho => (Hold.add (A := sl (α := Nat) none 0 []) (ho.ent : Hold _ _ [.st (sl e n (cids L)), .st (sl a k L)] w1) sl_nil)) ?_
  refine JC.loop4 (fun (i : Nat) (O : List Nat) (p : Option Addr) (q : Nat) => [(0, .slice a L.length k), (4, .slice e (cids L).length n), (5, .slice p O.length q), (6, .int .i64 (i : Int))]) (fun i O p q => [.st (sl p q O), .st (sl e n (cids L)), .st (sl a k L)])
    (fun i O _ _ => i ≤ L.length ∧ Ins L i O) (fun i _ _ _ => L.length - i) 0 [] none 0 ⟨Nat.zero_le _, ⟨List.Perm.refl _, List.Pairwise.nil⟩⟩ inferInstance ?_
  intro i O p q ⟨hi, hO⟩
  repeat (first|refine Wa ?_|refine Wb ?_|refine Wc ?_|refine Wd ?_|refine We rfl ?_|refine Wf (by first|exact Va|exact Vf|exact Vg) rfl ?_)
  refine JC.test (fun hlt => ?_) (fun hge => ?_)
  · have hlt' : i < L.length := by omega
    have hol := hO.length
    repeat (first|refine Wa ?_|refine Wb ?_|refine Wc ?_|refine Wd ?_|refine We rfl ?_|refine Wf (by first|exact Va|exact Vb|exact Vf) rfl ?_|refine Wl ?_|refine Wn ?_)
    refine JC.loop1 (fun (at_ : Nat) => [(0, .slice a L.length k), (4, .slice e (cids L).length n), (5, .slice p O.length q), (6, .int .i64 (i : Int)), (7, .int .i64 (at_ : Int))]) (fun at_ => [.st (sl p q O), .st (sl e n (cids L)), .st (sl a k L)])
      (fun at_ => at_ ≤ O.length ∧ ∀ j (hj : j < O.length), at_ ≤ j → leS (atC L i) (atC L O[j])) (fun at_ => at_) O.length ⟨Nat.le_refl _, fun j hj h => by omega⟩ inferInstance ?_
    intro at_ ⟨hat, hup⟩
    repeat (first|refine Wa ?_|refine Wb ?_|refine Wc ?_|refine Wd ?_|refine We rfl ?_|refine Wf (by first|exact Va|exact Vo) rfl ?_)
    refine JC.test (fun h0 => ?_) (fun h0 => ?_)
    · have hat1 : at_ - 1 < O.length := by omega
      obtain ⟨j, hj⟩ : ∃ j, j = O[at_ - 1] := ⟨_, rfl⟩
      have hjl : j < L.length := by have := hO.lt hat1; omega
      have hie : atC L i = L[i] := atC_eq hlt'
      have hje : atC L j = L[j] := atC_eq hjl
      have hxe : (cids L)[i]'(by omega) = idC L[i] := cids_get L i (by omega)
      have hye : (cids L)[j]'(by omega) = idC L[j] := cids_get L j (by omega)
      have hnext : ¬ leS L[j] L[i] → ∀ x (hx : x < O.length), at_ - 1 ≤ x → leS (atC L i) (atC L O[x]) := fun hn x hx hle => by
        by_cases hxa : x = at_ - 1
        · subst hxa
          rw [← hj, hie, hje]
          exact (leS_total _ _).resolve_right hn
        · exact hup x hx (by omega)
      have hbrk : leS L[j] L[i] → Ins L (i + 1) (O.take at_ ++ [i] ++ O.drop at_) := fun hs => hO.next at_ hat hup (fun _ => by rw [← hj, hie, hje]; exact hs)
      repeat (first|refine Wa ?_|refine Wb ?_|refine Wc ?_|refine We rfl ?_|refine Wf (by first|exact Va|exact Vu (by omega)) rfl ?_|refine Wl ?_|refine Wn ?_)
      refine JR.indexNat (L := O) (k := at_ - 1) rfl hat1 ?_
      intro b1 o1
      rw [← hj]
      repeat (first|refine Wa ?_|refine Wb ?_|refine Wd ?_|refine We rfl ?_|refine Wf (by first|exact Vb|exact Vc) rfl ?_)
      refine JC.openID (L := cids L) (.slice e (cids L).length n) i (by omega) ?_
      intro b2 o2
      refine JC.openID (L := cids L) (.slice e (cids L).length n) j (by omega) ?_
      intro b3 o3
      rw [hxe, hye]
      refine JC.quiet mixed (by kernel_rfl) ?_
      repeat (refine Wy rfl (by first|exact Va|exact Vc|exact Ve) rfl ?_)
      refine JQ.call rfl rfl (fun w1 hw => less_ref w1 _ _ _) ?_
      repeat (first|refine Wy rfl (by exact Vb) rfl ?_|refine WB ?_)
      repeat (first|refine Wa ?_|refine Wb ?_)
      refine JC.openCommit (L := L) (.slice a L.length k) j hjl ?_
      intro b4 o4 p4 q4
      refine JC.openCommit (L := L) (.slice a L.length k) i hlt' ?_
      intro b5 o5 p5 q5
      refine JC.quiet mixed (by kernel_rfl) ?_
      repeat (refine Wy rfl (by first|exact Va|exact Vc|exact Vd|exact Ve|exact Vg) rfl ?_)
      by_cases hgt : (L[j]).gen < (L[i]).gen
      · have hins := hbrk (.inl hgt)
        refine JQ.reslot 54 (.bool true) (congrArg Value.bool (decide_eq_true hgt)) ?_
        repeat (first|refine Wy rfl (by first|exact Va|exact Vi) rfl ?_|refine Wz rfl rfl ?_|refine WA rfl rfl ?_|refine WB ?_)
        repeat (first|refine Wa ?_|refine Wb ?_|refine Wc ?_|refine We rfl ?_|refine Wf (by exact Va) rfl ?_|refine Wj ?_|refine Wm ?_|refine Wo ?_|refine Wp ?_|refine Wq rfl ?_)
        refine JR.sliceTo (L := O) (k := at_) rfl rfl hat ?_
        intro a1 c1
        repeat (refine We rfl ?_)
        refine JR.appendNil (L' := O.take at_) rfl (by exact ⟨rfl, rfl, by decide⟩) (by rw [List.length_take]; omega) ?_
        intro a2 c2
        repeat (first|refine Wa ?_|refine Wb ?_|refine Wc ?_|refine Wd ?_|refine We rfl ?_|refine Wf (by first|exact Va|exact Vb) rfl ?_|(refine Ww rfl ⟨rfl, by decide, by decide, by decide⟩ ?_; intro _))
        refine JR.append1 (L := O.take at_) (u := i) rfl (by exact ⟨rfl, rfl, by decide⟩) (by rw [List.length_take]; omega) ?_
        intro a4 c4
        repeat (first|refine Wa ?_|refine Wb ?_|refine Wc ?_|refine Wd ?_|refine We rfl ?_|refine Wf (by first|exact Va|exact Vb) rfl ?_)
        refine JR.sliceFrom (L := O) (k := at_) rfl rfl hat ?_
        intro a5 c5
        repeat (refine We rfl ?_)
        refine JR.appendSl (L := O.take at_ ++ [i]) (L' := O.drop at_) rfl (by exact ⟨rfl, rfl, by decide⟩) (by rw [List.length_append, List.length_take, List.length_drop, List.length_singleton]; omega) ?_
        intro a6 c6
        obtain ⟨O2, hO2⟩ : ∃ O2, O2 = O.take at_ ++ [i] ++ O.drop at_ := ⟨_, rfl⟩
        rw [← hO2] at hins ⊢
        refine JO.more (fun w1 ho => ho.pub) ?_
        repeat (first|refine Wa ?_|refine Wc ?_|refine Wd ?_|refine We rfl ?_|refine Wf (by first|exact Va|exact Vb|exact Vk (by omega)) rfl ?_|refine Wr ?_)
        exact ⟨i + 1, O2, a6, c6, ⟨by omega, hins⟩, by omega, inferInstance⟩
      refine JQ.reslot 54 (.bool false) (congrArg Value.bool (decide_eq_false hgt)) ?_
      repeat (refine Wy rfl (by first|exact Va|exact Vc|exact Vd|exact Ve|exact Vl) rfl ?_)
      by_cases heq : (L[j]).gen = (L[i]).gen
      · refine JQ.reslot 66 (.bool true) (congrArg Value.bool (decide_eq_true heq)) ?_
        repeat (first|refine Wy rfl (by first|exact Va|exact Vh|exact Vi|exact Vj) rfl ?_|refine WB ?_)
        cases hls : idLt (idC L[i]) (idC L[j]) with
        | false =>
          have hins := hbrk (.inr ⟨heq, hls⟩)
          skip
          repeat (first|refine Wa ?_|refine Wb ?_|refine Wc ?_|refine We rfl ?_|refine Wf (by exact Va) rfl ?_|refine Wj ?_|refine Wm ?_|refine Wo ?_|refine Wp ?_|refine Wq rfl ?_)
          refine JR.sliceTo (L := O) (k := at_) rfl rfl hat ?_
          intro a1 c1
          repeat (refine We rfl ?_)
          refine JR.appendNil (L' := O.take at_) rfl (by exact ⟨rfl, rfl, by decide⟩) (by rw [List.length_take]; omega) ?_
          intro a2 c2
          repeat (first|refine Wa ?_|refine Wb ?_|refine Wc ?_|refine Wd ?_|refine We rfl ?_|refine Wf (by first|exact Va|exact Vb) rfl ?_|(refine Ww rfl ⟨rfl, by decide, by decide, by decide⟩ ?_; intro _))
          refine JR.append1 (L := O.take at_) (u := i) rfl (by exact ⟨rfl, rfl, by decide⟩) (by rw [List.length_take]; omega) ?_
          intro a4 c4
          repeat (first|refine Wa ?_|refine Wb ?_|refine Wc ?_|refine Wd ?_|refine We rfl ?_|refine Wf (by first|exact Va|exact Vb) rfl ?_)
          refine JR.sliceFrom (L := O) (k := at_) rfl rfl hat ?_
          intro a5 c5
          repeat (refine We rfl ?_)
          refine JR.appendSl (L := O.take at_ ++ [i]) (L' := O.drop at_) rfl (by exact ⟨rfl, rfl, by decide⟩) (by rw [List.length_append, List.length_take, List.length_drop, List.length_singleton]; omega) ?_
          intro a6 c6
          obtain ⟨O2, hO2⟩ : ∃ O2, O2 = O.take at_ ++ [i] ++ O.drop at_ := ⟨_, rfl⟩
          rw [← hO2] at hins ⊢
          refine JO.more (fun w1 ho => ho.pub) ?_
          repeat (first|refine Wa ?_|refine Wc ?_|refine Wd ?_|refine We rfl ?_|refine Wf (by first|exact Va|exact Vb|exact Vk (by omega)) rfl ?_|refine Wr ?_)
          exact ⟨i + 1, O2, a6, c6, ⟨by omega, hins⟩, by omega, inferInstance⟩
        | true =>
          skip
          repeat (first|refine Wa ?_|refine Wc ?_|refine Wd ?_|refine We rfl ?_|refine Wf (by first|exact Va|exact Vb|exact Vu (by omega)) rfl ?_|refine Wk ?_|refine Wl ?_|refine Wr ?_)
          refine ⟨at_ - 1, ⟨by omega, hnext ?_⟩, by omega, inferInstance⟩
          rintro (h | ⟨_, h⟩)
          · exact hgt h
          · rw [hls] at h; cases h
      · refine JQ.reslot 66 (.bool false) (congrArg Value.bool (decide_eq_false heq)) ?_
        repeat (first|refine Wy rfl (by first|exact Va|exact Vj) rfl ?_|refine Wz rfl rfl ?_|refine WB ?_)
        repeat (first|refine Wa ?_|refine Wc ?_|refine Wd ?_|refine We rfl ?_|refine Wf (by first|exact Va|exact Vb|exact Vu (by omega)) rfl ?_|refine Wk ?_|refine Wl ?_|refine Wr ?_)
        refine ⟨at_ - 1, ⟨by omega, hnext ?_⟩, by omega, inferInstance⟩
        rintro (h | ⟨h, _⟩)
        · exact hgt h
        · exact heq h
    · have hins := hO.next at_ hat hup (fun h => by omega)
      repeat (first|refine Wa ?_|refine Wb ?_|refine Wc ?_|refine We rfl ?_|refine Wf (by exact Va) rfl ?_|refine Wm ?_|refine Wo ?_|refine Wp ?_)
      refine JR.sliceTo (L := O) (k := at_) rfl rfl hat ?_
      intro a1 c1
      repeat (refine We rfl ?_)
      refine JR.appendNil (L' := O.take at_) rfl (by exact ⟨rfl, rfl, by decide⟩) (by rw [List.length_take]; omega) ?_
      intro a2 c2
      repeat (first|refine Wa ?_|refine Wb ?_|refine Wc ?_|refine Wd ?_|refine We rfl ?_|refine Wf (by first|exact Va|exact Vb) rfl ?_|(refine Ww rfl ⟨rfl, by decide, by decide, by decide⟩ ?_; intro _))
      refine JR.append1 (L := O.take at_) (u := i) rfl (by exact ⟨rfl, rfl, by decide⟩) (by rw [List.length_take]; omega) ?_
      intro a4 c4
      repeat (first|refine Wa ?_|refine Wb ?_|refine Wc ?_|refine Wd ?_|refine We rfl ?_|refine Wf (by first|exact Va|exact Vb) rfl ?_)
      refine JR.sliceFrom (L := O) (k := at_) rfl rfl hat ?_
      intro a5 c5
      repeat (refine We rfl ?_)
      refine JR.appendSl (L := O.take at_ ++ [i]) (L' := O.drop at_) rfl (by exact ⟨rfl, rfl, by decide⟩) (by rw [List.length_append, List.length_take, List.length_drop, List.length_singleton]; omega) ?_
      intro a6 c6
      obtain ⟨O2, hO2⟩ : ∃ O2, O2 = O.take at_ ++ [i] ++ O.drop at_ := ⟨_, rfl⟩
      rw [← hO2] at hins ⊢
      refine JO.more (fun w1 ho => ho.pub) ?_
      repeat (first|refine Wa ?_|refine Wc ?_|refine Wd ?_|refine We rfl ?_|refine Wf (by first|exact Va|exact Vb|exact Vk (by omega)) rfl ?_|refine Wr ?_)
      exact ⟨i + 1, O2, a6, c6, ⟨by omega, hins⟩, by omega, inferInstance⟩
  obtain rfl : i = L.length := by omega
  have hol := hO.length
  repeat (first|refine Wa ?_|refine Wb ?_|refine Wc ?_|refine Wd ?_|refine We rfl ?_|refine Wf (by exact Vb) rfl ?_|refine Wm ?_|refine Wn ?_|refine Wo ?_|refine Wp ?_)
  refine JC.buf_nil (α := Commit) 29 ?_
  refine JC.loop4 (fun (z : Nat) (M : List Commit) r s => [(0, .slice a L.length k), (5, .slice p O.length q), (11, .slice r M.length s), (12, .int .i64 (z : Int))])
    (fun z M r s => [.res (buf r s 29 M), .st (sl p q O), .st (sl a k L)])
    (fun z M _ _ => z ≤ O.length ∧ M = (O.take z).map (atC L)) (fun z _ _ _ => O.length - z) 0 [] none 0 ⟨Nat.zero_le _, rfl⟩ inferInstance ?_
  intro z M r s ⟨hz, hM⟩
  repeat (first|refine Wa ?_|refine Wb ?_|refine Wc ?_|refine Wd ?_|refine We rfl ?_|refine Wf (by first|exact Va|exact Vf|exact Vg) rfl ?_)
  refine JC.test (fun hlt => ?_) (fun hge => ?_)
  · have hzl : z < O.length := by omega
    obtain ⟨j, hj⟩ : ∃ j, j = O[z] := ⟨_, rfl⟩
    have hjl : j < L.length := by have := hO.lt hzl; omega
    have hMl : M.length = z := by rw [hM, List.length_map, List.length_take]; omega
    repeat (first|refine Wa ?_|refine Wb ?_|refine Wc ?_|refine We rfl ?_|refine Wf (by exact Va) rfl ?_|refine Wl ?_|refine Wn ?_)
    refine JR.indexNat (L := O) (k := z) rfl hzl ?_
    intro b1 o1
    rw [← hj]
    repeat (first|refine We rfl ?_|refine Wf (by exact Vc) rfl ?_)
    refine JR.indexCommit (L := L) (k := j) rfl hjl ?_
    intro b2 o2 p2 q2
    repeat (first|refine We rfl ?_|refine Wf (by exact Vc) rfl ?_|(refine Ww rfl ⟨rfl, by decide, by decide, by decide⟩ ?_; intro _))
    refine JR.append1 (u := L[j]) rfl (by exact ⟨rfl, rfl, by decide⟩) (by omega) ?_
    intro r2 s2
    repeat (first|refine Wa ?_|refine Wc ?_|refine Wd ?_|refine We rfl ?_|refine Wf (by first|exact Va|exact Vb|exact Vk (by omega)) rfl ?_|refine Wr ?_)
    exact ⟨z + 1, M ++ [L[j]], r2, s2, ⟨by omega, by rw [List.take_succ_eq_append_getElem hzl, List.map_append, ← hM, ← hj, ← atC_eq hjl]; rfl⟩, by omega, inferInstance⟩
  · have hze : z = O.length := by omega
    rw [hze, List.take_length] at hM
    refine JC.more (fun w1 ho => ho.pub) ?_
    repeat (first|refine Wa ?_|refine Wb ?_|refine Wc ?_|refine Wd ?_|refine We rfl ?_|refine Wf (by first|exact Va|exact Vb) rfl ?_|refine Wm ?_|refine Wo ?_|refine Wp ?_|refine Ws ?_)
    refine CT.done (Y := SortY L) ⟨(M, r, s), ⟨fun _ => ?_, fun _ => ?_, fun hn => (hn hc).elim⟩⟩ rfl (fun w ho => ho.ent)
    · rw [hM]; exact byO_perm hO.perm
    · rw [hM, List.pairwise_map]; exact hO.sorted
end Ab
end Go.Proofs.YtcmfemfndadfmaaGreat

/- The law DagTells returns true. -/
namespace Go.Proofs.YtcmfemfndadfmaaGreat
namespace Ab
open Go Go.RowKit
set_option linter.unusedVariables false
set_option linter.unusedSimpArgs false
set_option synthInstance.maxSize 4000
set_option synthInstance.maxHeartbeats 400000
attribute [local irreducible] JC JO JR JQ andThen inBlock OpV Gives retTo JM JS

attribute [local irreducible] hashC idA l0 l1 ents
theorem isClosed_ex (L : List Commit) : ∃ b : Bool, b = true ↔ Closed L := by
  by_cases h : Closed L
  · exact ⟨true, fun _ => h, fun _ => rfl⟩
  · exact ⟨false, fun h' => (Bool.noConfusion h'), fun h' => (h h').elim⟩
theorem isClosed_unique {L : List Commit} {b c : Bool} (h : b = true ↔ Closed L) (k : c = true ↔ Closed L) : b = c := Bool.eq_iff_iff.2 (h.trans k.symm)
theorem part_ex (L : List Commit) (A : List ID) : ∃ M, PartR L A M := by
  by_cases h : Closed L
  · exact ⟨_, fun _ => rfl, fun hn => (hn h).elim⟩
  · exact ⟨[], fun hc => (h hc).elim, fun _ => rfl⟩
theorem PartR.unique {L : List Commit} {A : List ID} {M N : List Commit} (h : PartR L A M) (k : PartR L A N) : M = N := by
  by_cases hc : Closed L
  · rw [h.part hc, k.part hc]
  · rw [h.not hc, k.not hc]
theorem sortedR_ex (L : List Commit) : ∃ M, SortedR L M := by
  by_cases h : Closed L
  · obtain ⟨M, h1, h2⟩ := sorted_ex h
    exact ⟨M, fun _ => h1, fun _ => h2, fun hn => (hn h).elim⟩
  · exact ⟨[], fun hc => (h hc).elim, fun hc => (h hc).elim, fun _ => rfl⟩
theorem SortedR.unique {L M N : List Commit} (h : SortedR L M) (k : SortedR L N) : M = N := by
  by_cases hc : Closed L
  · exact sorted_uniqueC hc.nodup (h.perm hc) (k.perm hc) (h.sorted hc) (k.sorted hc)
  · rw [h.not hc, k.not hc]
theorem closed_dagV (w : World) (F : Nat → Prop) (a : Option Addr) (k : Nat) (L : List Commit) (b : Bool) (h : (sl a k L).holds F w) (hl : L.length ≤ 1000) (hf : ∀ x ∈ L, fine x) (hb : b = true ↔ Closed L) :
    GivesV Tryz.prog 32 [.slice a L.length k] w F (.bool b) := by
  have h0 := closed_dag w F a k L h (by omega) hf
  unfold Gives at h0
  unfold GivesV Gives
  refine Calls.mono h0 ?_
  rintro e w' ⟨y, rfl, h1, hB⟩
  refine ⟨(), ?_, h1, hB⟩
  have := isClosed_unique y.2 hb
  dsimp only
  rw [this]
theorem closed_refV (w : World) (F : Nat → Prop) (a : Option Addr) (k : Nat) (L : List Commit) (b : Bool) (h : (sl a k L).holds F w) (hl : L.length ≤ 1000) (hf : ∀ x ∈ L, fine x) (hq : ∀ x ∈ L, x.parents.length ≤ 1000) (hb : b = true ↔ Closed L) :
    GivesV Tryz.prog 25 [.slice a L.length k] w F (.bool b) := by
  have h0 := closed_ref w F a k L h hl hf hq
  unfold Gives at h0
  unfold GivesV Gives
  refine Calls.mono h0 ?_
  rintro e w' ⟨y, rfl, h1, hB⟩
  refine ⟨(), ?_, h1, hB⟩
  have := isClosed_unique y.2 hb
  dsimp only
  rw [this]
theorem anc_refS (w : World) (F : Nat → Prop) (a d : Option Addr) (k m : Nat) (L : List Commit) (A M : List ID) (h : (sl a k L).holds F w) (h' : (sl d m A).holds F w) (hl : L.length ≤ 1000) (hf : ∀ x ∈ L, fine x) (hq : ∀ x ∈ L, x.parents.length ≤ 1000) (hM : AncR L A M) :
    GivesSl Tryz.prog 27 [.slice a L.length k, .slice d A.length m] w F M := by
  have h0 := anc_ref w F a d k m L A h h' hl hf hq
  unfold Gives at h0
  unfold GivesSl Gives
  refine Calls.mono h0 ?_
  rintro e w' ⟨⟨⟨N, p, q⟩, hN⟩, rfl, hb, hB⟩
  have : N = M := hN.unique hM
  subst this
  exact ⟨(p, q), rfl, hb, hB⟩
theorem part_refS (w : World) (F : Nat → Prop) (a d : Option Addr) (k m : Nat) (L M : List Commit) (A : List ID) (h : (sl a k L).holds F w) (h' : (sl d m A).holds F w) (hl : L.length ≤ 1000) (hf : ∀ x ∈ L, fine x) (hq : ∀ x ∈ L, x.parents.length ≤ 1000) (hM : PartR L A M) :
    GivesSl Tryz.prog 29 [.slice a L.length k, .slice d A.length m] w F M := by
  have h0 := part_ref w F a d k m L A h h' hl hf hq
  unfold Gives at h0
  unfold GivesSl Gives
  refine Calls.mono h0 ?_
  rintro e w' ⟨⟨⟨N, p, q⟩, hN⟩, rfl, hb, hB⟩
  have : N = M := hN.unique hM
  subst this
  exact ⟨(p, q), rfl, hb, hB⟩
theorem part_dagS (w : World) (F : Nat → Prop) (a d : Option Addr) (k m : Nat) (L M : List Commit) (A : List ID) (h : (sl a k L).holds F w) (h' : (sl d m A).holds F w) (hl : L.length ≤ 1000) (hf : ∀ x ∈ L, fine x) (hM : PartR L A M) :
    GivesSl Tryz.prog 28 [.slice a L.length k, .slice d A.length m] w F M := by
  have h0 := part_dag w F a d k m L A h h' hl hf
  unfold Gives at h0
  unfold GivesSl Gives
  refine Calls.mono h0 ?_
  rintro e w' ⟨⟨⟨N, p, q⟩, hN⟩, rfl, hb, hB⟩
  have : N = M := hN.unique hM
  subst this
  exact ⟨(p, q), rfl, hb, hB⟩
theorem sorted_refS (w : World) (F : Nat → Prop) (a : Option Addr) (k : Nat) (L M : List Commit) (h : (sl a k L).holds F w) (hl : L.length ≤ 1000) (hf : ∀ x ∈ L, fine x) (hq : ∀ x ∈ L, x.parents.length ≤ 1000) (hM : SortedR L M) :
    GivesSl Tryz.prog 31 [.slice a L.length k] w F M := by
  have h0 := sorted_ref w F a k L h hl hf hq
  unfold Gives at h0
  unfold GivesSl Gives
  refine Calls.mono h0 ?_
  rintro e w' ⟨⟨⟨N, p, q⟩, hN⟩, rfl, hb, hB⟩
  have : N = M := hN.unique hM
  subst this
  exact ⟨(p, q), rfl, hb, hB⟩
theorem sorted_dagS (w : World) (F : Nat → Prop) (a : Option Addr) (k : Nat) (L M : List Commit) (h : (sl a k L).holds F w) (hl : L.length ≤ 1000) (hf : ∀ x ∈ L, fine x) (hM : SortedR L M) :
    GivesSl Tryz.prog 30 [.slice a L.length k] w F M := by
  have h0 := sorted_dag w F a k L h hl hf
  unfold Gives at h0
  unfold GivesSl Gives
  refine Calls.mono h0 ?_
  rintro e w' ⟨⟨⟨N, p, q⟩, hN⟩, rfl, hb, hB⟩
  have : N = M := hN.unique hM
  subst this
  exact ⟨(p, q), rfl, hb, hB⟩
set_option maxHeartbeats 4000000 in
theorem law_dagtells (w : World) (F : Nat → Prop) (a d : Option Addr) (k m : Nat) (L : List Commit) (A : List ID) (h : (sl a k L).holds F w) (h' : (sl d m A).holds F w) :
    GivesV Tryz.prog 4 [.slice a L.length k, .slice d A.length m] w F (.bool true) := by
  refine gives_of Tryz.func4 rfl Tryz.ntmps4 rfl rfl [.st (sl a k L), .st (sl d m A)] (.start2 h h') ?_
  repeat (first|refine Wa ?_|refine Wb ?_|refine Wc ?_|refine Wd ?_|refine We rfl ?_|refine Wf (by exact Vb) rfl ?_)
  refine JR.callV rfl (fun w1 hw => awake_dag w1 _) ?_
  repeat (first|refine Wa ?_|refine Wb ?_|refine Wc ?_|refine Wd ?_|refine We rfl ?_|refine Wf (by first|exact Va|exact Vb) rfl ?_)
  refine JR.callV rfl (fun w1 hw => few_all w1 _ a k L 12 hw.get) ?_
  cases hfew : fewL L 12 with
  | false =>
    repeat (first|refine Wa ?_|refine Wb ?_|refine Wc ?_|refine Wd ?_|refine We rfl ?_|refine Wf (by first|exact Va|exact Vb|exact Vh|exact Vi|exact Vj) rfl ?_|refine Wj ?_|refine Ws ?_|refine Wt ?_|refine Wv rfl rfl ?_)
    exact CT.done () rfl (fun w ho => ho.ent)
  | true =>
  obtain ⟨hL, hf⟩ := few_fine hfew
  have hq : ∀ x ∈ L, x.parents.length ≤ 1000 := fun x hx => by have := few_parents hfew x hx; omega
  obtain ⟨b, hb⟩ := isClosed_ex L
  obtain ⟨M, hM⟩ := anc_ex L A
  obtain ⟨N, hN⟩ := part_ex L A
  obtain ⟨S, hS⟩ := sortedR_ex L
  repeat (first|refine Wa ?_|refine Wb ?_|refine Wc ?_|refine Wd ?_|refine We rfl ?_|refine Wf (by first|exact Va|exact Vb|exact Vf|exact Vh|exact Vj|exact Vo) rfl ?_)
  refine JC.test (fun hgt => ?_) (fun hle => ?_)
  · repeat (first|refine Wa ?_|refine Wb ?_|refine Wc ?_|refine Wd ?_|refine We rfl ?_|refine Wf (by first|exact Va|exact Vb) rfl ?_|refine Ws ?_|refine Wt ?_)
    exact CT.done () rfl (fun w ho => ho.ent)
  have hA : A.length ≤ 20 := by omega
  repeat (first|refine Wa ?_|refine Wb ?_|refine Wc ?_|refine We rfl ?_|refine Wf (by exact Va) rfl ?_|refine Wl ?_)
  refine JR.callSl rfl (fun w1 hw => ids_dag w1 _ a k L hw.get (by omega) hf) ?_
  intro a1 k1
  repeat (first|refine We rfl ?_|refine Wf (by exact Va) rfl ?_)
  refine JR.callSl rfl (fun w1 hw => ids_ref w1 _ a k L hw.get (by omega) hf) ?_
  intro a2 k2
  repeat (refine We rfl ?_)
  refine JR.callV rfl (fun w1 hw => sameIds_ref w1 _ a1 a2 k1 k2 (idsP L) (idsP L) hw.get hw.get) ?_
  refine JO.reslot 37 (.bool true) (by simp) ?_
  repeat (first|refine Wa ?_|refine Wb ?_|refine Wc ?_|refine Wd ?_|refine We rfl ?_|refine Wf (by first|exact Va|exact Vb) rfl ?_)
  refine JR.callV rfl (fun w1 hw => closed_refV w1 _ a k L b hw.get (by omega) hf hq hb) ?_
  repeat (first|refine Wa ?_|refine Wb ?_|refine Wc ?_|refine Wd ?_|refine We rfl ?_|refine Wf (by first|exact Va|exact Vb) rfl ?_)
  refine JR.callSl (L := M) rfl (fun w1 hw => anc_sl w1 _ a d k m L A M hw.get hw.get (by omega) (by omega) hf hM) ?_
  intro a3 k3
  repeat (first|refine We rfl ?_|refine Wf (by exact Va) rfl ?_)
  refine JR.callSl (L := M) rfl (fun w1 hw => anc_refS w1 _ a d k m L A M hw.get hw.get (by omega) hf hq hM) ?_
  intro a4 k4
  repeat (refine We rfl ?_)
  refine JR.callV rfl (fun w1 hw => sameIds_ref w1 _ a3 a4 k3 k4 M M hw.get hw.get) ?_
  refine JO.reslot 46 (.bool true) (by simp) ?_
  repeat (first|refine Wa ?_|refine Wb ?_|refine Wc ?_|refine Wd ?_|refine We rfl ?_|refine Wf (by first|exact Va|exact Vb) rfl ?_)
  refine JR.callSl (L := N) rfl (fun w1 hw => part_dagS w1 _ a d k m L N A hw.get hw.get (by omega) hf hN) ?_
  intro a5 k5
  repeat (first|refine We rfl ?_|refine Wf (by exact Va) rfl ?_)
  refine JR.callSl (L := N) rfl (fun w1 hw => part_refS w1 _ a d k m L N A hw.get hw.get (by omega) hf hq hN) ?_
  intro a6 k6
  repeat (refine We rfl ?_)
  refine JR.callV rfl (fun w1 hw => list_ref w1 _ a5 a6 k5 k6 N N hw.get hw.get) ?_
  refine JO.reslot 53 (.bool true) (by simp) ?_
  repeat (first|refine Wa ?_|refine Wb ?_|refine Wc ?_|refine Wd ?_|refine We rfl ?_|refine Wf (by first|exact Va|exact Vb) rfl ?_)
  refine JR.callSl (L := S) rfl (fun w1 hw => sorted_dagS w1 _ a k L S hw.get (by omega) hf hS) ?_
  intro a7 k7
  repeat (first|refine We rfl ?_|refine Wf (by exact Va) rfl ?_)
  refine JR.callSl (L := S) rfl (fun w1 hw => sorted_refS w1 _ a k L S hw.get (by omega) hf hq hS) ?_
  intro a8 k8
  repeat (refine We rfl ?_)
  refine JR.callV rfl (fun w1 hw => list_ref w1 _ a7 a8 k7 k8 S S hw.get hw.get) ?_
  refine JO.reslot 58 (.bool true) (by simp) ?_
  repeat (first|refine Wa ?_|refine Wb ?_|refine Wc ?_|refine Wd ?_|refine We rfl ?_|refine Wf (by first|exact Va|exact Vb|exact Vh) rfl ?_)
  refine JR.callV rfl (fun w1 hw => closed_dagV w1 _ a k L b hw.get (by omega) hf hb) ?_
  repeat (first|refine We rfl ?_|refine Wf (by first|exact Va|exact Vj|exact VF) rfl ?_)
  refine JO.reslot 67 (.bool false) (by simp) ?_
  repeat (first|refine Wa ?_|refine Wb ?_|refine Wc ?_|refine Wd ?_|refine We rfl ?_|refine Wf (by first|exact Va|exact Vb|exact Vh|exact Vj) rfl ?_|refine Wk ?_|refine Wl ?_|refine Wn ?_)
  refine JC.loop1 (fun (i : Nat) => [(0, .slice a L.length k), (1, .slice d A.length m), (12, .int .i64 (i : Int))]) (fun i => [.st (sl a k L), .st (sl d m A)]) (fun i => i ≤ A.length) (fun i => A.length - i) 0 (Nat.zero_le _) inferInstance ?_
  intro i hi
  repeat (first|refine Wa ?_|refine Wb ?_|refine Wc ?_|refine Wd ?_|refine We rfl ?_|refine Wf (by first|exact Va|exact Vf|exact Vg) rfl ?_)
  refine JC.test (fun hlt => ?_) (fun hge => ?_)
  · have hlt' : i < A.length := by omega
    obtain ⟨c, fb, hr⟩ : ∃ c fb, findR L A[i] = (c, fb) := ⟨_, _, rfl⟩
    repeat (first|refine Wa ?_|refine Wb ?_|refine Wc ?_|refine We rfl ?_|refine Wf (by exact Va) rfl ?_|refine Wl ?_|refine Wn ?_)
    refine JR.indexID (L := A) rfl hlt' ?_
    intro bi oi
    repeat (first|refine We rfl ?_|refine Wf (by exact Vc) rfl ?_)
    refine JR.call1 (v := fun y : Option Addr × Nat => .tuple ⟨[commitV c y.1 y.2, .bool fb]⟩) (B := fun y => .st (sl y.1 y.2 c.parents)) rfl (fun w1 hw => by have := find_dag w1 _ a k L A[i] hw.get hf; rwa [hr] at this) ?_
    rintro ⟨p2, q2⟩
    dsimp only
    repeat (first|refine Wa ?_|refine Wb ?_|refine Wc ?_|refine Wd ?_|refine We rfl ?_|refine Wf (by first|exact Va|exact Vb|exact Vq) rfl ?_|(refine Wg rfl ?_; intro _)|refine Wi ?_)
    refine JR.indexID (L := A) rfl hlt' ?_
    intro bi2 oi2
    repeat (first|refine We rfl ?_|refine Wf (by exact Vc) rfl ?_)
    refine JR.call1 (v := fun y : Option Addr × Nat => .tuple ⟨[commitV c y.1 y.2, .bool fb]⟩) (B := fun y => .st (sl y.1 y.2 c.parents)) rfl (fun w1 hw => by have := find_ref w1 _ a k L A[i] hw.get hf; rwa [hr] at this) ?_
    rintro ⟨p3, q3⟩
    dsimp only
    repeat (first|refine Wa ?_|refine Wb ?_|refine Wc ?_|refine Wd ?_|refine We rfl ?_|refine Wf (by first|exact Va|exact Vb|exact Vc|exact Vq) rfl ?_|(refine Wg rfl ?_; intro _)|refine Wi ?_)
    refine JR.callV rfl (fun w1 hw => same_ref w1 _ c c p2 p3 q2 q3 hw.get hw.get) ?_
    refine JO.reslot 105 (.bool true) (by simp) ?_
    repeat (first|refine Wa ?_|refine Wb ?_|refine Wc ?_|refine Wd ?_|refine We rfl ?_|refine Wf (by first|exact Va|exact Vb|exact Vh|exact Vj|exact VF) rfl ?_)
    refine JC.reslot 112 (.bool false) (by simp) ?_
    repeat (first|refine Wa ?_|refine Wc ?_|refine Wd ?_|refine We rfl ?_|refine Wf (by first|exact Va|exact Vb|exact Vk (by omega)) rfl ?_|refine Wk ?_|refine Wl ?_|refine Wr ?_)
    exact ⟨i + 1, by omega, by omega, inferInstance⟩
  · repeat (first|refine Wa ?_|refine Wb ?_|refine Wc ?_|refine Wd ?_|refine We rfl ?_|refine Wf (by exact Vb) rfl ?_|refine Wm ?_|refine Wo ?_|refine Wp ?_|refine Ws ?_)
    exact CT.done () rfl (fun w ho => ho.ent)
end Ab
end Go.Proofs.YtcmfemfndadfmaaGreat

/- Arguments that read as data, told as the layer tells memory. -/
namespace Go.Proofs.YtcmfemfndadfmaaGreat
namespace Ab
open Go Go.RowKit
set_option linter.unusedVariables false
set_option linter.unusedSimpArgs false

/-- Cells of type t that read as data are those of some element. -/
structure OpenT (P : Program) (α : Type) [Cell α] (t : TypeId) : Prop where
  ok : ∀ {H : Type} {enc : TypeId × Value → H} {w : World} {sp : Nat → Bool} {held : Bool} {fuel : Nat} {cs : List Value} {x : DataW H × List MemPlace},
    DataW.trod enc P w 0 sp held fuel t cs = some x → (∀ n ∈ x.1.weights P t, n ≤ reachBytes) → ∃ (u : α) (y : Cell.Ix α), cs = Cell.cells u y ∧ ∀ A ∈ Cell.facts u y, A.holds (fun _ => True) w

theorem weightsAll_mem {H : Type} {P : Program} {e : TypeId} {d : DataW H} {n : Nat} (hn : n ∈ d.weights P e) : ∀ {ds : List (DataW H)}, d ∈ ds → n ∈ DataW.weightsAll P e ds
  | [], h => by cases h
  | d' :: ds, h => by
    simp only [DataW.weightsAll, List.mem_append]
    rcases List.mem_cons.1 h with rfl | h
    · exact .inl hn
    · exact .inr (weightsAll_mem hn h)

theorem add_zero_addr (a : Addr) : (a.add 0).add 0 = a := by simp [Addr.add]
theorem cells_get {w : World} {a : Addr} {n : Nat} {ci : List Value} (h : w.cells? 0 a n = some ci) (j : Nat) (v : Value) (hv : ci[j]? = some v) : w.cell? (a.add j) = some v := by
  unfold World.cells? at h
  rw [if_pos (Nat.zero_le _)] at h
  have hl := mapM_some_length h
  have hj : j < n := by
    have := (List.getElem?_eq_some_iff.1 hv).1
    rw [hl, List.length_range] at this
    exact this
  have := mapM_some_get h j j (by simp [hj])
  rw [this, hv]

theorem OpenT.slice {P : Program} {α : Type} [Cell α] {t e : TypeId} (hO : OpenT P α e) (ht : P.underlying t = some (.slice e)) (hc : P.cellsOf e = Cell.sz α) (hb : 1 ≤ P.bytesOf e)
    {H : Type} {enc : TypeId × Value → H} {w : World} {sp : Nat → Bool} {held : Bool} {fuel : Nat} {cs : List Value} {x : DataW H × List MemPlace}
    (h : DataW.trod enc P w 0 sp held fuel t cs = some x) (hw : ∀ n ∈ x.1.weights P t, n ≤ reachBytes) :
    ∃ (a : Option Addr) (c : Nat) (L : List α), cs = [.slice a L.length c] ∧ (sl a c L).holds (fun _ => True) w := by
  rcases DataW.trod_slice ht h with ⟨rfl, rfl⟩ | ⟨a, len, cap, elems, rest, n, _, rfl, rfl, _, hlc, hcm, hlen, helems, _, _⟩
  · exact ⟨none, 0, [], rfl, sl_nil⟩
  · simp only [DataW.weights, ht] at hw
    have hw1 : len ≤ reachBytes := by
      have := hw _ (List.mem_cons_self ..)
      simp only [List.length_map] at this
      have h2 : (elems.length + rest.length) * 1 ≤ (elems.length + rest.length) * P.bytesOf e := Nat.mul_le_mul_left _ hb
      omega
    have key : ∀ i (hi : i < len), ∃ (u : α), ∃ (y : Cell.Ix α), (∀ j v, (Cell.cells u y)[j]? = some v → w.cell? ((a.add (i * Cell.sz α)).add j) = some v) ∧ ∀ A ∈ Cell.facts u y, A.holds (fun _ => True) w := by
      intro i hi
      have h1 := helems i hi
      have hi' : i < elems.length := by omega
      rw [List.getElem?_eq_getElem hi', hc] at h1
      obtain ⟨ci, hci, hd⟩ := Option.bind_eq_some_iff.1 h1
      obtain ⟨u, y, rfl, hf⟩ := hO.ok hd (fun n hn => hw n (List.mem_cons_of_mem _ (List.mem_append_left _ (weightsAll_mem hn (List.mem_map_of_mem (List.getElem_mem hi'))))))
      exact ⟨u, y, fun j v hv => cells_get hci j v hv, hf⟩
    obtain ⟨f, hf⟩ := Classical.axiomOfChoice (fun i : Fin len => key i.1 i.2)
    refine ⟨some a, cap, List.ofFn f, by simp, ?_⟩
    have hR : reachBytes = 140737488351232 := rfl
    refine ⟨by simpa using hlc, hcm, by simp only [List.length_ofFn, lim]; omega, fun hne => ?_⟩
    have h0 : 0 < len := by
      have := List.length_pos_iff.2 hne
      simpa using this
    obtain ⟨y0, hy0, _⟩ := hf ⟨0, h0⟩
    have hpos : 0 < (Cell.cells (f ⟨0, h0⟩) y0).length := by rw [Cell.len]; exact Cell.pos
    have hc0 := hy0 0 _ (List.getElem?_eq_getElem hpos)
    simp only [Nat.zero_mul, add_zero_addr] at hc0
    obtain ⟨b, off, spot⟩ := a
    have hspot : spot = none := by
      cases spot with
      | none => rfl
      | some s =>
        unfold World.cell? at hc0
        split at hc0
        · simp at hc0
        · cases hc0
    subst hspot
    refine ⟨b, off, rfl, trivial, ?_, fun i hi => ?_⟩
    · rcases Nat.lt_or_ge b w.heap.size with h | h
      · exact h
      · unfold World.cell? at hc0
        simp [Array.getElem?_eq_none h] at hc0
    · have hi' : i < len := by simpa using hi
      obtain ⟨y, hy, hfa⟩ := hf ⟨i, hi'⟩
      refine ⟨y, fun j v hv => ?_, fun A hA => ?_⟩
      · simp only [List.getElem_ofFn] at hv
        have := hy j v hv
        rw [Addr.add_mid, Addr.add_mid] at this
        exact this
      · simp only [List.getElem_ofFn] at hA
        exact hfa A hA

def byteOfV : Value → UInt8
  | .int _ n => UInt8.ofNat n.toNat
  | _ => 0
set_option maxRecDepth 100000 in
theorem open_id : OpenT Tryz.prog ID 48 := ⟨fun {H enc w sp held fuel cs x} h _ => by
  have hcell : Tryz.prog.cellsOf 5 = 1 := by kernel_rfl
  have hcell2 : Tryz.prog.cellsOf 48 = 32 := by kernel_rfl
  obtain ⟨xs, m, rfl, rfl, hl, hlx, hx⟩ := DataW.trod_array Tryz.underlying48 h
  rw [hcell2] at hl
  have key : ∀ i (hi : i < cs.length), cs[i] = byteV (byteOfV cs[i]) := by
    intro i hi
    have h1 := hx i (by omega)
    rw [hcell, Nat.mul_one, List.getElem?_eq_getElem (by omega)] at h1
    have h2 : (cs.drop i).take 1 = [cs[i]] := by
      rw [List.drop_eq_getElem_cons hi]; rfl
    rw [h2] at h1
    obtain ⟨n, hn, _, hw⟩ := DataW.trod_int Tryz.underlying5 h1
    injection hn with hn
    have hb : 0 ≤ n ∧ n ≤ 255 := by simpa [Lit.wf, IntKind.min, IntKind.max, IntKind.signed, IntKind.bits] using hw
    rw [hn]
    simp only [byteOfV, byteV, Value.int.injEq, true_and]
    rw [UInt8.toNat_ofNat']
    omega
  refine ⟨⟨cs.map byteOfV, by rw [List.length_map]; exact hl⟩, (), ?_, by simp [Cell.facts]⟩
  show cs = (cs.map byteOfV).map byteV
  apply List.ext_getElem
  · simp
  · intro i h1 h2
    simp only [List.getElem_map]
    exact key i h1⟩

set_option maxRecDepth 100000 in
theorem open_commit : OpenT Tryz.prog Commit 29 := ⟨fun {H enc w sp held fuel cs x} h hw => by
  have c24 : Tryz.prog.cellsOf 24 = 2 := by kernel_rfl
  have c27 : Tryz.prog.cellsOf 27 = 4 := by kernel_rfl
  have c29 : Tryz.prog.cellsOf 29 = 8 := by kernel_rfl
  have c25 : Tryz.prog.cellsOf 25 = 1 := by kernel_rfl
  have c3 : Tryz.prog.cellsOf 3 = 1 := by kernel_rfl
  have c9 : Tryz.prog.cellsOf 9 = 1 := by kernel_rfl
  obtain ⟨xs, m, rfl, rfl, hl, hlx, hx⟩ := DataW.trod_struct Tryz.underlying29 h
  rw [c29] at hl
  match cs, hl with
  | [v0, v1, v2, v3, v4, v5, v6, v7], _ =>
  match xs, hlx with
  | [x0, x1, x2, x3], _ =>
  have h0 := hx 0 _ rfl
  have h1 := hx 1 _ rfl
  have h2 := hx 2 _ rfl
  have h3 := hx 3 _ rfl
  simp only [List.getElem_toArray, List.getElem_cons_zero, List.getElem_cons_succ, c24, c3, c25, c27, List.drop_zero, List.drop_succ_cons, List.take_succ_cons, List.take_zero, List.getElem?_cons_zero, List.getElem?_cons_succ] at h0 h1 h2 h3
  obtain ⟨ys, m', rfl, rfl, _, hly, hy⟩ := DataW.trod_struct Tryz.underlying24 h0
  match ys, hly with
  | [y0, y1], _ =>
  have e0 := hy 0 _ rfl
  have e1 := hy 1 _ rfl
  simp only [List.getElem_toArray, List.getElem_cons_zero, List.getElem_cons_succ, c3, List.drop_zero, List.drop_succ_cons, List.take_succ_cons, List.take_zero, List.getElem?_cons_zero, List.getElem?_cons_succ] at e0 e1
  obtain ⟨n0, q0, _, _⟩ := DataW.trod_int Tryz.underlying3 e0
  obtain ⟨n1, q1, _, _⟩ := DataW.trod_int Tryz.underlying3 e1
  obtain ⟨n2, q2, _, _⟩ := DataW.trod_int Tryz.underlying3 h1
  obtain ⟨zs, m2, hm2, rfl, _, hlz, hz⟩ := DataW.trod_struct Tryz.underlying27 h3
  match zs, hlz with
  | [z0, z1, z2, z3], _ =>
  have g0 := hz 0 _ rfl
  have g1 := hz 1 _ rfl
  have g2 := hz 2 _ rfl
  have g3 := hz 3 _ rfl
  simp only [List.getElem_toArray, List.getElem_cons_zero, List.getElem_cons_succ, c3, c9, List.drop_zero, List.drop_succ_cons, List.take_succ_cons, List.take_zero, List.getElem?_cons_zero, List.getElem?_cons_succ] at g0 g1 g2 g3
  obtain ⟨k0, r0, _, _⟩ := DataW.trod_int Tryz.underlying3 g0
  obtain ⟨s1, r1, r1x, _⟩ := DataW.trod_string Tryz.underlying9 g1
  obtain ⟨s2, r2, r2x, _⟩ := DataW.trod_string Tryz.underlying9 g2
  obtain ⟨k3, r3, _, _⟩ := DataW.trod_int Tryz.underlying3 g3
  simp only [DataW.weights, Tryz.underlying29, List.map_cons, List.map_nil, DataW.weightsEach, List.append_nil, List.mem_append, List.map_toArray] at hw
  obtain ⟨pa, pc, L, q3, hsl⟩ := open_id.slice Tryz.underlying25 (by kernel_rfl) (by rw [show Tryz.prog.bytesOf 48 = 32 by kernel_rfl]; decide) h2 (fun n hn => hw n (by simp [hn]))
  injection q0 with q0
  injection q1 with q1
  injection q2 with q2
  injection q3 with q3
  injection r0 with r0
  injection r1 with r1
  injection r2 with r2
  injection r3 with r3
  subst q0 q1 q2 q3 r0 r1 r2 r3
  exact ⟨⟨⟨n0, n1⟩, n2, L, ⟨k0, s1, s2, k3⟩⟩, (pa, pc), rfl, fun A hA => by simp only [Cell.facts, List.mem_singleton] at hA; subst hA; exact hsl⟩⟩
end Ab
end Go.Proofs.YtcmfemfndadfmaaGreat

/- Arguments of the laws, opened. -/
namespace Go.Proofs.YtcmfemfndadfmaaGreat
open Go Go.ChangeShapes Go.WideShapes Go.ChangeAt Go.RowKit
set_option linter.unusedVariables false

theorem knobs : ownKnob Tryz.prog.godebug = none := by kernel_rfl
theorem laid : laidOutB Tryz.prog = true := by kernel_rfl

theorem arg_sl {P : Program} {H : Type} {enc : TypeId × Value → H} {W : World} {α : Type} [Ab.Cell α] {t e : TypeId} (hO : Ab.OpenT P α e) (ht : P.underlying t = some (.slice e)) (hc : P.cellsOf e = Ab.Cell.sz α) (hb : 1 ≤ P.bytesOf e)
    {r : Reach} {base : Nat} {v : Value} {d : DataW H} {p : List MemPlace} (hv : Value.okWide P W r base t v) (h : DataW.Trod enc P W 0 (fun _ => true) true t v d p) (hw : ∀ n ∈ d.weights P t, n ≤ reachBytes) :
    ∃ (a : Option Addr) (c : Nat) (L : List α), v = .slice a L.length c ∧ (Ab.sl a c L).holds (fun _ => True) W := by
  obtain ⟨a, len, cap, rfl⟩ := okWide_slice ht hv
  obtain ⟨fuel, hf⟩ := h
  obtain ⟨a', c', L, hcs, hsl⟩ := hO.slice ht hc hb hf hw
  simp [Value.cells] at hcs
  obtain ⟨rfl, rfl, rfl⟩ := hcs
  exact ⟨_, _, L, rfl, hsl⟩

theorem bytes_commit : Tryz.prog.bytesOf 29 = 96 := by kernel_rfl
theorem bytes_id : Tryz.prog.bytesOf 48 = 32 := by kernel_rfl
section
variable {H : Type} {enc : TypeId × Value → H} {W : World} {r : Reach} {base : Nat} {v : Value} {d : DataW H} {p : List MemPlace}
set_option maxRecDepth 100000 in
theorem arg_commits (hv : Value.okWide Tryz.prog W r base 22 v) (h : DataW.Trod enc Tryz.prog W 0 (fun _ => true) true 22 v d p) (hw : ∀ n ∈ d.weights Tryz.prog 22, n ≤ reachBytes) :
    ∃ (a : Option Addr) (c : Nat) (L : List Ab.Commit), v = .slice a L.length c ∧ (Ab.sl a c L).holds (fun _ => True) W :=
  arg_sl Ab.open_commit Tryz.underlying22 (by kernel_rfl) (by rw [bytes_commit]; decide) hv h hw
set_option maxRecDepth 100000 in
theorem arg_ids (hv : Value.okWide Tryz.prog W r base 25 v) (h : DataW.Trod enc Tryz.prog W 0 (fun _ => true) true 25 v d p) (hw : ∀ n ∈ d.weights Tryz.prog 25, n ≤ reachBytes) :
    ∃ (a : Option Addr) (c : Nat) (L : List Ab.ID), v = .slice a L.length c ∧ (Ab.sl a c L).holds (fun _ => True) W :=
  arg_sl Ab.open_id Tryz.underlying25 (by kernel_rfl) (by rw [bytes_id]; decide) hv h hw
end
end Go.Proofs.YtcmfemfndadfmaaGreat

/- The statement DagTellsSaid: for every input DagTells returns true and leaves its arguments as they were. -/
namespace Go.Proofs.YtcmfemfndadfmaaGreat
open Go Go.ChangeShapes Go.WideShapes Go.ChangeAt Go.RowKit
set_option linter.unusedVariables false

set_option maxRecDepth 100000 in
theorem dagTells_contract (H : Type) (enc : TypeId × Value → H) (W : World) (base : Nat) (args : Array Value) (ds gs : List (DataW H)) (before : List MemPlace)
    (hval : ∀ (j : Nat) t v, Tryz.f4.params[j]? = some t → args[j]? = some v → Value.okWide Tryz.prog W .any base t v)
    (hW : DataW.Whole enc Tryz.prog Tryz.f4.params.toList Rows.dagTellsSpec.vars false W args.toList ds gs before)
    (hsz : (DataW.weightsEach Tryz.prog (Tryz.f4.params.toList ++ Rows.dagTellsSpec.plain.varTypes Tryz.prog) (ds ++ gs)).all (· ≤ reachBytes) = true) :
    Calls Tryz.prog 4 args W fun e W' => ∃ v, e = .returned v ∧ Rows.dagTellsSpec.post enc Tryz.prog Tryz.f4 false true false false W args v W' := by
  have hW' := hW
  obtain ⟨p, q, hA0, hV, rfl, _, _⟩ := hW
  have hA : DataW.TrodAll enc Tryz.prog W 0 (fun _ => true) true Tryz.f4.params.toList args.toList ds p := hA0
  rw [Tryz.params4] at hA hval hsz
  obtain ⟨v0, v1, d0, d1, p0, p1, rfl, rfl, rfl, h0, h1⟩ := trodAll_two hA
  obtain ⟨rfl, rfl⟩ := trodVars_none hV
  have hall := List.all_eq_true.1 hsz
  have w0 : ∀ n ∈ d0.weights Tryz.prog 22, n ≤ reachBytes := fun n hn => by simpa using hall n (DataW.weights_mem_each (j := 0) rfl rfl n hn)
  have w1 : ∀ n ∈ d1.weights Tryz.prog 25, n ≤ reachBytes := fun n hn => by simpa using hall n (DataW.weights_mem_each (j := 1) rfl rfl n hn)
  obtain ⟨a0, k0, x0, rfl, s0⟩ := arg_commits (hval 0 _ v0 rfl rfl) h0 w0
  obtain ⟨a1, k1, x1, rfl, s1⟩ := arg_ids (hval 1 _ v1 rfl rfl) h1 w1
  clear hA0
  simp only [List.append_nil] at hW'
  have hlt : ∀ x ∈ p0 ++ p1, x.block < W.heap.size := fun x hx => by simpa using hW'.lt x (by simpa using hx)
  refine Calls.mono (Ab.law_dagtells W (fun _ => True) a0 a1 k0 k1 x0 x1 s0 s1) ?_
  rintro e W' ⟨y, he, hbel, _⟩
  subst he
  have hB := hbel.below
  refine ⟨_, rfl, _, _, _, [], _, [], hW', ?_, trodAll_mk2 (Below.trod laid (by kernel_rfl) (of_decide_eq_true (by kernel_rfl)) h0 hB (fun x hx => hlt x (List.mem_append_left _ hx))) (Below.trod laid (by kernel_rfl) (of_decide_eq_true (by kernel_rfl)) h1 hB (fun x hx => hlt x (List.mem_append_right _ hx))), rfl, hB.frame _, fun h => by cases h⟩
  exact trodAll_cons_mk (shut_bool Tryz.underlying4 _) trodAll_mk0

set_option maxRecDepth 100000 in
theorem dagTells_lifted (os : Os) (started : os.Started) (H : Type) (enc : TypeId × Value → H) :
    ReturnsInHanded {} Tryz.checked os 4 .any (Rows.dagTellsSpec.pre6 enc Tryz.prog Tryz.f4 Rows.dagTellsRow.domain false) (Rows.dagTellsSpec.post enc Tryz.prog Tryz.f4 false true false false) := by
  refine returnsInHanded_of_change_sized (C := Tryz.checked) knobs started (by kernel_rfl) Tryz.func4
    (ChangeSpec.witness6 (enc := enc) (C := Tryz.checked) false ⟨#[], #[.slice none 0 0, .slice none 0 0], []⟩ 8 (by kernel_rfl) (by kernel_rfl) (by kernel_rfl) (by kernel_rfl)) ?_
  intro W base args ds gs before hval hW _ hsz _
  exact dagTells_contract H enc W base args ds gs before hval hW hsz

theorem dagTells_holds : Rows.DagTellsSaid :=
  OpenClaim.holds_of_wide 4 Tryz.f4 rfl rfl rfl rfl rfl rfl rfl ⟨rfl, rfl, rfl, rfl, rfl⟩ rfl rfl rfl rfl rfl (by kernel_rfl) Tryz.func4 (by kernel_rfl)
    (of_decide_eq_true (by kernel_rfl)) (by unfold Func.isWrapper; first | (rw [if_pos (by decide +kernel)]; kernel_rfl) | (rw [if_neg (by decide +kernel)]; exact ⟨rfl, rfl⟩))
    (fun os started H enc _ => dagTells_lifted os started H enc)
end Go.Proofs.YtcmfemfndadfmaaGreat
