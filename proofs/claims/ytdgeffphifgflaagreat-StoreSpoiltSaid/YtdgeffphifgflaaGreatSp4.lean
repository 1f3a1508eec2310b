/- Lemmas for the walks, part 4 of 5: Dag, WalkW, WalkX, DagC, More12, WalkB2, DagA, Draw2, DagB, DagE, Cmp, Sort2, Lays3, DagD, DagF, DagG, DagH, WalkY, WalkZ, DagI, DagJ, Few, LawS, LawW, DagK, LawK, LawN, FrP, FrQ, RefA, RefB, RefC, RefD, RefE, RefF, RefG, RefH, RefI, RefJ, RefK, RefL, RefM, RfA, Mat, RfB, RfC, RfD, RfE, RfF, RfG, LawD, FrA, LoadP, Round, RoundX, LoadI, Load, Trip, StA. -/
import Derived.Test.YtdgeffphifgflaaGreatSp3
import Derived.Test.YtdgeffphifgflaaGreatSp2
import Derived.Shelf.SlSortCmp.NoneTotal
import Derived.Test.YtdgeffphifgflaaGreatChecked
import Derived.KernelRfl
import Derived.RangeFuncLeaves
import Derived.RangeFuncCalls
import Derived.RangeFuncRecord
import Derived.RangeFuncSeq
import Derived.ControlIn
import Derived.Test.YtdgeffphifgflaaGreatSp1
import Derived.RangeFuncIn
/- Closed commits, in plain words: what commits know, when they are closed, how they are put one by one, and the same by places. -/
namespace Go.Proofs.YtdgeffphifgflaaGreat
namespace Ab
open Go Go.RowKit
set_option linter.unusedVariables false
set_option linter.unusedSimpArgs false
set_option synthInstance.maxSize 4000
set_option synthInstance.maxHeartbeats 400000
attribute [local irreducible] JC JO JR JQ andThen inBlock OpV Gives retTo JM JS

def idC (c : Commit) : ID := (hashC c).1
def cids (L : List Commit) : List ID := L.map idC
/-- What a commit of L stands behind, of what is there. -/
def par (L : List Commit) (x y : ID) : Prop := ∃ c ∈ L, idC c = x ∧ y ∈ c.parents ∧ y ∈ cids L
def knows (L : List Commit) (x y : ID) : Prop := Relation.TransGen (par L) x y
def genAt (L : List Commit) (p : ID) : Int := match L.find? (fun c => decide (idC c = p)) with | some c => c.gen | none => 0
def maxGen (L : List Commit) (ps : List ID) : Int := ps.foldl (fun g p => max g (genAt L p)) 0

structure Fine (L : List Commit) (c : Commit) : Prop where
  merge : merge c = false
  here : ∀ p ∈ c.parents, p ∈ cids L
  free : ∀ p ∈ c.parents, ∀ q ∈ c.parents, ¬ knows L p q
  gen : c.gen = maxGen L c.parents + 1
def evOk (L : List Commit) (c d : Commit) : Prop := idC c ≠ idC d → c.ev.node = d.ev.node → c.ev.seq ≠ d.ev.seq ∧ (d.ev.seq < c.ev.seq → knows L (idC c) (idC d))
structure Closed (L : List Commit) : Prop where
  may : ∀ c ∈ L, may c = true
  nodup : (cids L).Nodup
  fine : ∀ c ∈ L, Fine L c
  ev : ∀ c ∈ L, ∀ d ∈ L, evOk L c d

theorem mem_cids {L : List Commit} {x : ID} : x ∈ cids L ↔ ∃ c ∈ L, idC c = x := by simp [cids]
theorem cids_perm {L M : List Commit} (h : L.Perm M) : (cids L).Perm (cids M) := h.map _
theorem par_perm {L M : List Commit} (h : L.Perm M) (x y : ID) : par L x y ↔ par M x y := by
  unfold par
  constructor
  · rintro ⟨c, h1, h2, h3, h4⟩; exact ⟨c, h.mem_iff.1 h1, h2, h3, (cids_perm h).mem_iff.1 h4⟩
  · rintro ⟨c, h1, h2, h3, h4⟩; exact ⟨c, h.mem_iff.2 h1, h2, h3, (cids_perm h).mem_iff.2 h4⟩
theorem par_perm_eq {L M : List Commit} (h : L.Perm M) : par L = par M := by
  funext x y; exact propext (par_perm h x y)
theorem knows_perm {L M : List Commit} (h : L.Perm M) : knows L = knows M := by unfold knows; rw [par_perm_eq h]
/-- One commit has an id, of commits with ids of their own. -/
theorem id_inj {L : List Commit} (h : (cids L).Nodup) {c d : Commit} (hc : c ∈ L) (hd : d ∈ L) (e : idC c = idC d) : c = d := by
  induction L with
  | nil => cases hc
  | cons a L ih =>
    simp only [cids, List.map_cons, List.nodup_cons, List.mem_map, not_exists, not_and] at h
    rcases List.mem_cons.1 hc with e1 | hc'
    · rcases List.mem_cons.1 hd with e2 | hd'
      · rw [e1, e2]
      · exact (h.1 d hd' (by rw [← e1, e])).elim
    · rcases List.mem_cons.1 hd with e2 | hd'
      · exact (h.1 c hc' (by rw [← e2, e])).elim
      · exact ih h.2 hc' hd'
theorem genAt_of {L : List Commit} (h : (cids L).Nodup) {c : Commit} (hc : c ∈ L) : genAt L (idC c) = c.gen := by
  unfold genAt
  cases hf : L.find? (fun d => decide (idC d = idC c)) with
  | none => exact absurd (List.find?_eq_none.1 hf c hc) (by simp)
  | some d =>
    have h1 := List.find?_some hf
    have h2 := List.mem_of_find?_eq_some hf
    rw [id_inj h h2 hc (by simpa using h1)]
theorem genAt_none {L : List Commit} {p : ID} (h : p ∉ cids L) : genAt L p = 0 := by
  unfold genAt
  cases hf : L.find? (fun d => decide (idC d = p)) with
  | none => rfl
  | some d =>
    have h1 := List.find?_some hf
    exact (h (mem_cids.2 ⟨d, List.mem_of_find?_eq_some hf, by simpa using h1⟩)).elim
theorem genAt_perm {L M : List Commit} (h : L.Perm M) (hn : (cids L).Nodup) (p : ID) : genAt L p = genAt M p := by
  by_cases hp : p ∈ cids L
  · obtain ⟨c, hc, rfl⟩ := mem_cids.1 hp
    rw [genAt_of hn hc, genAt_of ((cids_perm h).nodup_iff.1 hn) (h.mem_iff.1 hc)]
  · rw [genAt_none hp, genAt_none (fun hq => hp ((cids_perm h).mem_iff.2 hq))]
theorem foldl_max_le (f : ID → Int) (ps : List ID) : ∀ g : Int, g ≤ ps.foldl (fun g p => max g (f p)) g := by
  induction ps with
  | nil => intro g; exact Int.le_refl _
  | cons p ps ih => intro g; exact Int.le_trans (Int.le_max_left _ _) (ih _)
theorem foldl_max_mem (f : ID → Int) (ps : List ID) : ∀ (g : Int), ∀ p ∈ ps, f p ≤ ps.foldl (fun g p => max g (f p)) g := by
  induction ps with
  | nil => intro g p hp; cases hp
  | cons q ps ih =>
    intro g p hp
    rcases List.mem_cons.1 hp with rfl | hp
    · exact Int.le_trans (Int.le_max_right _ _) (foldl_max_le f ps _)
    · exact ih _ p hp
theorem foldl_max_congr (f g : ID → Int) (ps : List ID) (h : ∀ p ∈ ps, f p = g p) : ∀ a : Int, ps.foldl (fun g p => max g (f p)) a = ps.foldl (fun a p => max a (g p)) a := by
  induction ps with
  | nil => intro a; rfl
  | cons q ps ih =>
    intro a
    simp only [List.foldl_cons]
    rw [h q (by simp)]
    exact ih (fun p hp => h p (by simp [hp])) _
theorem maxGen_mem (L : List Commit) (ps : List ID) (p : ID) (h : p ∈ ps) : genAt L p ≤ maxGen L ps := foldl_max_mem _ _ _ p h
theorem maxGen_congr {L M : List Commit} {ps : List ID} (h : ∀ p ∈ ps, genAt L p = genAt M p) : maxGen L ps = maxGen M ps := foldl_max_congr _ _ _ h _

theorem Closed.perm {L M : List Commit} (h : L.Perm M) (hc : Closed L) : Closed M := by
  have hk := knows_perm h
  refine ⟨fun c hm => hc.may c (h.mem_iff.2 hm), (cids_perm h).nodup_iff.1 hc.nodup, fun c hm => ?_, fun c hm d hd => ?_⟩
  · have hf := hc.fine c (h.mem_iff.2 hm)
    refine ⟨hf.merge, fun p hp => (cids_perm h).mem_iff.1 (hf.here p hp), ?_, ?_⟩
    · rw [← hk]; exact hf.free
    · rw [hf.gen, maxGen_congr fun p _ => genAt_perm h hc.nodup p]
  · have := hc.ev c (h.mem_iff.2 hm) d (h.mem_iff.2 hd)
    unfold evOk at *
    rw [← hk]; exact this
/-- What is known has a smaller generation. -/
theorem Closed.par_gen {L : List Commit} (h : Closed L) {x y : ID} (hp : par L x y) : genAt L y < genAt L x := by
  obtain ⟨c, h1, rfl, h3, _⟩ := hp
  rw [genAt_of h.nodup h1, (h.fine c h1).gen]
  have := maxGen_mem L c.parents y h3
  omega
theorem Closed.knows_gen {L : List Commit} (h : Closed L) {x y : ID} (hp : knows L x y) : genAt L y < genAt L x := by
  induction hp with
  | single h1 => exact h.par_gen h1
  | tail _ h1 ih => exact Int.lt_trans (h.par_gen h1) ih
theorem Closed.irrefl {L : List Commit} (h : Closed L) (x : ID) : ¬ knows L x x := fun hk => Int.lt_irrefl _ (h.knows_gen hk)
/-- What a commit knows: its parents, and what these know. -/
theorem knows_iff {L : List Commit} (hn : (cids L).Nodup) {c : Commit} (hc : c ∈ L) (hh : ∀ p ∈ c.parents, p ∈ cids L) (y : ID) :
    knows L (idC c) y ↔ ∃ p ∈ c.parents, y = p ∨ knows L p y := by
  constructor
  · intro h
    have key : ∀ {x y}, Relation.TransGen (par L) x y → ∃ z, par L x z ∧ (y = z ∨ Relation.TransGen (par L) z y) := by
      intro x y h
      induction h with
      | single h1 => exact ⟨_, h1, .inl rfl⟩
      | tail _ h1 ih =>
        obtain ⟨z, h2, h3⟩ := ih
        refine ⟨z, h2, .inr ?_⟩
        rcases h3 with rfl | h3
        · exact .single h1
        · exact .tail h3 h1
    obtain ⟨z, ⟨d, h1, h2, h3, _⟩, h4⟩ := key h
    have : d = c := id_inj hn h1 hc h2
    subst this
    exact ⟨z, h3, h4⟩
  · rintro ⟨p, hp, h⟩
    have h1 : par L (idC c) p := ⟨c, hc, rfl, hp, hh p hp⟩
    rcases h with rfl | h
    · exact .single h1
    · exact Relation.TransGen.trans (.single h1) h

/-- A part that stands behind nothing else knows the same. -/
theorem knows_sub {L M : List Commit} (hs : ∀ c ∈ M, c ∈ L) (hn : (cids L).Nodup) (hh : ∀ c ∈ M, ∀ p ∈ c.parents, p ∈ cids M) {x : ID} (hx : x ∈ cids M) (y : ID) :
    knows M x y ↔ knows L x y := by
  have hi : ∀ z, z ∈ cids M → z ∈ cids L := fun z hz => by
    obtain ⟨c, hc, rfl⟩ := mem_cids.1 hz; exact mem_cids.2 ⟨c, hs c hc, rfl⟩
  constructor
  · intro h
    refine Relation.TransGen.rec (motive := fun y _ => knows L x y) ?_ ?_ h
    · rintro y ⟨c, h1, h2, h3, h4⟩; exact .single ⟨c, hs c h1, h2, h3, hi _ h4⟩
    · rintro y z _ ⟨c, h1, h2, h3, h4⟩ ih; exact .tail ih ⟨c, hs c h1, h2, h3, hi _ h4⟩
  · intro h
    have step : ∀ {x y}, x ∈ cids M → par L x y → par M x y ∧ y ∈ cids M := by
      rintro x y hx ⟨c, h1, h2, h3, _⟩
      obtain ⟨d, hd, he⟩ := mem_cids.1 hx
      have : d = c := id_inj hn (hs d hd) h1 (he.trans h2.symm)
      subst this
      exact ⟨⟨d, hd, he, h3, hh d hd y h3⟩, hh d hd y h3⟩
    have : knows M x y ∧ y ∈ cids M := by
      refine Relation.TransGen.rec (motive := fun y _ => knows M x y ∧ y ∈ cids M) ?_ ?_ h
      · intro y h1; exact ⟨.single (step hx h1).1, (step hx h1).2⟩
      · intro y z _ h1 ih; exact ⟨.tail ih.1 (step ih.2 h1).1, (step ih.2 h1).2⟩
    exact this.1
theorem genAt_sub {L M : List Commit} (hs : ∀ c ∈ M, c ∈ L) (hn : (cids L).Nodup) (hm : (cids M).Nodup) {x : ID} (hx : x ∈ cids M) : genAt M x = genAt L x := by
  obtain ⟨c, hc, rfl⟩ := mem_cids.1 hx
  rw [genAt_of hm hc, genAt_of hn (hs c hc)]
theorem nodup_sub {L M : List Commit} (hn : (cids L).Nodup) (hs : M.Sublist L) : (cids M).Nodup := hn.sublist (hs.map _)
/-- A part of closed commits that stands behind nothing else is closed. -/
theorem Closed.sub {L M : List Commit} (h : Closed L) (hs : ∀ c ∈ M, c ∈ L) (hm : (cids M).Nodup) (hh : ∀ c ∈ M, ∀ p ∈ c.parents, p ∈ cids M) : Closed M := by
  refine ⟨fun c hc => h.may c (hs c hc), hm, fun c hc => ?_, fun c hc d hd => ?_⟩
  · have hf := h.fine c (hs c hc)
    refine ⟨hf.merge, hh c hc, fun p hp q hq hk => hf.free p hp q hq ((knows_sub hs h.nodup hh (hh c hc p hp) q).1 hk), ?_⟩
    rw [hf.gen, maxGen_congr fun p hp => (genAt_sub hs h.nodup hm (hh c hc p hp))]
  · have := h.ev c (hs c hc) d (hs d hd)
    intro h1 h2
    obtain ⟨h3, h4⟩ := this h1 h2
    exact ⟨h3, fun h5 => (knows_sub hs h.nodup hh (mem_cids.2 ⟨c, hc, rfl⟩) _).2 (h4 h5)⟩
/-- Commits in the order in which they were put, and what each of them knows. -/
def nodes (G : List (Commit × List ID)) : List Commit := G.map (·.1)
def knownBy (G : List (Commit × List ID)) (q : ID) : List ID := match G.find? (fun g => decide (idC g.1 = q)) with | some g => g.2 | none => []
def addOk (G : List (Commit × List ID)) (c : Commit) : Bool := c.parents.all (fun p => decide (p ∈ cids (nodes G))) && c.parents.all (fun p => c.parents.all fun q => decide (p ∉ knownBy G q))
def addGen (G : List (Commit × List ID)) (c : Commit) : Bool := decide (c.gen = maxGen (nodes G) c.parents + 1)
def isKnown (G : List (Commit × List ID)) (c : Commit) (S : List ID) : Prop := ∀ x, x ∈ S ↔ ∃ p ∈ c.parents, x = p ∨ x ∈ knownBy G p
inductive Built : List (Commit × List ID) → Prop
  | nil : Built []
  | snoc {G : List (Commit × List ID)} {c : Commit} {S : List ID} : Built G → idC c ∉ cids (nodes G) → merge c = false → addOk G c = true → addGen G c = true → isKnown G c S → Built (G ++ [(c, S)])

theorem nodes_snoc (G : List (Commit × List ID)) (c : Commit) (S : List ID) : nodes (G ++ [(c, S)]) = nodes G ++ [c] := by simp [nodes]
theorem cids_append (L M : List Commit) : cids (L ++ M) = cids L ++ cids M := by simp [cids]
theorem cids_snoc (L : List Commit) (c : Commit) : cids (L ++ [c]) = cids L ++ [idC c] := by simp [cids]
theorem knownBy_of {G : List (Commit × List ID)} (h : (cids (nodes G)).Nodup) {g : Commit × List ID} (hg : g ∈ G) : knownBy G (idC g.1) = g.2 := by
  unfold knownBy
  cases hf : G.find? (fun d => decide (idC d.1 = idC g.1)) with
  | none => exact absurd (List.find?_eq_none.1 hf g hg) (by simp)
  | some d =>
    have h1 := List.find?_some hf
    have h2 := List.mem_of_find?_eq_some hf
    have h3 : idC d.1 = idC g.1 := by simpa using h1
    have : d = g := by
      clear hf h1
      induction G with
      | nil => cases hg
      | cons a G ih =>
        simp only [nodes, cids, List.map_cons, List.nodup_cons, List.mem_map, not_exists, not_and] at h
        rcases List.mem_cons.1 h2 with e1 | h2'
        · rcases List.mem_cons.1 hg with e2 | hg'
          · rw [e1, e2]
          · exact (h.1 g.1 ⟨g, hg', rfl⟩ (by rw [← e1, h3])).elim
        · rcases List.mem_cons.1 hg with e2 | hg'
          · exact (h.1 d.1 ⟨d, h2', rfl⟩ (by rw [← e2, h3])).elim
          · exact ih h.2 hg' h2'
    rw [this]
theorem knownBy_snoc {G : List (Commit × List ID)} {c : Commit} {S : List ID} {q : ID} (h : q ∈ cids (nodes G)) : knownBy (G ++ [(c, S)]) q = knownBy G q := by
  obtain ⟨c', hc', he⟩ := mem_cids.1 h
  obtain ⟨g, hg, rfl⟩ := List.mem_map.1 hc'
  unfold knownBy
  rw [List.find?_append]
  cases hf : G.find? (fun d => decide (idC d.1 = q)) with
  | none => exact absurd (List.find?_eq_none.1 hf g hg) (by simpa using he)
  | some d => rfl
theorem addOk_iff (G : List (Commit × List ID)) (c : Commit) : addOk G c = true ↔ (∀ p ∈ c.parents, p ∈ cids (nodes G)) ∧ ∀ p ∈ c.parents, ∀ q ∈ c.parents, p ∉ knownBy G q := by
  simp only [addOk, Bool.and_eq_true, List.all_eq_true, decide_eq_true_eq]

/-- What was built is right. -/
structure BuiltR (G : List (Commit × List ID)) : Prop where
  nodup : (cids (nodes G)).Nodup
  here : ∀ c ∈ nodes G, ∀ p ∈ c.parents, p ∈ cids (nodes G)
  known : ∀ q ∈ cids (nodes G), ∀ x, x ∈ knownBy G q ↔ knows (nodes G) q x
  fine : ∀ c ∈ nodes G, Fine (nodes G) c
theorem Built.right {G : List (Commit × List ID)} (h : Built G) : BuiltR G := by
  induction h with
  | nil => exact ⟨by simp [nodes, cids], by simp [nodes], by simp [nodes, cids], by simp [nodes]⟩
  | snoc h1 h2 h3 h4 h5 h6 ih =>
    rename_i G c S
    have hn : (cids (nodes (G ++ [(c, S)]))).Nodup := by
      rw [nodes_snoc, cids_snoc]
      exact List.nodup_append.2 ⟨ih.nodup, by simp, fun a ha b hb => by simp at hb; subst hb; exact fun e => h2 (e ▸ ha)⟩
    obtain ⟨h7, h8⟩ := (addOk_iff G c).1 h4
    have hs : ∀ d ∈ nodes G, d ∈ nodes (G ++ [(c, S)]) := fun d hd => by rw [nodes_snoc]; exact List.mem_append_left _ hd
    have hi : ∀ x ∈ cids (nodes G), x ∈ cids (nodes (G ++ [(c, S)])) := fun x hx => by rw [nodes_snoc, cids_append]; exact List.mem_append_left _ hx
    have hc : c ∈ nodes (G ++ [(c, S)]) := by rw [nodes_snoc]; simp
    have hsub : ∀ {x}, x ∈ cids (nodes G) → ∀ y, knows (nodes G) x y ↔ knows (nodes (G ++ [(c, S)])) x y := fun hx y => knows_sub hs hn ih.here hx y
    have hgen : ∀ x ∈ cids (nodes G), genAt (nodes G) x = genAt (nodes (G ++ [(c, S)])) x := fun x hx => genAt_sub hs hn ih.nodup hx
    have hcc : ∀ x, x ∈ S ↔ knows (nodes (G ++ [(c, S)])) (idC c) x := by
      intro x
      rw [h6 x, knows_iff hn hc (fun p hp => hi p (h7 p hp))]
      constructor
      · rintro ⟨p, hp, h9⟩
        exact ⟨p, hp, h9.imp id fun h9 => (hsub (h7 p hp) x).1 ((ih.known p (h7 p hp) x).1 h9)⟩
      · rintro ⟨p, hp, h9⟩
        exact ⟨p, hp, h9.imp id fun h9 => (ih.known p (h7 p hp) x).2 ((hsub (h7 p hp) x).2 h9)⟩
    refine ⟨hn, fun d hd p hp => ?_, fun q hq x => ?_, fun d hd => ?_⟩
    · rw [nodes_snoc] at hd
      rcases List.mem_append.1 hd with hd | hd
      · exact hi p (ih.here d hd p hp)
      · simp at hd; subst hd; exact hi p (h7 p hp)
    · by_cases hq' : q ∈ cids (nodes G)
      · rw [knownBy_snoc hq', ih.known q hq', hsub hq']
      · have : q = idC c := by
          rw [nodes_snoc, cids_snoc] at hq
          rcases List.mem_append.1 hq with hq | hq
          · exact (hq' hq).elim
          · simpa using hq
        subst this
        rw [knownBy_of hn (g := (c, S)) (by simp)]
        exact hcc x
    · rw [nodes_snoc] at hd
      rcases List.mem_append.1 hd with hd | hd
      · have hf := ih.fine d hd
        refine ⟨hf.merge, fun p hp => hi p (hf.here p hp), fun p hp q hq hk => hf.free p hp q hq ((hsub (hf.here p hp) q).2 hk), ?_⟩
        rw [hf.gen, maxGen_congr fun p hp => hgen p (hf.here p hp)]
      · simp at hd; subst hd
        refine ⟨h3, fun p hp => hi p (h7 p hp), fun p hp q hq hk => h8 q hq p hp ((ih.known p (h7 p hp) q).2 ((hsub (h7 p hp) q).2 hk)), ?_⟩
        have := of_decide_eq_true h5
        rw [this, maxGen_congr fun p hp => hgen p (h7 p hp)]

theorem Built.closed {G : List (Commit × List ID)} (h : Built G) (hm : ∀ c ∈ nodes G, may c = true) (he : ∀ c ∈ nodes G, ∀ d ∈ nodes G, evOk (nodes G) c d) : Closed (nodes G) :=
  ⟨hm, h.right.nodup, h.right.fine, he⟩
/-- Closed commits, by rising generations, can be put one by one. -/
theorem Closed.step {Lo : List Commit} (h : Closed Lo) (hs : Lo.Pairwise (fun c d => c.gen ≤ d.gen)) {G : List (Commit × List ID)} (hb : Built G) {k : Nat} (hk : k < Lo.length) (hG : nodes G = Lo.take k) :
    idC Lo[k] ∉ cids (nodes G) ∧ merge Lo[k] = false ∧ addOk G Lo[k] = true ∧ addGen G Lo[k] = true := by
  have hm := List.getElem_mem hk
  have hf := h.fine _ hm
  have hr := hb.right
  have hsub : ∀ c ∈ nodes G, c ∈ Lo := fun c hc => by rw [hG] at hc; exact List.mem_of_mem_take hc
  have hpar : ∀ p ∈ Lo[k].parents, p ∈ cids (nodes G) := by
    intro p hp
    obtain ⟨d, hd, rfl⟩ := mem_cids.1 (hf.here p hp)
    have hlt : d.gen < Lo[k].gen := by
      have := h.par_gen (x := idC Lo[k]) (y := idC d) ⟨_, hm, rfl, hp, hf.here _ hp⟩
      rwa [genAt_of h.nodup hd, genAt_of h.nodup hm] at this
    obtain ⟨j, hj, rfl⟩ := List.getElem_of_mem hd
    have hjk : j < k := by
      apply Classical.byContradiction
      intro hge
      by_cases he : j = k
      · subst he; omega
      · have := List.pairwise_iff_getElem.1 hs k j hk hj (by omega)
        omega
    rw [hG]
    refine mem_cids.2 ⟨Lo[j], ?_, rfl⟩
    rw [List.mem_take_iff_getElem]
    exact ⟨j, by omega, rfl⟩
  refine ⟨?_, hf.merge, (addOk_iff G _).2 ⟨hpar, fun p hp q hq hk' => ?_⟩, ?_⟩
  · intro hc
    obtain ⟨d, hd, he⟩ := mem_cids.1 hc
    rw [hG, List.mem_take_iff_getElem] at hd
    obtain ⟨j, hj, rfl⟩ := hd
    have h1 := List.pairwise_iff_getElem.1 (show (cids Lo).Pairwise _ from h.nodup) j k (by simp [cids]; omega) (by simpa [cids] using hk) (by omega)
    simp [cids] at h1
    exact h1 he
  · exact hf.free q hq p hp ((knows_sub hsub h.nodup hr.here (hpar q hq) p).1 ((hr.known q (hpar q hq) p).1 hk'))
  · refine decide_eq_true ?_
    rw [hf.gen, maxGen_congr fun p hp => (genAt_sub hsub h.nodup hr.nodup (hpar p hp)).symm]
/- By places. -/
def istep (L : List Commit) (i j : Nat) : Prop := ∃ h : i < L.length, ∃ p ∈ L[i].parents, (cids L).findIdx? (fun x => decide (x = p)) = some j
def knowsI (L : List Commit) (i j : Nat) : Prop := Relation.TransGen (istep L) i j
theorem cids_length (L : List Commit) : (cids L).length = L.length := by simp [cids]
theorem cids_get (L : List Commit) (i : Nat) (h : i < (cids L).length) : (cids L)[i] = idC (L[i]'(by simpa [cids] using h)) := by simp [cids]
/-- One commit is fine, by places. -/
def oneI (L : List Commit) (i : Nat) : Prop := ∃ h : i < L.length, (∀ p ∈ L[i].parents, p ∈ cids L) ∧
  (∀ a b, istep L i a → istep L i b → ¬ knowsI L a b) ∧ L[i].gen = maxGen L L[i].parents + 1
def evI (L : List Commit) (i j : Nat) : Prop := ∃ hi : i < L.length, ∃ hj : j < L.length, L[i].ev.node = L[j].ev.node →
  L[i].ev.seq ≠ L[j].ev.seq ∧ (L[j].ev.seq < L[i].ev.seq → knowsI L i j) ∧ (L[i].ev.seq < L[j].ev.seq → knowsI L j i)
end Ab
end Go.Proofs.YtdgeffphifgflaaGreat

/- Contracts: the document's Same and List, the laws' Few. -/
namespace Go.Proofs.YtdgeffphifgflaaGreat
namespace Ab
open Go Go.RowKit
set_option linter.unusedVariables false
set_option linter.unusedSimpArgs false
set_option synthInstance.maxSize 4000
set_option synthInstance.maxHeartbeats 400000
attribute [local irreducible] JC JO JR JQ andThen inBlock OpV Gives retTo JM JS

theorem sameIds_ref (w : World) (F : Nat → Prop) (a b : Option Addr) (c k : Nat) (L M : List ID) (h : (sl a c L).holds F w) (h' : (sl b k M).holds F w) :
    GivesV Tryz.prog 51 [.slice a L.length c, .slice b M.length k] w F (.bool (decide (L = M))) := by
  have hL : L.length < 9223372036854775807 := by have := h.2.2.1; simp only [lim] at this; omega
  refine gives_of Tryz.func51 rfl Tryz.ntmps51 rfl rfl [.st (sl a c L), .st (sl b k M)] (.start2 h h') ?_
  repeat (first|refine Wa ?_|refine Wb ?_|refine Wc ?_|refine Wd ?_|refine We rfl ?_|refine Wf (by first|exact Va|exact Vb|exact Vf|exact Vm) rfl ?_)
  refine JC.test (fun hne => ?_) (fun he => ?_)
  · repeat (first|refine Wa ?_|refine Wb ?_|refine Wc ?_|refine Wd ?_|refine We rfl ?_|refine Wf (by exact Vb) rfl ?_|refine Ws ?_|refine Wt ?_)
    refine CT.done () ?_ (fun w ho => ho.ent)
    have : ¬ L = M := fun h => hne (by rw [h])
    simp [packed, this]
  · have hlen : L.length = M.length := by omega
    repeat (first|refine Wa ?_|refine Wb ?_|refine Wc ?_|refine Wd ?_|refine We rfl ?_|refine Wf (by exact Vb) rfl ?_|refine Wl ?_|refine Wn ?_)
    refine JC.loop1 (fun k0 : Nat => [(0, .slice a L.length c), (1, .slice b M.length k), (5, .int .i64 (k0 : Int))]) (fun _ => [.st (sl a c L), .st (sl b k M)])
      (fun k0 => k0 ≤ L.length ∧ L.take k0 = M.take k0) (fun k0 => L.length - k0) 0 ⟨Nat.zero_le _, rfl⟩ inferInstance ?_
    intro k0 ⟨hk, heq⟩
    repeat (first|refine Wa ?_|refine Wb ?_|refine Wc ?_|refine Wd ?_|refine We rfl ?_|refine Wf (by first|exact Va|exact Vf|exact Vg) rfl ?_)
    refine JC.test (fun hlt => ?_) (fun hge => ?_)
    · have hlt' : k0 < L.length := by omega
      repeat (first|refine Wa ?_|refine Wb ?_|refine Wl ?_|refine Wn ?_)
      refine JC.openID (.slice a L.length c) k0 hlt' ?_
      intro b1 o1
      refine JC.openID (.slice b M.length k) k0 (by omega) ?_
      intro b2 o2
      refine JC.quiet mixed (by kernel_rfl) ?_
      repeat (first|refine Wy rfl (by first|exact Va|exact Vc|exact Ve|exact Vy) rfl ?_|refine WB ?_)
      repeat (refine Wa ?_)
      refine JC.test (fun hne => ?_) (fun heq2 => ?_)
      · repeat (first|refine Wa ?_|refine Wb ?_|refine Wc ?_|refine Wd ?_|refine We rfl ?_|refine Wf (by exact Vb) rfl ?_|refine Ws ?_|refine Wt ?_|refine Wu ?_)
        refine CT.done () ?_ (fun w ho => ho.ent)
        have : ¬ L = M := fun h => by subst h; exact hne rfl
        simp [packed, this]
      · repeat (first|refine Wa ?_|refine Wc ?_|refine Wd ?_|refine We rfl ?_|refine Wf (by first|exact Va|exact Vb|exact Vk (by omega)) rfl ?_|refine Wl ?_|refine Wr ?_)
        refine ⟨k0 + 1, ⟨by omega, ?_⟩, by omega, inferInstance⟩
        have heq2 : L[k0] = M[k0] := by simpa using heq2
        rw [List.take_succ_eq_append_getElem hlt', List.take_succ_eq_append_getElem (by omega), heq, heq2]
    · have hk0 : k0 = L.length := by omega
      repeat (first|refine Wa ?_|refine Wb ?_|refine Wc ?_|refine Wd ?_|refine We rfl ?_|refine Wf (by exact Vb) rfl ?_|refine Wm ?_|refine Wo ?_|refine Wp ?_|refine Ws ?_)
      refine CT.done () ?_ (fun w ho => ho.ent)
      have : L = M := by
        rw [List.take_of_length_le (by omega), List.take_of_length_le (by omega)] at heq
        exact heq
      simp [packed, this]

theorem op_eq (a b : Op_) : (decide (a.kind = b.kind) && (decide (a.key = b.key) && (decide (a.elem = b.elem) && decide (a.n = b.n)))) = decide (a = b) := by
  obtain ⟨a1, a2, a3, a4⟩ := a
  obtain ⟨b1, b2, b3, b4⟩ := b
  rw [Bool.eq_iff_iff]
  simp

theorem same_ref (w : World) (F : Nat → Prop) (c d : Commit) (a b : Option Addr) (k m : Nat) (h : (sl a k c.parents).holds F w) (h' : (sl b m d.parents).holds F w) :
    GivesV Tryz.prog 66 [commitV c a k, commitV d b m] w F (.bool (decide (c = d))) := by
  have key : ∀ (c d : Commit), c = d ↔ c.ev = d.ev ∧ c.gen = d.gen ∧ c.op = d.op ∧ c.parents = d.parents := by
    intro c d
    cases c; cases d
    simp only [Commit.mk.injEq]
    constructor
    · rintro ⟨h1, h2, h3, h4⟩; exact ⟨h1, h2, h4, h3⟩
    · rintro ⟨h1, h2, h3, h4⟩; exact ⟨h1, h2, h4, h3⟩
  refine gives_of Tryz.func66 rfl Tryz.ntmps66 rfl rfl [.st (sl a k c.parents), .st (sl b m d.parents)] (.start2 h h') ?_
  repeat (first|refine Wa ?_|refine Wb ?_|refine Wc ?_|refine Wd ?_|refine We rfl ?_|refine Wf (by first|exact Vb|exact Vc|exact Vd) rfl ?_|(refine Wh rfl ?_; intro _))
  refine JR.callV rfl (fun w1 hw => sameIds_ref w1 _ a b k m _ _ hw.get hw.get) ?_
  repeat (first|refine Wa ?_|refine Wb ?_|refine Wc ?_|refine Wd ?_|refine We rfl ?_|refine Wf (by first|exact Va|exact Vb) rfl ?_)
  refine JO.test 12 (fun h1 => ?_) (fun h1 => ?_)
  · repeat (first|refine We rfl ?_|refine Wf (by first|exact Va|exact Vc|exact Vd|exact Vi|exact Vz) rfl ?_)
    refine JO.test 19 (fun h2 => ?_) (fun h2 => ?_)
    · repeat (first|refine We rfl ?_|refine Wf (by first|exact Va|exact Vc|exact Vd|exact Vi|exact Vl) rfl ?_)
      refine JO.test 26 (fun h3 => ?_) (fun h3 => ?_)
      · repeat (first|refine Wa ?_|refine Wd ?_|refine We rfl ?_|refine Wf (by first|exact Vb|exact Vc|exact Vd|exact Vi|exact VA) rfl ?_|refine Ws ?_)
        refine CT.done () ?_ (fun w ho => ho.ent)
        have h1 : c.parents = d.parents := by simpa using h1
        have h2 : c.ev = d.ev := h2
        simp [packed, key, h1, h2, h3]
        exact op_eq _ _
      · repeat (first|refine Wa ?_|refine Wd ?_|refine We rfl ?_|refine Wf (by first|exact Vb|exact Vj) rfl ?_|refine Ws ?_|refine Wv rfl rfl ?_)
        refine CT.done () ?_ (fun w ho => ho.ent)
        simp [packed, key, h3]
    · repeat (first|refine Wa ?_|refine Wd ?_|refine We rfl ?_|refine Wf (by first|exact Va|exact Vb|exact Vj) rfl ?_|refine Ws ?_|refine Wv rfl rfl ?_)
      refine CT.done () ?_ (fun w ho => ho.ent)
      have h2 : ¬ c.ev = d.ev := h2
      simp [packed, key, h2]
  · repeat (first|refine Wa ?_|refine Wd ?_|refine We rfl ?_|refine Wf (by first|exact Va|exact Vb|exact Vj) rfl ?_|refine Ws ?_|refine Wv rfl rfl ?_)
    refine CT.done () ?_ (fun w ho => ho.ent)
    have h1 : ¬ c.parents = d.parents := by simpa using h1
    simp [packed, key, h1]
end Ab
end Go.Proofs.YtdgeffphifgflaaGreat

/- Contracts: the document's List, the laws' Few. -/
namespace Go.Proofs.YtdgeffphifgflaaGreat
namespace Ab
open Go Go.RowKit
set_option linter.unusedVariables false
set_option linter.unusedSimpArgs false
set_option synthInstance.maxSize 4000
set_option synthInstance.maxHeartbeats 400000
attribute [local irreducible] JC JO JR JQ andThen inBlock OpV Gives retTo JM JS

theorem list_ref (w : World) (F : Nat → Prop) (a b : Option Addr) (c k : Nat) (L M : List Commit) (h : (sl a c L).holds F w) (h' : (sl b k M).holds F w) :
    GivesV Tryz.prog 19 [.slice a L.length c, .slice b M.length k] w F (.bool (decide (L = M))) := by
  have hL : L.length < 9223372036854775807 := by have := h.2.2.1; simp only [lim] at this; omega
  refine gives_of Tryz.func19 rfl Tryz.ntmps19 rfl rfl [.st (sl a c L), .st (sl b k M)] (.start2 h h') ?_
  repeat (first|refine Wa ?_|refine Wb ?_|refine Wc ?_|refine Wd ?_|refine We rfl ?_|refine Wf (by first|exact Va|exact Vb|exact Vf|exact Vm) rfl ?_)
  refine JC.test (fun hne => ?_) (fun he => ?_)
  · repeat (first|refine Wa ?_|refine Wb ?_|refine Wc ?_|refine Wd ?_|refine We rfl ?_|refine Wf (by exact Vb) rfl ?_|refine Ws ?_|refine Wt ?_)
    refine CT.done () ?_ (fun w ho => ho.ent)
    have : ¬ L = M := fun h => hne (by rw [h])
    simp [packed, this]
  · have hlen : L.length = M.length := by omega
    repeat (first|refine Wa ?_|refine Wb ?_|refine Wc ?_|refine Wd ?_|refine We rfl ?_|refine Wf (by exact Vb) rfl ?_|refine Wl ?_|refine Wn ?_)
    refine JC.loop1 (fun k0 : Nat => [(0, .slice a L.length c), (1, .slice b M.length k), (5, .int .i64 (k0 : Int))]) (fun _ => [.st (sl a c L), .st (sl b k M)])
      (fun k0 => k0 ≤ L.length ∧ L.take k0 = M.take k0) (fun k0 => L.length - k0) 0 ⟨Nat.zero_le _, rfl⟩ inferInstance ?_
    intro k0 ⟨hk, heq⟩
    repeat (first|refine Wa ?_|refine Wb ?_|refine Wc ?_|refine Wd ?_|refine We rfl ?_|refine Wf (by first|exact Va|exact Vf|exact Vg) rfl ?_)
    refine JC.test (fun hlt => ?_) (fun hge => ?_)
    · have hlt' : k0 < L.length := by omega
      repeat (first|refine Wa ?_|refine Wb ?_|refine Wl ?_|refine Wn ?_)
      refine JC.openCommit (.slice a L.length c) k0 hlt' ?_
      intro b1 o1 p1 q1
      refine JC.openCommit (.slice b M.length k) k0 (by omega) ?_
      intro b2 o2 p2 q2
      refine JC.quiet mixed (by kernel_rfl) ?_
      repeat (refine Wy rfl (by first|exact Va|exact Vc|exact Ve) rfl ?_)
      refine JQ.call rfl rfl (fun w1 hw => same_ref w1 _ L[k0] (M[k0]'(by omega)) p1 p2 q1 q2 hw.get hw.get) ?_
      repeat (first|refine Wy rfl (by exact Vb) rfl ?_|refine WB ?_)
      repeat (first|refine Wa ?_|refine Wb ?_|refine Wc ?_|refine Wd ?_|refine We rfl ?_|refine Wf (by first|exact Va|exact Vh) rfl ?_)
      refine JC.test (fun hne => ?_) (fun heq2 => ?_)
      · repeat (first|refine Wa ?_|refine Wb ?_|refine Wc ?_|refine Wd ?_|refine We rfl ?_|refine Wf (by exact Vb) rfl ?_|refine Ws ?_|refine Wt ?_|refine Wu ?_)
        refine CT.done () ?_ (fun w ho => ho.ent)
        have : ¬ L = M := fun h => by subst h; simp at hne
        simp [packed, this]
      · repeat (first|refine Wa ?_|refine Wc ?_|refine Wd ?_|refine We rfl ?_|refine Wf (by first|exact Va|exact Vb|exact Vk (by omega)) rfl ?_|refine Wl ?_|refine Wr ?_)
        refine ⟨k0 + 1, ⟨by omega, ?_⟩, by omega, inferInstance⟩
        have heq2 : L[k0] = M[k0] := by simpa using heq2
        rw [List.take_succ_eq_append_getElem hlt', List.take_succ_eq_append_getElem (by omega), heq, heq2]
    · have hk0 : k0 = L.length := by omega
      repeat (first|refine Wa ?_|refine Wb ?_|refine Wc ?_|refine Wd ?_|refine We rfl ?_|refine Wf (by exact Vb) rfl ?_|refine Wm ?_|refine Wo ?_|refine Wp ?_|refine Ws ?_)
      refine CT.done () ?_ (fun w ho => ho.ent)
      have : L = M := by
        rw [List.take_of_length_le (by omega), List.take_of_length_le (by omega)] at heq
        exact heq
      simp [packed, this]

/-- At most 20 parents, and texts of at most 100 bytes. -/
def fewC (c : Commit) : Bool := decide (c.parents.length ≤ 20) && decide (c.op.key.size ≤ 100) && decide (c.op.elem.size ≤ 100)
theorem few_one (w : World) (F : Nat → Prop) (c : Commit) (a : Option Addr) (k : Nat) : GivesV Tryz.prog 14 [commitV c a k] w F (.bool (fewC c)) := by
  refine gives_of Tryz.func14 rfl Tryz.ntmps14 rfl rfl [] (.start w F) ?_
  repeat (first|refine Wa ?_|refine Wb ?_|refine Wc ?_|refine Wd ?_|refine We rfl ?_|refine Wf (by first|exact Va|exact Vb|exact Vc|exact Vd|exact Vf|exact Vn) rfl ?_|(refine Wh rfl ?_; intro _))
  refine JO.test 7 (fun h1 => ?_) (fun h1 => ?_)
  · repeat (first|refine We rfl ?_|refine Wf (by first|exact Va|exact Vc|exact Vd|exact Vi|exact Vn|exact Vw) rfl ?_)
    refine JO.test 14 (fun h2 => ?_) (fun h2 => ?_)
    · repeat (first|refine Wa ?_|refine Wd ?_|refine We rfl ?_|refine Wf (by first|exact Vb|exact Vc|exact Vd|exact Vi|exact Vn|exact Vw) rfl ?_|refine Ws ?_)
      refine CT.done () ?_ (fun w ho => ho.ent)
      have h1 : c.parents.length ≤ 20 := by omega
      have h2 : c.op.key.size ≤ 100 := by omega
      have h3 : ((c.op.elem.size : Int) ≤ 100) ↔ c.op.elem.size ≤ 100 := by omega
      simp [packed, fewC, h1, h2, h3]
    · repeat (first|refine Wa ?_|refine Wd ?_|refine We rfl ?_|refine Wf (by first|exact Vb|exact Vj) rfl ?_|refine Ws ?_|refine Wv rfl rfl ?_)
      refine CT.done () ?_ (fun w ho => ho.ent)
      have h2 : ¬ c.op.key.size ≤ 100 := by omega
      simp [packed, fewC, h2]
  · repeat (first|refine Wa ?_|refine Wd ?_|refine We rfl ?_|refine Wf (by first|exact Va|exact Vb|exact Vj) rfl ?_|refine Ws ?_|refine Wv rfl rfl ?_)
    refine CT.done () ?_ (fun w ho => ho.ent)
    have h1 : ¬ c.parents.length ≤ 20 := by omega
    simp [packed, fewC, h1]

def fewL (L : List Commit) (m : Nat) : Bool := decide (L.length ≤ m) && L.all fewC
theorem few_all (w : World) (F : Nat → Prop) (a : Option Addr) (c : Nat) (L : List Commit) (m : Nat) (h : (sl a c L).holds F w) :
    GivesV Tryz.prog 24 [.slice a L.length c, .int .i64 (m : Int)] w F (.bool (fewL L m)) := by
  have hL : L.length < 9223372036854775807 := by have := h.2.2.1; simp only [lim] at this; omega
  refine gives_of Tryz.func24 rfl Tryz.ntmps24 rfl rfl [.st (sl a c L)] (.start1 h) ?_
  repeat (first|refine Wa ?_|refine Wb ?_|refine Wc ?_|refine Wd ?_|refine We rfl ?_|refine Wf (by first|exact Va|exact Vb|exact Vf|exact Vo) rfl ?_)
  refine JC.test (fun h1 => ?_) (fun h1 => ?_)
  · repeat (first|refine Wa ?_|refine Wb ?_|refine Wc ?_|refine Wd ?_|refine We rfl ?_|refine Wf (by exact Vb) rfl ?_|refine Ws ?_|refine Wt ?_)
    refine CT.done () ?_ (fun w ho => ho.ent)
    have h1 : ¬ L.length ≤ m := by omega
    simp [packed, fewL, h1]
  · have h1 : L.length ≤ m := by omega
    repeat (first|refine Wa ?_|refine Wb ?_|refine Wc ?_|refine Wd ?_|refine We rfl ?_|refine Wf (by exact Vb) rfl ?_|refine Wl ?_|refine Wn ?_)
    refine JC.loop1 (fun k0 : Nat => [(0, .slice a L.length c), (5, .int .i64 (k0 : Int))]) (fun _ => [.st (sl a c L)])
      (fun k0 => k0 ≤ L.length ∧ (L.take k0).all fewC = true) (fun k0 => L.length - k0) 0 ⟨Nat.zero_le _, rfl⟩ inferInstance ?_
    intro k0 ⟨hk, heq⟩
    repeat (first|refine Wa ?_|refine Wb ?_|refine Wc ?_|refine Wd ?_|refine We rfl ?_|refine Wf (by first|exact Va|exact Vf|exact Vg) rfl ?_)
    refine JC.test (fun hlt => ?_) (fun hge => ?_)
    · have hlt' : k0 < L.length := by omega
      repeat (first|refine Wa ?_|refine Wb ?_|refine Wc ?_|refine We rfl ?_|refine Wf (by exact Va) rfl ?_|refine Wl ?_|refine Wn ?_)
      refine JR.indexCommit rfl hlt' ?_
      intro b1 o1 p1 q1
      repeat (first|refine We rfl ?_|refine Wf (by exact Vc) rfl ?_)
      refine JR.callV rfl (fun w1 hw => few_one w1 _ L[k0] p1 q1) ?_
      repeat (first|refine Wa ?_|refine Wb ?_|refine Wc ?_|refine Wd ?_|refine We rfl ?_|refine Wf (by first|exact Va|exact Vb|exact Vh) rfl ?_)
      refine JC.test (fun hne => ?_) (fun heq2 => ?_)
      · repeat (first|refine Wa ?_|refine Wb ?_|refine Wc ?_|refine Wd ?_|refine We rfl ?_|refine Wf (by exact Vb) rfl ?_|refine Ws ?_|refine Wt ?_|refine Wu ?_)
        refine CT.done () ?_ (fun w ho => ho.ent)
        have h3 : L.all fewC = false := by
          rw [← Bool.not_eq_true]
          intro h4
          exact hne (List.all_eq_true.1 h4 _ (List.getElem_mem hlt'))
        simp only [packed, fewL, h3, Bool.and_false]
      · repeat (first|refine Wa ?_|refine Wc ?_|refine Wd ?_|refine We rfl ?_|refine Wf (by first|exact Va|exact Vb|exact Vk (by omega)) rfl ?_|refine Wl ?_|refine Wr ?_)
        refine ⟨k0 + 1, ⟨by omega, ?_⟩, by omega, inferInstance⟩
        have heq2 : fewC L[k0] = true := by simpa using heq2
        rw [List.take_succ_eq_append_getElem hlt', List.all_append, heq]
        simp [heq2]
    · have hk0 : k0 = L.length := by omega
      subst hk0
      rw [List.take_length] at heq
      repeat (first|refine Wa ?_|refine Wb ?_|refine Wc ?_|refine Wd ?_|refine We rfl ?_|refine Wf (by exact Vb) rfl ?_|refine Wm ?_|refine Wo ?_|refine Wp ?_|refine Ws ?_)
      refine CT.done () ?_ (fun w ho => ho.ent)
      simp only [packed, fewL, heq, h1, decide_true, Bool.and_self]
end Ab
end Go.Proofs.YtdgeffphifgflaaGreat

/- Contracts of dag.Ids, own, Find. -/
namespace Go.Proofs.YtdgeffphifgflaaGreat
namespace Ab
open Go Go.RowKit
set_option linter.unusedVariables false
set_option linter.unusedSimpArgs false
set_option synthInstance.maxSize 4000
set_option synthInstance.maxHeartbeats 400000
attribute [local irreducible] JC JO JR JQ andThen inBlock OpV Gives retTo JM JS

attribute [local irreducible] hashC
theorem hash_err (c : Commit) : ((hashC c).2 = 0) ↔ may c = true := by
  unfold hashC; cases may c <;> simp
/-- Commits' ids as told: none, if one may not be. -/
def idsP (L : List Commit) : List ID := if L.all may then cids L else []
theorem idsP_all {L : List Commit} (h : ∀ c ∈ L, may c = true) : idsP L = cids L := by
  rw [idsP, if_pos (List.all_eq_true.2 h)]
theorem idsP_not {L : List Commit} {c : Commit} (hc : c ∈ L) (h : may c = false) : idsP L = [] := by
  rw [idsP, if_neg]
  intro h'
  have := List.all_eq_true.1 h' c hc
  rw [h] at this; cases this
theorem cids_take_next {L : List Commit} {i : Nat} (h : i < L.length) : cids (L.take (i + 1)) = cids (L.take i) ++ [idC L[i]] := by
  rw [List.take_succ_eq_append_getElem h, cids_append]; rfl
set_option maxHeartbeats 1000000 in
theorem ids_dag (w : World) (F : Nat → Prop) (a : Option Addr) (k : Nat) (L : List Commit) (h : (sl a k L).holds F w) (hl : L.length < 34359738368) (hf : ∀ x ∈ L, fine x) :
    GivesSl Tryz.prog 43 [.slice a L.length k] w F (idsP L) := by
  refine gives_of Tryz.func43 rfl Tryz.ntmps43 rfl rfl [.st (sl a k L)] (.start1 h) ?_
  repeat (first|refine Wa ?_|refine Wb ?_|refine Wc ?_|refine Wd ?_|refine We rfl ?_|refine Wf (by first|exact Va|exact Vb|exact Vf) rfl ?_|refine Wn ?_)
  refine JC.buf_nil (α := ID) 81 ?_
  refine JC.loop3 (fun (i : Nat) p q => [(3, .slice p (cids (L.take i)).length q), (8, .slice a L.length k), (9, .int .i64 (L.length : Int)), (10, .int .i64 (i : Int))])
    (fun i p q => [.res (buf p q 81 (cids (L.take i))), .st (sl a k L)])
    (fun i _ _ => i ≤ L.length ∧ ∀ c ∈ L.take i, may c = true) (fun i _ _ => L.length - i) 0 none 0 ⟨Nat.zero_le _, by simp⟩ (by rw [List.take_zero, show cids [] = [] from rfl]; infer_instance) ?_
  intro i p q ⟨hi, hm⟩
  repeat (first|refine Wa ?_|refine Wb ?_|refine Wc ?_|refine Wd ?_|refine We rfl ?_|refine Wf (by exact Vg) rfl ?_)
  refine JC.test (fun hlt => ?_) (fun hge => ?_)
  · have hlt' : i < L.length := by omega
    have hfx := hf _ (List.getElem_mem hlt')
    repeat (first|refine Wa ?_|refine Wb ?_|refine Wc ?_|refine We rfl ?_|refine Wl ?_|refine Wn ?_)
    refine JR.indexCommit rfl hlt' ?_
    intro b1 o1 p1 q1
    repeat (first|refine Wa ?_|refine Wb ?_|refine Wc ?_|refine Wd ?_|refine We rfl ?_|refine Wf (by exact Vc) rfl ?_|(refine Wg rfl ?_; intro _)|refine Wi ?_)
    refine JR.callV rfl (fun w1 hw => hash_commit w1 _ (L[i]) p1 q1 hw.get hfx.1) ?_
    repeat (first|refine Wa ?_|refine Wb ?_|refine Wc ?_|refine Wd ?_|refine We rfl ?_|refine Wf (by first|exact Va|exact Vb|exact Vm|exact Vq) rfl ?_|(refine Wg rfl ?_; intro _)|refine Wi ?_)
    refine JC.test (fun h0 => ?_) (fun h0 => ?_)
    · have hmay : may L[i] = false := by
        rw [← Bool.not_eq_true, ← hash_err]; exact h0
      repeat (first|refine Wa ?_|refine Wb ?_|refine Wc ?_|refine Wd ?_|refine We rfl ?_|refine Wf (by exact Vb) rfl ?_|refine Ws ?_|refine Wt ?_|refine Wu ?_)
      rw [idsP_not (List.getElem_mem hlt') hmay]
      exact CT.done (none, 0) rfl (fun w ho => (ho.ent : Hold _ _ [.st (sl a k L)] w).tail.add sl_nil)
    · have hmay : may L[i] = true := (hash_err _).1 (by simpa using h0)
      have h1 : (cids (L.take i)).length ≤ i := by simp [cids]; omega
      repeat (first|refine Wa ?_|refine Wc ?_|refine We rfl ?_|refine Wf (by first|exact Va|exact Vc) rfl ?_|refine Wl ?_|(refine Ww rfl ⟨rfl, by decide, by decide, by decide⟩ ?_; intro _))
      refine JR.append1 (u := idC L[i]) rfl (by exact ⟨rfl, rfl, by decide⟩) (by omega) ?_
      intro r s
      repeat (first|refine Wa ?_|refine Wc ?_|refine Wd ?_|refine We rfl ?_|refine Wf (by first|exact Va|exact Vb|exact Vk (by omega)) rfl ?_|refine Wr ?_)
      refine ⟨i + 1, r, s, ⟨by omega, fun c hc => ?_⟩, by omega, by rw [cids_take_next hlt']; infer_instance⟩
      rw [List.take_succ_eq_append_getElem hlt', List.mem_append, List.mem_singleton] at hc
      rcases hc with hc | rfl
      · exact hm c hc
      · exact hmay
  · obtain rfl : i = L.length := by omega
    rw [List.take_length] at hm ⊢
    refine JC.more (fun w1 ho => ho.pub) ?_
    repeat (first|refine Wa ?_|refine Wb ?_|refine Wc ?_|refine Wd ?_|refine We rfl ?_|refine Wf (by first|exact Va|exact Vb) rfl ?_|refine Wm ?_|refine Wo ?_|refine Wp ?_|refine Ws ?_)
    rw [idsP_all hm]
    exact CT.done (p, q) rfl (fun w ho => (ho.ent : Hold _ _ [.st (sl p q (cids L))] w))

theorem own_dag (w : World) (F : Nat → Prop) (c : Commit) (a : Option Addr) (k : Nat) (h : (sl a k c.parents).holds F w) (hp : c.parents.length ≤ 34359738368) :
    Gives Tryz.prog 74 [commitV c a k] w F (fun y : Option Addr × Nat => commitV c y.1 y.2) (fun y => [.st (sl y.1 y.2 c.parents)]) := by
  refine gives_of Tryz.func74 rfl Tryz.ntmps74 rfl rfl [.st (sl a k c.parents)] (.start1 h) ?_
  repeat (first|refine Wa ?_|refine Wb ?_|refine Wc ?_|refine Wd ?_|refine We rfl ?_|refine Wf (by first|exact Vc|exact Vd) rfl ?_|(refine Wg rfl ?_; intro _)|(refine Wh rfl ?_; intro _))
  refine JR.callBuf rfl (fun w1 hw => clone_ids_buf w1 _ a k c.parents hw.get hp) ?_
  intro p q
  refine JO.more (fun w1 ho => ho.pub) ?_
  repeat (first|refine Wa ?_|refine Wb ?_|refine Wc ?_|refine Wd ?_|refine We rfl ?_|refine Wf (by first|exact Vc|exact Vd) rfl ?_|refine Wi ?_|refine Ws ?_)
  exact CT.done (p, q) rfl (fun w ho => ho.ent)
/-- The first commit of an id. -/
def findC (L : List Commit) (x : ID) : Option Commit := L.find? (fun c => decide (hashO c = some x))
def findR (L : List Commit) (x : ID) : Commit × Bool := match findC L x with | some c => (c, true) | none => (commit0, false)
end Ab
end Go.Proofs.YtdgeffphifgflaaGreat

/- An element of an array that is read, wherever it lies. Program-independent. -/
namespace Go.Proofs.YtdgeffphifgflaaGreat
namespace Ab
open Go Go.RowKit
set_option linter.unusedVariables false
set_option linter.unusedSimpArgs false
end Ab
end Go.Proofs.YtdgeffphifgflaaGreat

/- Contracts: ids.Sort. -/
namespace Go.Proofs.YtdgeffphifgflaaGreat
namespace Ab
open Go Go.RowKit
set_option linter.unusedVariables false
set_option linter.unusedSimpArgs false
set_option synthInstance.maxSize 4000
set_option synthInstance.maxHeartbeats 400000
attribute [local irreducible] JC JO JR JQ andThen inBlock OpV Gives retTo JM JS

end Ab
end Go.Proofs.YtdgeffphifgflaaGreat

/- dag's graph as two maps; contract of its add. -/
namespace Go.Proofs.YtdgeffphifgflaaGreat
namespace Ab
open Go Go.RowKit
set_option linter.unusedVariables false
set_option linter.unusedSimpArgs false
set_option synthInstance.maxSize 4000
set_option synthInstance.maxHeartbeats 400000
attribute [local irreducible] JC JO JR JQ andThen inBlock OpV Gives retTo JM JS

attribute [local irreducible] ents hashC
/-- A row of a graph: a commit, what it knows, and where its parents and its set lie. -/
abbrev Row := (Commit × List ID) × (Option Addr × Nat × Nat)
def ofM (R : List Row) : List (ID × Value) := R.map fun r => (idC r.1.1, commitV r.1.1 r.2.1 r.2.2.1)
def knM (R : List Row) : List (ID × Value) := R.map fun r => (idC r.1.1, .map (some r.2.2.2))
def grOf (R : List Row) : List (Commit × List ID) := R.map (·.1)
def rowA (r : Row) : List Asn := [sl r.2.1 r.2.2.1 r.1.1.parents, rmap r.2.2.2 (ents idV (sety r.1.2)) r.1.2.length]
/-- What the rows' commits and sets are. -/
def graphA (R : List Row) : Asn where
  holds F w := ∀ r ∈ R, ∀ A ∈ rowA r, A.holds F w
  mono F G w h hh := fun r hr A hA => A.mono F G w h (hh r hr A hA)
  frame F w w' hk h := fun r hr A hA => A.frame F w w' hk (h r hr A hA)
  within F w h := fun r hr A hA => A.within F w (h r hr A hA)
theorem nodes_gr (R : List Row) : nodes (grOf R) = R.map (·.1.1) := by simp [nodes, grOf]
theorem ids_gr (R : List Row) : cids (nodes (grOf R)) = R.map (fun r => idC r.1.1) := by simp [nodes_gr, cids]
theorem ofM_keys (R : List Row) : (ofM R).map (·.1) = cids (nodes (grOf R)) := by simp [ids_gr, ofM]
theorem knM_keys (R : List Row) : (knM R).map (·.1) = cids (nodes (grOf R)) := by simp [ids_gr, knM]
theorem row_of {R : List Row} {p : ID} (hn : (cids (nodes (grOf R))).Nodup) (hp : p ∈ cids (nodes (grOf R))) :
    ∃ r ∈ R, idC r.1.1 = p ∧ gotten (ofM R) p = some (commitV r.1.1 r.2.1 r.2.2.1) ∧ gotten (knM R) p = some (.map (some r.2.2.2)) ∧ knownBy (grOf R) p = r.1.2 := by
  rw [ids_gr] at hp
  obtain ⟨r, hr, he⟩ := List.mem_map.1 hp
  cases hf : R.find? (fun r => decide (idC r.1.1 = p)) with
  | none => exact absurd (List.find?_eq_none.1 hf r hr) (by simpa using he)
  | some q =>
    have h1 := List.find?_some hf
    have h1' : idC q.1.1 = p := by simpa using h1
    have h2 := List.mem_of_find?_eq_some hf
    refine ⟨q, h2, h1', ?_, ?_, ?_⟩
    · simp only [gotten, ofM, List.find?_map, Function.comp_def]
      rw [hf]; rfl
    · simp only [gotten, knM, List.find?_map, Function.comp_def]
      rw [hf]; rfl
    · have := knownBy_of (G := grOf R) hn (g := q.1) (List.mem_map.2 ⟨q, h2, rfl⟩)
      rw [← h1']; exact this
theorem row_none {R : List Row} {p : ID} (hp : p ∉ cids (nodes (grOf R))) : gotten (ofM R) p = none ∧ gotten (knM R) p = none := by
  rw [ids_gr] at hp
  have hf : R.find? (fun r => decide (idC r.1.1 = p)) = none := by
    rw [List.find?_eq_none]
    intro r hr h
    exact hp (List.mem_map.2 ⟨r, hr, by simpa using h⟩)
  constructor
  · simp only [gotten, ofM, List.find?_map, Function.comp_def]
    rw [hf]; rfl
  · simp only [gotten, knM, List.find?_map, Function.comp_def]
    rw [hf]; rfl
theorem upd_new {K : Type} [DecidableEq K] {M : List (K × Value)} {k : K} (v : Value) (h : k ∉ M.map (·.1)) : upd M k v = M ++ [(k, v)] := by
  have : plc M k = none := by
    simp only [plc, List.findIdx?_eq_none_iff, decide_eq_false_iff_not]
    intro p hp e
    exact h (List.mem_map.2 ⟨p, hp, e⟩)
  simp [upd, this]
theorem mem_take_succ {α : Type} {L : List α} {i : Nat} (h : i < L.length) {x : α} : x ∈ L.take (i + 1) ↔ x ∈ L.take i ∨ x = L[i] := by
  rw [List.take_succ_eq_append_getElem h, List.mem_append, List.mem_singleton]
theorem maxGen_snoc (L : List Commit) (ps : List ID) (p : ID) : maxGen L (ps ++ [p]) = max (maxGen L ps) (genAt L p) := by simp [maxGen]
theorem not_ok_of_none {G : List (Commit × List ID)} {c : Commit} {p : ID} (hp : p ∈ c.parents) (h : p ∉ cids (nodes G)) : addOk G c = false := by
  rw [← Bool.not_eq_true, addOk_iff]; exact fun h' => h (h'.1 p hp)
theorem not_ok_of_known {G : List (Commit × List ID)} {c : Commit} {p q : ID} (hp : p ∈ c.parents) (hq : q ∈ c.parents) (h : p ∈ knownBy G q) : addOk G c = false := by
  rw [← Bool.not_eq_true, addOk_iff]; exact fun h' => h'.2 p hp q hq h
theorem graph_row {R : List Row} {F : Nat → Prop} {w : World} (h : (graphA R).holds F w) {r : Row} (hr : r ∈ R) : (sl r.2.1 r.2.2.1 r.1.1.parents).holds F w ∧ (rmap r.2.2.2 (ents idV (sety r.1.2)) r.1.2.length).holds F w :=
  ⟨h r hr _ (by simp [rowA]), h r hr _ (by simp [rowA])⟩
theorem graph_snoc {R : List Row} {F : Nat → Prop} {w : World} (h : (graphA R).holds F w) {c : Commit} {S : List ID} {a : Option Addr} {k b : Nat} (h1 : (sl a k c.parents).holds F w) (h2 : (rmap b (ents idV (sety S)) S.length).holds F w) :
    (graphA (R ++ [((c, S), (a, k, b))])).holds F w := by
  intro r hr A hA
  rcases List.mem_append.1 hr with hr | hr
  · exact h r hr A hA
  · simp only [List.mem_singleton] at hr
    subst hr
    simp only [rowA, List.mem_cons, List.not_mem_nil, or_false] at hA
    rcases hA with rfl | rfl
    · exact h1
    · exact h2
theorem graph_nil {F : Nat → Prop} {w : World} : (graphA []).holds F w := fun r hr => by cases hr
theorem ofM_snoc (R : List Row) (c : Commit) (S : List ID) (a : Option Addr) (k b : Nat) : ofM (R ++ [((c, S), (a, k, b))]) = ofM R ++ [(idC c, commitV c a k)] := by simp [ofM]
theorem knM_snoc (R : List Row) (c : Commit) (S : List ID) (a : Option Addr) (k b : Nat) : knM (R ++ [((c, S), (a, k, b))]) = knM R ++ [(idC c, .map (some b))] := by simp [knM]
theorem grOf_snoc (R : List Row) (c : Commit) (S : List ID) (a : Option Addr) (k b : Nat) : grOf (R ++ [((c, S), (a, k, b))]) = grOf R ++ [(c, S)] := by simp [grOf]
end Ab
end Go.Proofs.YtdgeffphifgflaaGreat

/- A region whose order is open, in which some operations write what the call owns, and others read what these leave: the latter may be taken first. Program-independent. -/
namespace Go.Proofs.YtdgeffphifgflaaGreat
namespace Ab
open Go Go.RowKit
set_option linter.unusedVariables false
set_option linter.unusedSimpArgs false
section
variable {P : Program} {ops : Array Oper} {C : World → Prop} {R : Exit → Act → World → Prop} [Dr]

/-- One operation, which keeps what C tells. -/
def cOp (P : Program) (ops : Array Oper) (C : World → Prop) (i : Nat) (K : Act → World → Prop) (a : Act) (w : World) : Prop :=
  match ops[i]? with
  | none => K a w
  | some o => if Region.wanted o (yielded ops a.tmps) then o.wp P a w (fun a' w' => (C w → C w') ∧ K a' w') noExit else K (a.put o.dst undef) w

/-- Whatever order: all operations keep what C tells. -/
def cAny (P : Program) (ops : Array Oper) (C : World → Prop) (R : Exit → Act → World → Prop) : Nat → Array Bool → Act → World → Prop
  | 0, listed, a, w => Region.ready .any ops listed = [] ∧ R .normal a w
  | fuel + 1, listed, a, w => (Region.ready .any ops listed = [] → R .normal a w) ∧ ∀ i ∈ Region.ready .any ops listed, cOp P ops C i (cAny P ops C R fuel (listed.setIfInBounds i true)) a w

end
section
variable {P : Program} {ops : Array Oper} {C : World → Prop} {R : Exit → Act → World → Prop}
theorem cOp_wp {i : Nat} {K K' : Act → World → Prop} {a : Act} {w : World} (hk : ∀ a w, K a w → K' a w) (h : cOp P ops C i K a w) : wpOp P ops R i K' a w := by
  unfold cOp at h
  unfold wpOp
  split
  · rename_i ho; simp only [ho] at h; exact hk _ _ h
  · rename_i o ho
    simp only [ho] at h
    split
    · rename_i hw; simp only [hw, if_true] at h; exact .inl (noExit_wp (fun a w h => hk a w h.2) h)
    · rename_i hw; simp only [hw] at h; exact hk _ _ h
end
section
variable {P : Program} {ops : Array Oper} {C : World → Prop} {R : Exit → Act → World → Prop} [Dr]

end
section
variable {P : Program} {ops : Array Oper} {C : World → Prop} {R : Exit → Act → World → Prop}
theorem cAny_wp : ∀ (fuel : Nat) (listed : Array Bool) (a : Act) (w : World), cAny P ops C R fuel listed a w → wpAny P .any ops R fuel listed a w
  | 0, _, _, _, h => h
  | fuel + 1, listed, a, w, h => ⟨h.1, fun i hi => cOp_wp (fun a w => cAny_wp fuel _ a w) (h.2 i hi)⟩
end
section
variable {P : Program} {ops : Array Oper} {C : World → Prop} {R : Exit → Act → World → Prop} [Dr]

/-- The operation gives v and leaves all as it is, in every world of the class. -/
def GivesC (P : Program) (ops : Array Oper) (C : World → Prop) (o : Oper) (v : Value) (a : Act) : Prop :=
  Region.wanted o (yielded ops a.tmps) = true ∧ ∀ w, C w → (execOp a.eval o).run P w = .ok (.value v) w

end
section
variable {P : Program} {ops : Array Oper} {C : World → Prop} {R : Exit → Act → World → Prop}
theorem GivesC.cOp {i : Nat} {o : Oper} {v : Value} {a : Act} (hi : ops[i]? = some o) (hy : GivesC P ops C o v a) {K : Act → World → Prop} {w : World} (hC : C w) (h : K (a.put o.dst v) w) : cOp P ops C i K a w := by
  unfold Ab.cOp
  simp only [hi]
  obtain ⟨hw, hv⟩ := hy
  simp only [hw, if_true]
  unfold Oper.wp
  rw [hv w hC]
  exact ⟨fun h => h, h⟩
end
section
variable {P : Program} {ops : Array Oper} {C : World → Prop} {R : Exit → Act → World → Prop} [Dr]

end
section
variable {P : Program} {ops : Array Oper} {C : World → Prop} {R : Exit → Act → World → Prop}
theorem GivesC.same {o : Oper} {v : Value} {a a' : Act} (hy : GivesC P ops C o v a) (he : execOp a'.eval o = execOp a.eval o)
    (hw : Region.wanted o (yielded ops a'.tmps) = Region.wanted o (yielded ops a.tmps)) : GivesC P ops C o v a' := by
  unfold GivesC at *
  rw [he, hw]
  exact hy
end
section
variable {P : Program} {ops : Array Oper} {C : World → Prop} {R : Exit → Act → World → Prop} [Dr]

end
section
variable {P : Program} {ops : Array Oper} {C : World → Prop} {R : Exit → Act → World → Prop}
theorem cOp_put {j : Nat} {oi oj : Oper} {v : Value} (hj : ops[j]? = some oj) (hap : oi.apart ops oj = true)
    (hsi : ∀ cs b, oi.op ≠ .select cs b) (hsj : ∀ cs b, oj.op ≠ .select cs b) {K : Act → World → Prop} {a : Act} {w : World}
    (hw0 : C w) (hy : GivesC P ops C oi v a) (h : cOp P ops C j K (a.put oi.dst v) w) :
    cOp P ops C j (fun a' w' => (C w' ∧ GivesC P ops C oi v a') ∧ K (a'.put oi.dst v) w') a w := by
  obtain ⟨h1, h2, h3⟩ := Oper.apart_spec hap
  have keep : ∀ u, GivesC P ops C oi v (a.put oj.dst u) := fun u => hy.same (execOp_put oi hsi a oj.dst u h3) (wanted_put oi a oj.dst u h3)
  unfold cOp at *
  simp only [hj] at *
  rw [wanted_put oj a oi.dst v h1] at h
  split
  · rename_i hw
    simp only [hw, if_true] at h
    unfold Oper.wp at *
    rw [execOp_put oj hsj a oi.dst v h1] at h
    generalize (execOp a.eval oj).run P w = r at *
    have put : ∀ u w', ((C w → C w') ∧ K ((a.put oi.dst v).put oj.dst u) w') → ((C w → C w') ∧ (C w' ∧ GivesC P ops C oi v (a.put oj.dst u)) ∧ K ((a.put oj.dst u).put oi.dst v) w') :=
      fun u w' hh => ⟨hh.1, ⟨hh.1 hw0, keep u⟩, by rw [← Act.put_comm a v u h2]; exact hh.2⟩
    cases r with
    | ok n w' =>
      cases n <;> simp only [Oper.upon] at h ⊢
      case value u => exact put u _ h
      case skip => exact put undef _ h
      case defer d =>
        have hd : GivesC P ops C oi v ({ a with defers := d :: a.defers } : Act) := hy.same rfl rfl
        refine ⟨h.1, ⟨h.1 hw0, hd.same (execOp_put oi hsi _ oj.dst undef h3) (wanted_put oi _ oj.dst undef h3)⟩, ?_⟩
        rw [← Act.put_comm _ v undef h2, ← Act.put_defers]
        exact h.2
      case enter f args =>
        refine Calls.mono h fun e w'' he => ?_
        cases e with
        | returned u => exact put u _ he
        | panicked c => exact he
        | outgrown => exact he
      case row row args => exact Rows.mono h fun u w'' he => put u _ he
    | halt x w' =>
      cases x <;> simp only [Oper.upon] at h ⊢
      case panic u => exact h
  · rename_i hw
    simp only [hw] at h
    exact ⟨⟨hw0, keep _⟩, by rw [← Act.put_comm a v undef h2]; exact h⟩
end
section
variable {P : Program} {ops : Array Oper} {C : World → Prop} {R : Exit → Act → World → Prop} [Dr]

end
section
variable {P : Program} {ops : Array Oper} {C : World → Prop} {R : Exit → Act → World → Prop}
theorem cOp_mono {i : Nat} {K K' : Act → World → Prop} {a : Act} {w : World} (hk : ∀ a w, K a w → K' a w) (h : cOp P ops C i K a w) : cOp P ops C i K' a w := by
  unfold cOp at *
  split
  · rename_i ho; simp only [ho] at h; exact hk _ _ h
  · rename_i o ho
    simp only [ho] at h
    split
    · rename_i hw; simp only [hw, if_true] at h; exact Oper.wp_mono (fun a w h => ⟨h.1, hk _ _ h.2⟩) h
    · rename_i hw; simp only [hw] at h; exact hk _ _ h
end
section
variable {P : Program} {ops : Array Oper} {C : World → Prop} {R : Exit → Act → World → Prop} [Dr]

end
section
variable {P : Program} {ops : Array Oper} {C : World → Prop} {R : Exit → Act → World → Prop}
theorem cAny_first {i : Nat} {oi : Oper} {v : Value} (hi : ops[i]? = some oi) (hsel : ∀ (j : Nat) (o : Oper) cs b, ops[j]? = some o → o.op ≠ .select cs b) :
    ∀ (fuel : Nat) (listed : Array Bool) (a : Act) (w : World),
      (∀ j oj, ops[j]? = some oj → j ≠ i → listed.getD j true = false → (∀ e ∈ oj.after, Region.binds .any e = true → e.on ≠ i) → oi.apart ops oj = true) →
      i ∈ Region.ready .any ops listed → C w → GivesC P ops C oi v a →
      cAny P ops C R fuel (listed.setIfInBounds i true) (a.put oi.dst v) w → cAny P ops C R (fuel + 1) listed a w := by
  intro fuel
  induction fuel with
  | zero =>
    intro listed a w _ hr hw hy H
    refine ⟨fun h => (by rw [h] at hr; cases hr), fun j hj => ?_⟩
    by_cases hji : j = i
    · subst hji; exact hy.cOp hi hw H
    · have := ready_mono hj hji
      rw [H.1] at this
      cases this
  | succ fuel ih =>
    intro listed a w hfree hr hw hy H
    refine ⟨fun h => (by rw [h] at hr; cases hr), fun j hj => ?_⟩
    by_cases hji : j = i
    · subst hji; exact hy.cOp hi hw H
    · have h1 := H.2 j (ready_mono hj hji)
      obtain ⟨hjun, oj, hoj, hall⟩ := mem_ready.1 hj
      have hnot : ∀ e ∈ oj.after, Region.binds .any e = true → e.on ≠ i := fun e he hb heq => by
        have h1 := hall e he hb
        have h0 := (mem_ready.1 hr).1
        rw [heq] at h1
        rcases Nat.lt_or_ge i listed.size with h' | h'
        · simp [h'] at h0 h1; rw [h0] at h1; cases h1
        · simp [Array.getElem?_eq_none h'] at h1
      have h2 := cOp_put hoj (hfree j oj hoj hji hjun hnot) (fun cs b => hsel i oi cs b hi) (fun cs b => hsel j oj cs b hoj) hw hy h1
      have hfree' : ∀ k ok, ops[k]? = some ok → k ≠ i → (listed.setIfInBounds j true).getD k true = false →
          (∀ e ∈ ok.after, Region.binds .any e = true → e.on ≠ i) → oi.apart ops ok = true := fun k ok hk hki hun hno => by
        refine hfree k ok hk hki ?_ hno
        by_cases hjk : j = k
        · subst hjk; exact hjun
        · rw [getD_set_ne true hjk] at hun; exact hun
      refine cOp_mono (fun a' w' h3 => ih (listed.setIfInBounds j true) a' w' hfree' (ready_mono hr (Ne.symm hji)) h3.1.1 h3.1.2 ?_) h2
      rw [Array.setIfInBounds_comm _ _ hji]
      exact h3.2
end
section
variable {P : Program} {ops : Array Oper} {C : World → Prop} {R : Exit → Act → World → Prop} [Dr]
end

/-- The judgement: as JM, but what all operations keep is told by the facts Δ. -/
def JN [Dr] (P : Program) (n : Nn) (w0 : World) (F : Nat → Prop) (ops : List Oper) (Δ : List Fact) (fuel : Nat) (done : List Bool) (Q : Cont) (e : E) (Γ : List Fact) : Prop :=
  ∀ a w, Fr n e a → Hold w0 F Γ w → cAny P ⟨ops⟩ (Hold w0 F Δ) (up n w0 F Q) fuel ⟨done⟩ a w
section
variable {P : Program} {n : Nn} {w0 : World} {F : Nat → Prop} {ops : List Oper} {Δ : List Fact} {fuel i d : Nat} {done done' : List Bool} {t : TypeId} {pos : String} {aft : Array Edge} {g : Option (Nat × Bool)} {Q : Cont} {e : E} {Γ : List Fact} [Dr]
theorem JC.drawN {id : Nat} (Δ : List Fact) (hm : P.follows .mixedOrders = true) (h : JN P n w0 F ops Δ ops.length (List.replicate ops.length false) Q e Γ) : JC P n w0 F (.region id ⟨ops⟩ true) Q e Γ := by
  intro a w fr ho
  refine wp_region_any hm ?_
  have := cAny_wp _ _ _ _ (h a w.drew fr ho.drew)
  have e1 : (⟨List.replicate ops.length false⟩ : Array Bool) = Array.replicate (⟨ops⟩ : Array Oper).size false := by apply Array.ext'; simp
  rw [← e1]
  exact this
theorem JN.nil (hr : Region.ready .any ⟨ops⟩ ⟨done⟩ = []) (h : Q .normal e Γ) : JN P n w0 F ops Δ fuel done Q e Γ := by
  intro a w fr ho
  cases fuel with
  | zero => exact ⟨hr, e, Γ, h, fr, ho⟩
  | succ fuel => exact ⟨fun _ => ⟨e, Γ, h, fr, ho⟩, by rw [hr]; simp⟩
def takeOkN (ops : List Oper) (done : List Bool) (i : Nat) : Bool :=
  Region.noSelect ⟨ops⟩ && Region.free .any ⟨ops⟩ ⟨done⟩ i && (Region.ready .any ⟨ops⟩ ⟨done⟩).contains i
/-- A quiet operation, whose value what all keep tells, is taken first. -/
theorem JN.take {op : Op} {v : Value} (i : Nat) (hi : ops[i]? = some ⟨some d, op, t, pos, aft, g⟩) (hok : takeOkN ops done i = true) (hg : gtest ops e g = some true) [hs : Sub Γ Δ] (h : OpV P n w0 F ⟨some d, op, t, pos, aft, g⟩ e Δ v) (hd : Nat.blt d n.s = true)
    (hdone : done.set i true = done') (k : JN P n w0 F ops Δ fuel done' Q ((d, v) :: e) Γ) : JN P n w0 F ops Δ (fuel + 1) done Q e Γ := by
  intro a w fr ho
  simp only [takeOkN, Bool.and_eq_true] at hok
  obtain ⟨⟨h2, h3⟩, h4⟩ := hok
  have hi' : (⟨ops⟩ : Array Oper)[i]? = some ⟨some d, op, t, pos, aft, g⟩ := by simpa using hi
  refine cAny_first hi' (Region.noSelect_spec h2) fuel ⟨done⟩ a w (Region.free_spec hi' h3) (by simpa using h4) (ho.sub hs) ⟨gtest_ok (o := ⟨some d, op, t, pos, aft, g⟩) hg fr, fun w ho => h a w fr ho⟩ ?_
  have := k _ w (fr.put hd v) ho
  rw [← hdone] at this
  simpa using this
theorem JN.reslot (s : Nat) {v : Value} (u : Value) [hs : Lk e s v] (h : v = u) (k : JN P n w0 F ops Δ fuel done Q ((s, u) :: e) Γ) : JN P n w0 F ops Δ fuel done Q e Γ :=
  fun a w fr ho => k a w (fr.again (by rw [← h]; exact hs.ok)) ho
theorem JN.more {Γ' : List Fact} (h : ∀ w, Hold w0 F Γ w → Hold w0 F Γ' w) (k : JN P n w0 F ops Δ fuel done Q e Γ') : JN P n w0 F ops Δ fuel done Q e Γ :=
  fun a w fr ho => k a w fr (h w ho)
/-- An operation, as JR tells it. -/
theorem opN {o : Oper} (i : Nat) (hi : ops[i]? = some o) (hg : gtest ops e o.guard = some true)
    (h : JR P n w0 F ⟨[o]⟩ 0 o [] (fun x e' Γ' => x = .normal ∧ Sub Γ' Δ ∧ JN P n w0 F ops Δ fuel (done.set i true) Q e' Γ') e Γ) (a : Act) (w : World) (fr : Fr n e a) (ho : Hold w0 F Γ w) :
    cOp P ⟨ops⟩ (Hold w0 F Δ) i (cAny P ⟨ops⟩ (Hold w0 F Δ) (up n w0 F Q) fuel ((⟨done⟩ : Array Bool).setIfInBounds i true)) a w := by
  have hi' : (⟨ops⟩ : Array Oper)[i]? = some o := by simpa using hi
  unfold cOp
  simp only [hi']
  rw [if_pos (gtest_ok hg fr)]
  have h1 := h rfl a w fr ho
  have key : ∀ (K K' : Act → World → Prop) (Q1 Q2 : Exit → Act → World → Prop), (∀ a w, K a w → K' a w) → (∀ x a w, Q1 x a w → x = .normal) → o.wp P a w K Q1 → o.wp P a w K' Q2 := by
    intro K K' Q1 Q2 hk hq hh
    have hh' := Oper.wp_mono (P := P) hk hh
    unfold Oper.wp at *
    generalize (execOp a.eval o).run P w = r at *
    cases r with
    | ok n w' =>
      cases n <;> simp only [Oper.upon] at hh' ⊢ <;> first | exact hh' | skip
      refine Calls.mono hh' fun e w'' he => ?_
      cases e with
      | returned v => exact he
      | panicked c => have := hq _ _ _ he; cases this
      | outgrown => obtain ⟨_, _, h⟩ := he; have := hq _ _ _ h; cases this
    | halt x w' => cases x <;> simp only [Oper.upon] at hh' ⊢ <;> first | exact hh' | (have := hq _ _ _ hh'; cases this)
  refine key _ _ _ _ (fun a' w' hk => ?_) ?_ h1
  · simp only [List.range'_zero, List.length_nil, wpOps] at hk
    obtain ⟨e', Γ', ⟨_, hs, hj⟩, fr', ho'⟩ := hk
    have := hj a' w' fr' ho'
    exact ⟨fun _ => ho'.sub hs, by simpa using this⟩
  · rintro x a w ⟨e', Γ', ⟨hx, _⟩, _⟩
    exact hx
theorem JN.op {o : Oper} (i : Nat) (hr : Region.ready .any ⟨ops⟩ ⟨done⟩ = [i]) (hi : ops[i]? = some o) (hg : gtest ops e o.guard = some true)
    (h : JR P n w0 F ⟨[o]⟩ 0 o [] (fun x e' Γ' => x = .normal ∧ Sub Γ' Δ ∧ JN P n w0 F ops Δ fuel (done.set i true) Q e' Γ') e Γ) : JN P n w0 F ops Δ (fuel + 1) done Q e Γ := by
  intro a w fr ho
  refine ⟨fun h0 => ?_, fun j hj => ?_⟩
  · rw [h0] at hr; cases hr
  · rw [hr] at hj
    simp only [List.mem_singleton] at hj; subst hj
    exact opN j hi hg h a w fr ho
end
end Ab
end Go.Proofs.YtdgeffphifgflaaGreat

/- Contract of dag's graph.add. -/
namespace Go.Proofs.YtdgeffphifgflaaGreat
namespace Ab
open Go Go.RowKit
set_option linter.unusedVariables false
set_option linter.unusedSimpArgs false
set_option synthInstance.maxSize 4000
set_option synthInstance.maxHeartbeats 400000
attribute [local irreducible] JC JO JR JQ andThen inBlock OpV Gives retTo JM JS

attribute [local irreducible] JN
attribute [local irreducible] ents hashC graphA
abbrev AddY (R : List Row) (c : Commit) := { y : List ID × Nat × Bool // y.2.2 = (addOk (grOf R) c && addGen (grOf R) c) ∧ (y.2.2 = true → y.1.Nodup ∧ isKnown (grOf R) c y.1) }
abbrev addB (bo bk : Nat) (R : List Row) (c : Commit) (a : Option Addr) (k : Nat) (Γ : List Fact) (S : List ID) (ba : Nat) : List Fact :=
  .omap bo (ents idV (ofM (R ++ [((c, S), (a, k, ba))]))) (ofM (R ++ [((c, S), (a, k, ba))])).length :: .omap bk (ents idV (knM (R ++ [((c, S), (a, k, ba))]))) (knM (R ++ [((c, S), (a, k, ba))])).length :: .st (graphA (R ++ [((c, S), (a, k, ba))])) :: Γ
set_option maxHeartbeats 4000000 in
theorem add_graph {w0 w : World} {F : Nat → Prop} {Γ : List Fact} {bo bk : Nat} {R : List Row} {c : Commit} {a : Option Addr} {k : Nat}
    (hn : (cids (nodes (grOf R))).Nodup) (hS : ∀ r ∈ R, r.1.2.Nodup) (hnew : idC c ∉ cids (nodes (grOf R))) (hg : ∀ r ∈ R, 0 ≤ r.1.1.gen ∧ r.1.1.gen ≤ 1048576)
    (ho : Hold w0 F (.omap bo (ents idV (ofM R)) (ofM R).length :: .omap bk (ents idV (knM R)) (knM R).length :: .st (graphA R) :: .st (sl a k c.parents) :: Γ) w) :
    Calls Tryz.prog 135 ⟨[.agg ⟨[.map (some bo), .map (some bk)]⟩, .agg ⟨idc (idC c)⟩, commitV c a k]⟩ w fun x w' =>
      ∃ y : AddY R c, x = .returned (.bool y.1.2.2) ∧ Hold w0 F (if y.1.2.2 = true then addB bo bk R c a k Γ y.1.1 y.1.2.1 else Γ) w' := by
  have hpl : c.parents.length < 9223372036854775807 := by
    have h1 : (sl a k c.parents).holds _ w := ho.sat (.st (sl a k c.parents)) (by simp)
    have := h1.2.2.1; simp only [lim] at this; omega
  have hkO : ((ofM R).map (·.1)).Nodup := by rw [ofM_keys]; exact hn
  have hkK : ((knM R).map (·.1)).Nodup := by rw [knM_keys]; exact hn
  refine calls_of (v := fun y : AddY R c => .bool y.1.2.2) (B := fun y => if y.1.2.2 = true then addB bo bk R c a k Γ y.1.1 y.1.2.1 else Γ) Tryz.func135 rfl Tryz.ntmps135 rfl rfl _ ho ?_
  repeat (first|refine Wa ?_|refine Wb ?_|refine Wc ?_|refine Wd ?_|refine We rfl ?_|refine Wf (by exact Vb) rfl ?_|(refine Wh rfl ?_; intro _))
  rename_i b3 b4 b5
  refine JR.makeSet idV rfl ?_
  intro ba
  repeat (first|refine Wa ?_|refine Wb ?_|refine Wc ?_|refine Wd ?_|refine We rfl ?_|refine Wf (by first|exact Va|exact Vb|exact Vc|exact Vd|exact Vf) rfl ?_|refine Wn ?_)
  refine JC.loop3 (fun (i : Nat) (A : List ID) (g : Int) => [(3, .pointer (some ⟨b3, 0, none⟩)), (4, .pointer (some ⟨b4, 0, none⟩)), (5, .pointer (some ⟨b5, 0, none⟩)), (7, .int .i64 g), (8, .map (some ba)), (20, .slice a c.parents.length k), (21, .int .i64 (c.parents.length : Int)), (22, .int .i64 (i : Int))])
    (fun i A g => .omap bo (ents idV (ofM R)) (ofM R).length :: .omap bk (ents idV (knM R)) (knM R).length :: .own b3 101 [.map (some bo), .map (some bk)] :: .own b4 81 (idc (idC c)) :: .own b5 29 [.int .i64 c.ev.node, .int .i64 c.ev.seq, .int .i64 c.gen, .slice a c.parents.length k, .int .i64 c.op.kind, .string c.op.key, .string c.op.elem, .int .i64 c.op.n] :: .omap ba (ents idV (sety A)) A.length :: .st (graphA R) :: .st (sl a k c.parents) :: Γ)
    (fun i A g => i ≤ c.parents.length ∧ A.Nodup ∧ (∀ p ∈ c.parents.take i, p ∈ cids (nodes (grOf R))) ∧ (∀ x, x ∈ A ↔ ∃ p ∈ c.parents.take i, x ∈ knownBy (grOf R) p) ∧ g = maxGen (nodes (grOf R)) (c.parents.take i) ∧ 0 ≤ g ∧ g ≤ 1048576)
    (fun i _ _ => c.parents.length - i) 0 [] 0 ⟨Nat.zero_le _, List.nodup_nil, by simp, by simp, by simp [maxGen], by decide, by decide⟩ inferInstance ?_
  intro i A g ⟨hi, hA, hin, hmem, hmax, hg0, hg1⟩
  repeat (first|refine Wa ?_|refine Wb ?_|refine Wc ?_|refine Wd ?_|refine We rfl ?_|refine Wf (by exact Vg) rfl ?_)
  refine JC.test (fun hlt => ?_) (fun hge => ?_)
  · have hlt' : i < c.parents.length := by omega
    repeat (first|refine Wa ?_|refine Wb ?_|refine Wc ?_|refine We rfl ?_|refine Wl ?_|refine Wn ?_)
    refine JR.indexID rfl hlt' ?_
    intro bp op
    repeat (first|refine Wa ?_|refine Wb ?_|refine Wc ?_|refine Wd ?_|refine We rfl ?_|refine Wf (by first|exact Vc|exact Vd) rfl ?_|(refine Wg rfl ?_; intro _)|refine Wi ?_)
    have hpm : c.parents[i] ∈ c.parents := List.getElem_mem hlt'
    by_cases hin' : c.parents[i] ∈ cids (nodes (grOf R))
    · obtain ⟨r, hr, hre, hgo, hgk, hkn⟩ := row_of hn hin'
      have hga : genAt (nodes (grOf R)) c.parents[i] = r.1.1.gen := by
        rw [← hre]; exact genAt_of hn (by rw [nodes_gr]; exact List.mem_map.2 ⟨r, hr, rfl⟩)
      obtain ⟨hr0, hr1⟩ := hg r hr
      refine Wf (OpV.lookupOk (M := ofM R) (v := commitV r.1.1 r.2.1 r.2.2.1) (is := true) c.parents[i] hkO (by rw [hgo]; rfl) (by rw [hgo]; rfl)) rfl ?_
      repeat (first|refine Wa ?_|refine Wb ?_|refine Wc ?_|refine Wd ?_|refine We rfl ?_|refine Wf (by first|exact Va|exact Vb|exact Vc|exact Vh|exact Vq) rfl ?_|(refine Wg rfl ?_; intro _)|refine Wi ?_)
      refine Wf (OpV.setHas (L := A) c.parents[i] hA) rfl ?_
      repeat (first|refine Wa ?_|refine Wd ?_|refine We rfl ?_|refine Wf (by exact Vj) rfl ?_)
      refine JC.test (fun hy => ?_) (fun hno => ?_)
      · obtain ⟨q, hq, hqk⟩ := (hmem _).1 (by simpa using hy)
        repeat (first|refine Wa ?_|refine Wb ?_|refine Wc ?_|refine Wd ?_|refine We rfl ?_|refine Wf (by exact Vb) rfl ?_|refine Ws ?_|refine Wt ?_|refine Wu ?_)
        exact CT.done ⟨([], 0, false), by rw [not_ok_of_known hpm (List.mem_of_mem_take hq) hqk]; rfl, by simp⟩ rfl (fun w ho => (ho.ent : Hold w0 F Γ w))
      · repeat (first|refine Wa ?_|refine Wb ?_|refine Wc ?_|refine We rfl ?_|refine Wf (by first|exact Va|exact Vc|exact Vd) rfl ?_|refine Wl ?_)
        refine Wf OpV.max rfl ?_
        repeat (first|refine Wa ?_|refine Wb ?_|refine Wc ?_|refine Wd ?_|refine We rfl ?_|refine Wf (by first|exact Vb|exact Vc|exact Vd) rfl ?_)
        refine Wf (OpV.lookupNo (M := knM R) (v := .map (some r.2.2.2)) c.parents[i] hkK (by rw [hgk]; rfl)) rfl ?_
        refine JO.more (fun w1 ho => ho.add (A := rmap r.2.2.2 (ents idV (sety r.1.2)) r.1.2.length) (graph_row (ho.get (A := graphA R)) hr).2) ?_
        refine We rfl ?_
        refine JR.rangeS rfl ?_
        intro ri
        repeat (first|refine Wa ?_|refine Wd ?_|refine Wn ?_)
        refine JC.loop2 (fun (S : List Nat) (A' : List ID) => [(3, .pointer (some ⟨b3, 0, none⟩)), (4, .pointer (some ⟨b4, 0, none⟩)), (5, .pointer (some ⟨b5, 0, none⟩)), (7, .int .i64 (max g r.1.1.gen)), (8, .map (some ba)), (20, .slice a c.parents.length k), (21, .int .i64 (c.parents.length : Int)), (22, .int .i64 (i : Int)), (48, .pointer (some ⟨ri, 0, none⟩))])
          (fun S A' => .omap bo (ents idV (ofM R)) (ofM R).length :: .omap bk (ents idV (knM R)) (knM R).length :: .own b3 101 [.map (some bo), .map (some bk)] :: .own b4 81 (idc (idC c)) :: .own b5 29 [.int .i64 c.ev.node, .int .i64 c.ev.seq, .int .i64 c.gen, .slice a c.parents.length k, .int .i64 c.op.kind, .string c.op.key, .string c.op.elem, .int .i64 c.op.n] :: .omap ba (ents idV (sety A')) A'.length :: .obj ri (.mapIter (some r.2.2.2) r.1.2.length S.toArray r.1.2.length) :: .st (rmap r.2.2.2 (ents idV (sety r.1.2)) r.1.2.length) :: .st (graphA R) :: .st (sl a k c.parents) :: Γ)
          (fun S A' => S.Nodup ∧ (∀ j ∈ S, j < r.1.2.length) ∧ A'.Nodup ∧ ∀ x, x ∈ A' ↔ x ∈ A ∨ ∃ j ∈ S, r.1.2[j]? = some x)
          (fun S _ => r.1.2.length - S.length) [] A ⟨List.nodup_nil, by simp, hA, by simp⟩ inferInstance ?_
        intro S A' ⟨hS1, hS2, hA', hmem'⟩
        have hSl : S.length ≤ r.1.2.length := nodup_le hS1 hS2
        repeat (first|refine Wb ?_|refine Wc ?_|refine We rfl ?_)
        refine JR.nextS rfl hS2 (fun hall => ?_) (fun j hj hjS => ?_)
        · repeat (first|refine Wa ?_|refine Wb ?_|refine Wc ?_|refine Wd ?_|refine We rfl ?_|refine Wf (by first|exact Va|exact Vk (by omega)|exact Vq) rfl ?_|refine Wk ?_|refine Wm ?_|refine Wo ?_|refine Wp ?_|refine Wr ?_)
          refine ⟨i + 1, A', max g r.1.1.gen, ⟨by omega, hA', fun p hp => ?_, fun x => ?_, ?_, by omega, by omega⟩, by omega, inferInstance⟩
          · rcases (mem_take_succ hlt').1 hp with hp | rfl
            · exact hin p hp
            · exact hin'
          · rw [hmem', hmem]
            constructor
            · rintro (⟨q, hq, hx⟩ | ⟨j, hj, hx⟩)
              · exact ⟨q, (mem_take_succ hlt').2 (.inl hq), hx⟩
              · exact ⟨c.parents[i], (mem_take_succ hlt').2 (.inr rfl), by rw [hkn]; exact List.mem_of_getElem? hx⟩
            · rintro ⟨q, hq, hx⟩
              rcases (mem_take_succ hlt').1 hq with hq | rfl
              · exact .inl ⟨q, hq, hx⟩
              · rw [hkn] at hx
                obtain ⟨j, hj, rfl⟩ := List.getElem_of_mem hx
                exact .inr ⟨j, hall j hj, List.getElem?_eq_getElem hj⟩
          · rw [List.take_succ_eq_append_getElem hlt', maxGen_snoc, ← hmax, hga]
        · repeat (first|refine Wa ?_|refine Wb ?_|refine Wc ?_|refine Wd ?_|refine We rfl ?_|refine Wf (by exact Vq) rfl ?_|refine Wj ?_|refine Wl ?_|refine Wn ?_)
          refine Wf (OpV.entryS hj) rfl ?_
          repeat (first|refine Wa ?_|refine Wc ?_|refine Wd ?_|refine We rfl ?_|refine Wf (by first|exact Va|exact Vc|exact Vq) rfl ?_|(refine Wg rfl ?_; intro _)|refine Wi ?_)
          refine JR.setAdd r.1.2[j] hA' ?_
          have hS3 : (S ++ [j]).Nodup := List.nodup_append.2 ⟨hS1, by simp, fun x hx y hy => by simp at hy; subst hy; exact fun e => hjS (e ▸ hx)⟩
          have hS4 : ∀ i ∈ S ++ [j], i < r.1.2.length := fun i hi => by
            rcases List.mem_append.1 hi with hi | hi
            · exact hS2 i hi
            · simp at hi; subst hi; exact hj
          have hlt2 := nodup_le hS3 hS4
          repeat (first|refine Wa ?_|refine Wd ?_|refine Wr ?_)
          refine ⟨S ++ [j], addK A' r.1.2[j], ⟨hS3, hS4, addK_nodup hA' _, fun x => ?_⟩, by simp at hlt2 ⊢; omega, inferInstance⟩
          rw [mem_addK, hmem']
          constructor
          · rintro ((h | ⟨q, hq, hx⟩) | rfl)
            · exact .inl h
            · exact .inr ⟨q, by simp [hq], hx⟩
            · exact .inr ⟨j, by simp, List.getElem?_eq_getElem hj⟩
          · rintro (h | ⟨q, hq, hx⟩)
            · exact .inl (.inl h)
            · rcases List.mem_append.1 hq with hq | hq
              · exact .inl (.inr ⟨q, hq, hx⟩)
              · simp at hq; subst hq
                rw [List.getElem?_eq_getElem hj] at hx
                injection hx with hx
                exact .inr hx.symm
    · obtain ⟨hgo, hgk⟩ := row_none hin'
      refine Wf (OpV.lookupOk (M := ofM R) (v := .agg ⟨[.int .i64 0, .int .i64 0, .int .i64 0, .slice none 0 0, .int .i64 0, .string .empty, .string .empty, .int .i64 0]⟩) (is := false) c.parents[i] hkO (by rw [hgo]; rfl) (by rw [hgo]; rfl)) rfl ?_
      repeat (first|refine Wa ?_|refine Wb ?_|refine Wc ?_|refine Wd ?_|refine We rfl ?_|refine Wf (by first|exact Va|exact Vb|exact Vh|exact Vi|exact Vq) rfl ?_|(refine Wg rfl ?_; intro _)|refine Wi ?_|refine Wj ?_|refine Ws ?_|refine Wt ?_|refine Wu ?_|refine Wv rfl rfl ?_)
      exact CT.done ⟨([], 0, false), by rw [not_ok_of_none hpm hin']; rfl, by simp⟩ rfl (fun w ho => (ho.ent : Hold w0 F Γ w))
  · obtain rfl : i = c.parents.length := by omega
    rw [List.take_length] at hin hmem hmax
    repeat (first|refine Wa ?_|refine Wb ?_|refine Wc ?_|refine Wd ?_|refine We rfl ?_|refine Wf (by first|exact Va|exact Vc|exact Vd|exact Vf) rfl ?_|refine Wm ?_|refine Wn ?_|refine Wo ?_|refine Wp ?_)
    refine JC.loop1 (fun (i : Nat) => [(3, .pointer (some ⟨b3, 0, none⟩)), (4, .pointer (some ⟨b4, 0, none⟩)), (5, .pointer (some ⟨b5, 0, none⟩)), (7, .int .i64 g), (8, .map (some ba)), (57, .slice a c.parents.length k), (58, .int .i64 (c.parents.length : Int)), (59, .int .i64 (i : Int))])
      (fun i => .omap bo (ents idV (ofM R)) (ofM R).length :: .omap bk (ents idV (knM R)) (knM R).length :: .own b3 101 [.map (some bo), .map (some bk)] :: .own b4 81 (idc (idC c)) :: .own b5 29 [.int .i64 c.ev.node, .int .i64 c.ev.seq, .int .i64 c.gen, .slice a c.parents.length k, .int .i64 c.op.kind, .string c.op.key, .string c.op.elem, .int .i64 c.op.n] :: .omap ba (ents idV (sety A)) A.length :: .st (graphA R) :: .st (sl a k c.parents) :: Γ)
      (fun i => i ≤ c.parents.length ∧ ∀ p ∈ c.parents.take i, p ∉ A) (fun i => c.parents.length - i) 0 ⟨Nat.zero_le _, by simp⟩ inferInstance ?_
    intro i ⟨hi, hfree⟩
    repeat (first|refine Wa ?_|refine Wb ?_|refine Wc ?_|refine Wd ?_|refine We rfl ?_|refine Wf (by exact Vg) rfl ?_)
    refine JC.test (fun hlt => ?_) (fun hge => ?_)
    · have hlt' : i < c.parents.length := by omega
      repeat (first|refine Wa ?_|refine Wb ?_|refine Wc ?_|refine We rfl ?_|refine Wl ?_|refine Wn ?_)
      refine JR.indexID rfl hlt' ?_
      intro bp op
      repeat (first|refine Wa ?_|refine Wb ?_|refine Wc ?_|refine Wd ?_|refine We rfl ?_|refine Wf (by first|exact Va|exact Vc) rfl ?_|(refine Wg rfl ?_; intro _)|refine Wi ?_)
      refine Wf (OpV.setHas (L := A) c.parents[i] hA) rfl ?_
      repeat (first|refine Wa ?_|refine Wd ?_)
      refine JC.test (fun hy => ?_) (fun hno => ?_)
      · obtain ⟨q, hq, hqk⟩ := (hmem _).1 (by simpa using hy)
        repeat (first|refine Wa ?_|refine Wb ?_|refine Wc ?_|refine Wd ?_|refine We rfl ?_|refine Wf (by exact Vb) rfl ?_|refine Ws ?_|refine Wt ?_|refine Wu ?_)
        exact CT.done ⟨([], 0, false), by rw [not_ok_of_known (List.getElem_mem hlt') hq hqk]; rfl, by simp⟩ rfl (fun w ho => (ho.ent : Hold w0 F Γ w))
      · repeat (first|refine Wa ?_|refine Wc ?_|refine Wd ?_|refine We rfl ?_|refine Wf (by first|exact Va|exact Vk (by omega)) rfl ?_|refine Wl ?_|refine Wr ?_)
        refine ⟨i + 1, ⟨by omega, fun p hp => ?_⟩, by omega, inferInstance⟩
        rcases (mem_take_succ hlt').1 hp with hp | rfl
        · exact hfree p hp
        · simpa using hno
    · obtain rfl : i = c.parents.length := by omega
      rw [List.take_length] at hfree
      have hok : addOk (grOf R) c = true := (addOk_iff _ _).2 ⟨hin, fun p hp q hq hk => hfree p hp ((hmem p).2 ⟨q, hq, hk⟩)⟩
      repeat (first|refine Wa ?_|refine Wb ?_|refine Wc ?_|refine Wd ?_|refine We rfl ?_|refine Wf (by first|exact Va|exact Vc|exact Vd|exact Vf) rfl ?_|refine Wm ?_|refine Wn ?_|refine Wo ?_|refine Wp ?_)
      refine JC.loop2 (fun (i : Nat) (A' : List ID) => [(3, .pointer (some ⟨b3, 0, none⟩)), (4, .pointer (some ⟨b4, 0, none⟩)), (5, .pointer (some ⟨b5, 0, none⟩)), (7, .int .i64 g), (8, .map (some ba)), (68, .slice a c.parents.length k), (69, .int .i64 (c.parents.length : Int)), (70, .int .i64 (i : Int))])
        (fun i A' => .omap bo (ents idV (ofM R)) (ofM R).length :: .omap bk (ents idV (knM R)) (knM R).length :: .own b3 101 [.map (some bo), .map (some bk)] :: .own b4 81 (idc (idC c)) :: .own b5 29 [.int .i64 c.ev.node, .int .i64 c.ev.seq, .int .i64 c.gen, .slice a c.parents.length k, .int .i64 c.op.kind, .string c.op.key, .string c.op.elem, .int .i64 c.op.n] :: .omap ba (ents idV (sety A')) A'.length :: .st (graphA R) :: .st (sl a k c.parents) :: Γ)
        (fun i A' => i ≤ c.parents.length ∧ A'.Nodup ∧ ∀ x, x ∈ A' ↔ x ∈ A ∨ x ∈ c.parents.take i) (fun i _ => c.parents.length - i) 0 A ⟨Nat.zero_le _, hA, by simp⟩ inferInstance ?_
      intro i A' ⟨hi, hA', hmem'⟩
      repeat (first|refine Wa ?_|refine Wb ?_|refine Wc ?_|refine Wd ?_|refine We rfl ?_|refine Wf (by exact Vg) rfl ?_)
      refine JC.test (fun hlt => ?_) (fun hge => ?_)
      · have hlt' : i < c.parents.length := by omega
        repeat (first|refine Wa ?_|refine Wb ?_|refine Wc ?_|refine We rfl ?_|refine Wl ?_|refine Wn ?_)
        refine JR.indexID rfl hlt' ?_
        intro bp op
        repeat (first|refine Wa ?_|refine Wc ?_|refine Wd ?_|refine We rfl ?_|refine Wf (by first|exact Va|exact Vc) rfl ?_|(refine Wg rfl ?_; intro _)|refine Wi ?_)
        refine JR.setAdd c.parents[i] hA' ?_
        repeat (first|refine Wa ?_|refine Wc ?_|refine Wd ?_|refine We rfl ?_|refine Wf (by first|exact Va|exact Vk (by omega)) rfl ?_|refine Wr ?_)
        refine ⟨i + 1, addK A' c.parents[i], ⟨by omega, addK_nodup hA' _, fun x => ?_⟩, by omega, inferInstance⟩
        rw [mem_addK, hmem', mem_take_succ hlt', or_assoc]
      · obtain rfl : i = c.parents.length := by omega
        rw [List.take_length] at hmem'
        repeat (first|refine Wa ?_|refine Wb ?_|refine Wm ?_|refine Wo ?_|refine Wp ?_)
        have hkn : isKnown (grOf R) c A' := fun x => by
          rw [hmem', hmem]
          constructor
          · rintro (⟨q, hq, hx⟩ | h)
            · exact ⟨q, hq, .inr hx⟩
            · exact ⟨x, h, .inl rfl⟩
          · rintro ⟨q, hq, (rfl | hx)⟩
            · exact .inr hq
            · exact .inl ⟨q, hq, hx⟩
        have eO : upd (ofM R) (idC c) (.agg ⟨[.int .i64 c.ev.node, .int .i64 c.ev.seq, .int .i64 c.gen, .slice a c.parents.length k, .int .i64 c.op.kind, .string c.op.key, .string c.op.elem, .int .i64 c.op.n]⟩) = ofM (R ++ [((c, A'), (a, k, ba))]) := by
          rw [upd_new _ (by rw [ofM_keys]; exact hnew), ofM_snoc]
        have eK : upd (knM R) (idC c) (.map (some ba)) = knM (R ++ [((c, A'), (a, k, ba))]) := by
          rw [upd_new _ (by rw [knM_keys]; exact hnew), knM_snoc]
        refine JC.drawN [.own b3 101 [.map (some bo), .map (some bk)], .own b4 81 (idc (idC c)), .own b5 29 [.int .i64 c.ev.node, .int .i64 c.ev.seq, .int .i64 c.gen, .slice a c.parents.length k, .int .i64 c.op.kind, .string c.op.key, .string c.op.elem, .int .i64 c.op.n]] mixed ?_
        refine JN.take 0 rfl (by kernel_rfl) rfl Vd rfl rfl ?_
        refine JN.take 1 rfl (by kernel_rfl) rfl Vc rfl rfl ?_
        refine JN.take 2 rfl (by kernel_rfl) rfl Vc rfl rfl ?_
        refine JN.take 3 rfl (by kernel_rfl) rfl Vd rfl rfl ?_
        refine JN.take 4 rfl (by kernel_rfl) rfl Vc rfl rfl ?_
        refine JN.take 5 rfl (by kernel_rfl) rfl Vc rfl rfl ?_
        refine JN.take 6 rfl (by kernel_rfl) rfl Vc rfl rfl ?_
        refine JN.take 7 rfl (by kernel_rfl) rfl Va rfl rfl ?_
        refine JN.op 8 (by kernel_rfl) rfl rfl (JR.mapUpdate_ (M := ofM R) (k := idC c) (.inl rfl) hkO (Wd ⟨rfl, inferInstance, ?_⟩))
        refine JN.op 9 (by kernel_rfl) rfl rfl (JR.mapUpdate_ (M := knM R) (k := idC c) (.inl rfl) hkK (Wd ⟨rfl, inferInstance, ?_⟩))
        refine JN.nil (by kernel_rfl) ?_
        rw [eO, eK]
        repeat (first|refine Wa ?_|refine Wb ?_|refine Wc ?_|refine Wd ?_|refine We rfl ?_|refine Wf (by first|exact Va|exact Vb|exact Vc|exact Vd|exact Vl|exact Vt (by omega)) rfl ?_|refine Ws ?_)
        refine CT.done ⟨(A', ba, decide (c.gen = g + 1)), by rw [hok, hmax]; rfl, fun _ => ⟨hA', hkn⟩⟩ rfl (fun w ho => ?_)
        have h1 : Hold _ _ (.omap ba (ents idV (sety A')) A'.length :: .omap bo (ents idV (ofM (R ++ [((c, A'), (a, k, ba))]))) (ofM (R ++ [((c, A'), (a, k, ba))])).length :: .omap bk (ents idV (knM (R ++ [((c, A'), (a, k, ba))]))) (knM (R ++ [((c, A'), (a, k, ba))])).length :: .st (graphA R) :: .st (sl a k c.parents) :: Γ) w := ho.ent
        have h2 := h1.pubMap
        have h3 := h2.add (graph_snoc (S := A') (h2.get (A := graphA R)) (h2.get (A := sl a k c.parents)) (h2.get (A := rmap ba (ents idV (sety A')) A'.length)))
        by_cases hb : c.gen = g + 1
        · rw [if_pos (by simpa using hb)]; exact h3.ent
        · rw [if_neg (by simpa using hb)]; exact h3.ent
end Ab
end Go.Proofs.YtdgeffphifgflaaGreat

/- Contract of dag's graph.events. -/
namespace Go.Proofs.YtdgeffphifgflaaGreat
namespace Ab
open Go Go.RowKit
set_option linter.unusedVariables false
set_option linter.unusedSimpArgs false
set_option synthInstance.maxSize 4000
set_option synthInstance.maxHeartbeats 400000
attribute [local irreducible] JC JO JR JQ andThen inBlock OpV Gives retTo JM JS

attribute [local irreducible] ents hashC graphA
/-- Two commits of one node, of which the second one stands behind, or is told by the first one. -/
def evBad (r s : Row) : Bool := decide (idC r.1.1 ≠ idC s.1.1) && decide (r.1.1.ev.node = s.1.1.ev.node) && (decide (r.1.1.ev.seq = s.1.1.ev.seq) || (decide (s.1.1.ev.seq < r.1.1.ev.seq) && decide (idC s.1.1 ∉ r.1.2)))
def evG (R : List Row) : Bool := R.all fun r => R.all fun s => !evBad r s
theorem ofM_get (R : List Row) (j : Nat) (h : j < (ofM R).length) : (ofM R)[j] = (idC (R[j]'(by simpa [ofM] using h)).1.1, commitV (R[j]'(by simpa [ofM] using h)).1.1 (R[j]'(by simpa [ofM] using h)).2.1 (R[j]'(by simpa [ofM] using h)).2.2.1) := by simp [ofM]
theorem ofM_length (R : List Row) : (ofM R).length = R.length := by simp [ofM]
theorem evG_false {R : List Row} {r s : Row} (hr : r ∈ R) (hs : s ∈ R) (h : evBad r s = true) : evG R = false := by
  rw [← Bool.not_eq_true]
  intro he
  have := List.all_eq_true.1 (List.all_eq_true.1 he r hr) s hs
  rw [h] at this; cases this
set_option maxHeartbeats 4000000 in
theorem events_graph (w : World) (F : Nat → Prop) (bo bk : Nat) (R : List Row) (hn : (cids (nodes (grOf R))).Nodup) (hS : ∀ r ∈ R, r.1.2.Nodup)
    (h1 : (rmap bo (ents idV (ofM R)) (ofM R).length).holds F w) (h2 : (rmap bk (ents idV (knM R)) (knM R).length).holds F w) (h3 : (graphA R).holds F w) :
    GivesV Tryz.prog 136 [.agg ⟨[.map (some bo), .map (some bk)]⟩] w F (.bool (evG R)) := by
  have hkK : ((knM R).map (·.1)).Nodup := by rw [knM_keys]; exact hn
  refine gives_of Tryz.func136 rfl Tryz.ntmps136 rfl rfl [.st (rmap bo (ents idV (ofM R)) (ofM R).length), .st (rmap bk (ents idV (knM R)) (knM R).length), .st (graphA R)] (.start3 h1 h2 h3) ?_
  repeat (first|refine Wa ?_|refine Wb ?_|refine Wc ?_|refine Wd ?_|refine We rfl ?_|refine Wf (by first|exact Vb|exact Vc|exact Vd) rfl ?_|(refine Wh rfl ?_; intro _))
  rename_i bg
  refine JR.range (M := ofM R) rfl ?_
  intro r1
  repeat (first|refine Wa ?_|refine Wd ?_|refine Wn ?_)
  refine JC.loop1 (fun (S : List Nat) => [(1, .pointer (some ⟨bg, 0, none⟩)), (9, .pointer (some ⟨r1, 0, none⟩))])
    (fun S => [.obj r1 (.mapIter (some bo) (ofM R).length S.toArray (ofM R).length), .own bg 101 [.map (some bo), .map (some bk)], .st (rmap bo (ents idV (ofM R)) (ofM R).length), .st (rmap bk (ents idV (knM R)) (knM R).length), .st (graphA R)])
    (fun S => S.Nodup ∧ (∀ j ∈ S, j < (ofM R).length) ∧ ∀ j ∈ S, ∀ hj : j < R.length, ∀ s ∈ R, evBad R[j] s = false) (fun S => (ofM R).length - S.length) [] ⟨List.nodup_nil, by simp, by simp⟩ inferInstance ?_
  intro S ⟨hS1, hS2, hok⟩
  repeat (first|refine Wb ?_|refine Wc ?_|refine We rfl ?_)
  refine JR.next (M := ofM R) rfl hS2 (fun hall => ?_) (fun j hj hjS => ?_)
  · have e1 : evG R = true := by
      refine List.all_eq_true.2 fun r hr => List.all_eq_true.2 fun s hs => ?_
      obtain ⟨j, hj, rfl⟩ := List.getElem_of_mem hr
      rw [hok j (hall j (by rw [ofM_length]; exact hj)) hj s hs]; rfl
    rw [e1]
    repeat (first|refine Wa ?_|refine Wb ?_|refine Wc ?_|refine Wd ?_|refine We rfl ?_|refine Wf (by first|exact Vb|exact Vq) rfl ?_|refine Wk ?_|refine Wm ?_|refine Wo ?_|refine Wp ?_|refine Ws ?_)
    exact CT.done () rfl (fun w ho => ho.ent)
  · have hjR : j < R.length := by rw [ofM_length] at hj; exact hj
    obtain ⟨r, hr⟩ : ∃ r, r = R[j] := ⟨_, rfl⟩
    have hrm : r ∈ R := by rw [hr]; exact List.getElem_mem hjR
    have eg := ofM_get R j hj
    rw [← hr] at eg
    have hS3 : (S ++ [j]).Nodup := List.nodup_append.2 ⟨hS1, by simp, fun x hx y hy => by simp at hy; subst hy; exact fun e => hjS (e ▸ hx)⟩
    have hS4 : ∀ i ∈ S ++ [j], i < (ofM R).length := fun i hi => by
      rcases List.mem_append.1 hi with hi | hi
      · exact hS2 i hi
      · simp at hi; subst hi; exact hj
    have hlt2 := nodup_le hS3 hS4
    repeat (first|refine Wa ?_|refine Wb ?_|refine Wc ?_|refine Wd ?_|refine We rfl ?_|refine Wf (by exact Vq) rfl ?_|refine Wj ?_|refine Wl ?_|refine Wn ?_)
    refine Wf (OpV.entry (M := ofM R) hj) rfl ?_
    refine JO.reslot 12 (.tuple ⟨[idV (idC r.1.1), commitV r.1.1 r.2.1 r.2.2.1]⟩) (by rw [eg]) ?_
    refine JO.more (fun w1 ho => (ho.add (A := sl r.2.1 r.2.2.1 r.1.1.parents) (graph_row (ho.get (A := graphA R)) hrm).1).add (A := rmap r.2.2.2 (ents idV (sety r.1.2)) r.1.2.length) (graph_row (ho.add (A := sl r.2.1 r.2.2.1 r.1.1.parents) (graph_row (ho.get (A := graphA R)) hrm).1 |>.get (A := graphA R)) hrm).2) ?_
    repeat (first|refine Wa ?_|refine Wb ?_|refine Wc ?_|refine Wd ?_|refine We rfl ?_|refine Wf (by first|exact Vc|exact Vd|exact Vq) rfl ?_|(refine Wg rfl ?_; intro _)|refine Wi ?_)
    rename_i b3 b4
    refine JR.range (M := ofM R) rfl ?_
    intro r2
    repeat (first|refine Wa ?_|refine Wd ?_|refine Wn ?_)
    refine JC.loop1 (fun (S2 : List Nat) => [(1, .pointer (some ⟨bg, 0, none⟩)), (9, .pointer (some ⟨r1, 0, none⟩)), (3, .pointer (some ⟨b3, 0, none⟩)), (4, .pointer (some ⟨b4, 0, none⟩)), (17, .pointer (some ⟨r2, 0, none⟩))])
      (fun S2 => [.obj r2 (.mapIter (some bo) (ofM R).length S2.toArray (ofM R).length), .own b3 81 (idc (idC r.1.1)), .own b4 29 [.int .i64 r.1.1.ev.node, .int .i64 r.1.1.ev.seq, .int .i64 r.1.1.gen, .slice r.2.1 r.1.1.parents.length r.2.2.1, .int .i64 r.1.1.op.kind, .string r.1.1.op.key, .string r.1.1.op.elem, .int .i64 r.1.1.op.n],
        .obj r1 (.mapIter (some bo) (ofM R).length (S ++ [j]).toArray (ofM R).length), .own bg 101 [.map (some bo), .map (some bk)], .st (rmap r.2.2.2 (ents idV (sety r.1.2)) r.1.2.length), .st (rmap bo (ents idV (ofM R)) (ofM R).length), .st (rmap bk (ents idV (knM R)) (knM R).length), .st (graphA R)])
      (fun S2 => S2.Nodup ∧ (∀ j ∈ S2, j < (ofM R).length) ∧ ∀ j ∈ S2, ∀ hj : j < R.length, evBad r R[j] = false) (fun S2 => (ofM R).length - S2.length) [] ⟨List.nodup_nil, by simp, by simp⟩ inferInstance ?_
    intro S2 ⟨hT1, hT2, hok2⟩
    repeat (first|refine Wb ?_|refine Wc ?_|refine We rfl ?_)
    refine JR.next (M := ofM R) rfl hT2 (fun hall => ?_) (fun i hi hiS => ?_)
    · repeat (first|refine Wa ?_|refine Wb ?_|refine Wd ?_|refine We rfl ?_|refine Wf (by exact Vq) rfl ?_|refine Wk ?_|refine Wm ?_|refine Wo ?_|refine Wp ?_|refine Wr ?_)
      refine ⟨S ++ [j], ⟨hS3, hS4, fun x hx hxR s hs => ?_⟩, by simp at hlt2 ⊢; omega, inferInstance⟩
      rcases List.mem_append.1 hx with hx | hx
      · exact hok x hx hxR s hs
      · simp only [List.mem_singleton] at hx
        subst hx
        obtain ⟨y, hy, rfl⟩ := List.getElem_of_mem hs
        rw [← hr]
        exact hok2 y (hall y (by rw [ofM_length]; exact hy)) hy
    · have hiR : i < R.length := by rw [ofM_length] at hi; exact hi
      obtain ⟨s, hs⟩ : ∃ s, s = R[i] := ⟨_, rfl⟩
      have hsm : s ∈ R := by rw [hs]; exact List.getElem_mem hiR
      have eg2 := ofM_get R i hi
      rw [← hs] at eg2
      have hT3 : (S2 ++ [i]).Nodup := List.nodup_append.2 ⟨hT1, by simp, fun x hx y hy => by simp at hy; subst hy; exact fun e => hiS (e ▸ hx)⟩
      have hT4 : ∀ x ∈ S2 ++ [i], x < (ofM R).length := fun x hx => by
        rcases List.mem_append.1 hx with hx | hx
        · exact hT2 x hx
        · simp at hx; subst hx; exact hi
      have hlt3 := nodup_le hT3 hT4
      have next : evBad r s = false → ∀ x ∈ S2 ++ [i], ∀ hx : x < R.length, evBad r R[x] = false := fun hb x hx hxR => by
        rcases List.mem_append.1 hx with hx | hx
        · exact hok2 x hx hxR
        · simp only [List.mem_singleton] at hx; subst hx; rw [← hs]; exact hb
      repeat (first|refine Wa ?_|refine Wb ?_|refine Wc ?_|refine Wd ?_|refine We rfl ?_|refine Wf (by exact Vq) rfl ?_|refine Wj ?_|refine Wl ?_|refine Wn ?_)
      refine Wf (OpV.entry (M := ofM R) hi) rfl ?_
      refine JO.reslot 20 (.tuple ⟨[idV (idC s.1.1), commitV s.1.1 s.2.1 s.2.2.1]⟩) (by rw [eg2]) ?_
      refine JO.more (fun w1 ho => ho.add (A := sl s.2.1 s.2.2.1 s.1.1.parents) (graph_row (ho.get (A := graphA R)) hsm).1) ?_
      repeat (first|refine Wa ?_|refine Wb ?_|refine Wc ?_|refine Wd ?_|refine We rfl ?_|refine Wf (by first|exact Va|exact Vc|exact Vq|exact Vx) rfl ?_|(refine Wg rfl ?_; intro _)|refine Wi ?_)
      refine JO.test 26 (fun he => ?_) (fun he => ?_)
      · have hb : evBad r s = false := by simp [evBad, he]
        repeat (first|refine Wa ?_|refine Wd ?_|refine We rfl ?_|refine Wf (by exact Vi) rfl ?_|refine Wj ?_|refine Wm ?_|refine Wo ?_|refine Wp ?_|refine Wv rfl rfl ?_)
        exact ⟨S2 ++ [i], ⟨hT3, hT4, next hb⟩, by simp at hlt3 ⊢; omega, inferInstance⟩
      repeat (first|refine Wa ?_|refine Wd ?_|refine We rfl ?_|refine Wf (by first|exact Vc|exact Vd|exact Vj|exact Vm) rfl ?_)
      refine JC.test (fun hnd => ?_) (fun hnd => ?_)
      · have hb : evBad r s = false := by simp only [ne_eq] at hnd; simp [evBad, hnd]
        repeat (first|refine Wa ?_|refine Wm ?_|refine Wo ?_|refine Wp ?_)
        exact ⟨S2 ++ [i], ⟨hT3, hT4, next hb⟩, by simp at hlt3 ⊢; omega, inferInstance⟩
      have hnd' : r.1.1.ev.node = s.1.1.ev.node := by simpa using hnd
      repeat (first|refine Wa ?_|refine Wb ?_|refine Wl ?_)
      have hgk : gotten (knM R) (idC r.1.1) = some (.map (some r.2.2.2)) := by
        obtain ⟨q, hq, hqe, _, hqk, _⟩ := row_of hn (p := idC r.1.1) (by rw [ids_gr]; exact List.mem_map.2 ⟨r, hrm, rfl⟩)
        have : q = r := by
          obtain ⟨x, hx, hxq⟩ := List.getElem_of_mem hq
          obtain ⟨y, hy, hyr⟩ := List.getElem_of_mem hrm
          rw [ids_gr] at hn
          rcases Nat.lt_trichotomy x y with h | h | h
          · have := List.pairwise_iff_getElem.1 hn x y (by simpa using hx) (by simpa using hy) h
            simp [hxq, hyr, hqe] at this
          · subst h; rw [← hxq, ← hyr]
          · have := List.pairwise_iff_getElem.1 hn y x (by simpa using hy) (by simpa using hx) h
            simp [hxq, hyr, hqe] at this
        rw [← this]; rw [this] at hqk ⊢; exact hqk
      refine JC.quiet mixed (by kernel_rfl) ?_
      repeat (refine Wy rfl (by first|exact Va|exact Vc|exact Vd|exact Vl) rfl ?_)
      by_cases hsq : r.1.1.ev.seq = s.1.1.ev.seq
      · have hb : evBad r s = true := by simp [evBad, he, hnd', hsq]
        refine JQ.reslot 42 (.bool true) (by simp [hsq]) ?_
        repeat (first|refine Wy rfl (by first|exact Va|exact Vc|exact Vd|exact Vi) rfl ?_|refine Wz rfl rfl ?_|refine WA rfl rfl ?_|refine WB ?_)
        repeat (first|refine Wa ?_|refine Wb ?_|refine Wc ?_|refine Wd ?_|refine We rfl ?_|refine Wf (by exact Vb) rfl ?_|refine Wj ?_|refine Ws ?_|refine Wt ?_|refine Wu ?_)
        rw [evG_false hrm hsm hb]
        exact CT.done () rfl (fun w ho => ho.ent)
      refine JQ.reslot 42 (.bool false) (by simp [hsq]) ?_
      repeat (refine Wy rfl (by first|exact Va|exact Vc|exact Vd|exact Vo) rfl ?_)
      by_cases hlt : s.1.1.ev.seq < r.1.1.ev.seq
      · refine JQ.reslot 50 (.bool true) (by simp [hlt]) ?_
        repeat (refine Wy rfl (by first|exact Vc|exact Vd) rfl ?_)
        refine Wy rfl (OpV.lookupNo (M := knM R) (v := .map (some r.2.2.2)) (idC r.1.1) hkK (by rw [hgk]; rfl)) rfl ?_
        repeat (refine Wy rfl (by exact Vc) rfl ?_)
        refine Wy rfl (OpV.setHas (L := r.1.2) (idC s.1.1) (hS r hrm)) rfl ?_
        repeat (first|refine Wy rfl (by first|exact Vh|exact Vi|exact Vj) rfl ?_|refine WB ?_)
        repeat (refine Wa ?_)
        refine JC.test (fun hk => ?_) (fun hk => ?_)
        · have hb : evBad r s = true := by
            have hk' : idC s.1.1 ∉ r.1.2 := by simpa using hk

            simp [evBad, he, hnd', hlt, hk']
          repeat (first|refine Wa ?_|refine Wb ?_|refine Wc ?_|refine Wd ?_|refine We rfl ?_|refine Wf (by exact Vb) rfl ?_|refine Ws ?_|refine Wt ?_|refine Wu ?_)
          rw [evG_false hrm hsm hb]
          exact CT.done () rfl (fun w ho => ho.ent)
        · have hb : evBad r s = false := by
            have hk' : idC s.1.1 ∈ r.1.2 := by simpa using hk
            simp [evBad, hsq, hk']
          repeat (first|refine Wa ?_|refine Wl ?_|refine Wr ?_)
          exact ⟨S2 ++ [i], ⟨hT3, hT4, next hb⟩, by simp at hlt3 ⊢; omega, inferInstance⟩
      · have hb : evBad r s = false := by simp [evBad, hsq, hlt]
        refine JQ.reslot 50 (.bool false) (by simp [hlt]) ?_
        repeat (first|refine Wy rfl (by first|exact Vc|exact Vd|exact Vj) rfl ?_|refine Wz rfl rfl ?_|refine WB ?_)
        repeat (first|refine Wa ?_|refine Wk ?_|refine Wl ?_|refine Wr ?_)
        exact ⟨S2 ++ [i], ⟨hT3, hT4, next hb⟩, by simp at hlt3 ⊢; omega, inferInstance⟩
end Ab
end Go.Proofs.YtdgeffphifgflaaGreat

/- Contracts of comparators, whether draws are told or not: cmp.Compare, cmp.Or, the comparators of dag.of and dag.Sorted. -/
namespace Go.Proofs.YtdgeffphifgflaaGreat
namespace Ab
open Go Go.RowKit
set_option linter.unusedVariables false
set_option linter.unusedSimpArgs false
set_option synthInstance.maxSize 4000
set_option synthInstance.maxHeartbeats 400000
attribute [local irreducible] JC JO JR JQ andThen inBlock OpV Gives retTo JM JS

def cmpI (a b : Int) : Int := if a < b then -1 else if b < a then 1 else 0
theorem nan_int [Dr] (w : World) (F : Nat → Prop) (a : Int) : GivesV Tryz.prog 139 [.int .i64 a] w F (.bool false) := by
  refine gives_of Tryz.func139 rfl Tryz.ntmps139 rfl rfl [] (.start w F) ?_
  repeat (first|refine Wa ?_|refine Wb ?_|refine Wc ?_|refine Wd ?_|refine We rfl ?_|refine Wf (by first|exact Va|exact Vb|exact Vm) rfl ?_|refine Ws ?_)
  exact CT.done () (by simp [packed]) (fun w ho => ho.ent)
theorem compare_int [Dr] (w : World) (F : Nat → Prop) (a b : Int) : GivesV Tryz.prog 72 [.int .i64 a, .int .i64 b] w F (.int .i64 (cmpI a b)) := by
  refine gives_of Tryz.func72 rfl Tryz.ntmps72 rfl rfl [] (.start w F) ?_
  repeat (first|refine Wa ?_|refine Wb ?_|refine Wc ?_|refine Wd ?_|refine We rfl ?_|refine Wf (by first|exact Va|exact Vb) rfl ?_)
  refine JR.callV rfl (fun w1 hw => nan_int w1 _ a) ?_
  repeat (first|refine Wa ?_|refine Wb ?_|refine Wc ?_|refine Wd ?_|refine We rfl ?_|refine Wf (by first|exact Va|exact Vb) rfl ?_)
  refine JR.callV rfl (fun w1 hw => nan_int w1 _ b) ?_
  repeat (first|refine Wa ?_|refine Wb ?_|refine Wc ?_|refine Wd ?_|refine We rfl ?_|refine Wf (by first|exact Va|exact Vb|exact Vg) rfl ?_|refine Wk ?_|refine Wl ?_)
  refine JC.test (fun h => ?_) (fun h => ?_)
  · have e1 : cmpI a b = -1 := by simp [cmpI, h]
    rw [e1]
    repeat (first|refine Wa ?_|refine Wb ?_|refine Wc ?_|refine Wd ?_|refine We rfl ?_|refine Wf (by exact Vb) rfl ?_|refine Ws ?_|refine Wt ?_)
    exact CT.done () rfl (fun w ho => ho.ent)
  repeat (first|refine Wa ?_|refine Wb ?_|refine Wc ?_|refine Wd ?_|refine We rfl ?_|refine Wf (by first|exact Va|exact Vo) rfl ?_|refine Wl ?_)
  refine JC.test (fun h' => ?_) (fun h' => ?_)
  · have e1 : cmpI a b = 1 := by simp [cmpI, h, h']
    rw [e1]
    repeat (first|refine Wa ?_|refine Wb ?_|refine Wc ?_|refine Wd ?_|refine We rfl ?_|refine Wf (by exact Vb) rfl ?_|refine Ws ?_|refine Wt ?_)
    exact CT.done () rfl (fun w ho => ho.ent)
  · have e1 : cmpI a b = 0 := by simp [cmpI, h, h']
    rw [e1]
    repeat (first|refine Wa ?_|refine Wb ?_|refine Wc ?_|refine Wd ?_|refine We rfl ?_|refine Wf (by exact Vb) rfl ?_|refine Wl ?_|refine Ws ?_)
    exact CT.done () rfl (fun w ho => ho.ent)

/-- The first one that is not 0. -/
def orL : List Int → Int
  | [] => 0
  | x :: l => if x ≠ 0 then x else orL l
theorem orL_take (L : List Int) (k : Nat) (hk : k ≤ L.length) (h : ∀ j (hj : j < L.length), j < k → L[j] = 0) : orL L = orL (L.drop k) := by
  induction k generalizing L with
  | zero => rfl
  | succ k ih =>
    cases L with
    | nil => simp at hk
    | cons x L =>
      have h0 : x = 0 := h 0 (by simp) (by omega)
      have := ih L (by simpa using hk) (fun j hj hjk => h (j + 1) (by simpa using hj) (by omega))
      simp [orL, h0, this]
theorem or_int [Dr] (w : World) (F : Nat → Prop) (a : Option Addr) (k : Nat) (L : List Int) (h : (sl a k L).holds F w) : GivesV Tryz.prog 71 [.slice a L.length k] w F (.int .i64 (orL L)) := by
  have hL : L.length < 9223372036854775807 := by have := h.2.2.1; simp only [lim] at this; omega
  refine gives_of Tryz.func71 rfl Tryz.ntmps71 rfl rfl [.st (sl a k L)] (.start1 h) ?_
  repeat (first|refine Wa ?_|refine Wb ?_|refine Wc ?_|refine Wd ?_|refine We rfl ?_|refine Wf (by first|exact Va|exact Vb|exact Vf) rfl ?_|refine Wn ?_)
  refine JC.loop1 (fun i : Nat => [(3, .int .i64 0), (6, .slice a L.length k), (7, .int .i64 (L.length : Int)), (8, .int .i64 (i : Int))]) (fun i => [.st (sl a k L)])
    (fun i => i ≤ L.length ∧ ∀ j (hj : j < L.length), j < i → L[j] = 0) (fun i => L.length - i) 0 ⟨Nat.zero_le _, fun j hj h => by omega⟩ inferInstance ?_
  intro i ⟨hi, hz⟩
  repeat (first|refine Wa ?_|refine Wb ?_|refine Wc ?_|refine Wd ?_|refine We rfl ?_|refine Wf (by exact Vg) rfl ?_)
  refine JC.test (fun hlt => ?_) (fun hge => ?_)
  · have hlt' : i < L.length := by omega
    repeat (first|refine Wa ?_|refine Wb ?_|refine Wc ?_|refine We rfl ?_|refine Wl ?_|refine Wn ?_)
    refine JR.indexInt rfl hlt' ?_
    intro b o
    repeat (first|refine Wa ?_|refine Wb ?_|refine Wc ?_|refine Wd ?_|refine We rfl ?_|refine Wf (by first|exact Va|exact Vb|exact Vc|exact Vm) rfl ?_)
    refine JC.test (fun h0 => ?_) (fun h0 => ?_)
    · have e1 : orL L = L[i] := by
        rw [orL_take L i hi hz, List.drop_eq_getElem_cons hlt']
        simp [orL, h0]
      rw [e1]
      repeat (first|refine Wa ?_|refine Wb ?_|refine Wc ?_|refine Wd ?_|refine We rfl ?_|refine Wf (by first|exact Va|exact Vb) rfl ?_|refine Ws ?_|refine Wt ?_|refine Wu ?_)
      exact CT.done () rfl (fun w ho => ho.ent)
    · repeat (first|refine Wa ?_|refine Wc ?_|refine Wd ?_|refine We rfl ?_|refine Wf (by first|exact Va|exact Vk (by omega)) rfl ?_|refine Wl ?_|refine Wr ?_)
      refine ⟨i + 1, ⟨by omega, fun j hj hji => ?_⟩, by omega, inferInstance⟩
      by_cases hj' : j = i
      · subst hj'; simpa using h0
      · exact hz j hj (by omega)
  · have e1 : orL L = 0 := by rw [orL_take L i hi hz, List.drop_of_length_le (by omega)]; rfl
    rw [e1]
    repeat (first|refine Wa ?_|refine Wb ?_|refine Wc ?_|refine Wd ?_|refine We rfl ?_|refine Wf (by first|exact Va|exact Vb) rfl ?_|refine Wm ?_|refine Wo ?_|refine Wp ?_|refine Ws ?_)
    exact CT.done () rfl (fun w ho => ho.ent)

theorem of1_dag [Dr] (w : World) (F : Nat → Prop) (a : Option Addr) (k bl : Nat) (L : List Commit) (i j : Nat) (hi : i < L.length) (hj : j < L.length) (h : (sl a k L).holds F w) (hb : (ro bl 0 [.slice a L.length k]).holds F w) :
    GivesV Tryz.prog 134 [.int .i64 (i : Int), .int .i64 (j : Int), .pointer (some ⟨bl, 0, none⟩)] w F (.int .i64 (cmpI L[i].gen L[j].gen)) := by
  refine gives_of Tryz.func134 rfl Tryz.ntmps134 rfl rfl [.st (sl a k L), .st (ro bl 0 [.slice a L.length k])] (.start2 h hb) ?_
  repeat (first|refine Wa ?_|refine Wb ?_|refine Wc ?_|refine Wd ?_|refine We rfl ?_|refine Wf (by exact Vb) rfl ?_)
  refine JC.openCommit (L := L) (.slice a L.length k) i hi ?_
  intro b1 o1 p1 q1
  refine JC.openCommit (L := L) (.slice a L.length k) j hj ?_
  intro b2 o2 p2 q2
  refine JC.quiet mixed (by kernel_rfl) ?_
  repeat (refine Wy rfl (by first|exact Va|exact Vc|exact Vd|exact Ve) rfl ?_)
  refine JQ.call rfl rfl (fun w1 hw => compare_int w1 _ (L[i]).gen (L[j]).gen) ?_
  repeat (first|refine Wy rfl (by exact Vb) rfl ?_|refine WB ?_)
  repeat (first|refine Wa ?_|refine Ws ?_)
  exact CT.done () rfl (fun w ho => ho.ent)
theorem Hold.start4 [Dr] {A B C D : Asn} {w : World} {F : Nat → Prop} (h : A.holds F w) (h2 : B.holds F w) (h3 : C.holds F w) (h4 : D.holds F w) : Hold w F [.st A, .st B, .st C, .st D] w :=
  (Hold.start3 h2 h3 h4).add (Asn.mono _ _ _ _ (fun k hk => ⟨.inl hk, by simp [free, Fact.owns]⟩) h)
/-- A block of whole numbers, read as a row. -/
theorem sl_ints {w : World} {b : Nat} {L : List Int} {t : TypeId} (h : w.heap[b]? = some (.cells (L.map (fun n => Value.int .i64 n)).toArray t (0, 0))) (hmax : L.length ≤ 4096) : (sl (some ⟨b, 0, none⟩) L.length L).holds (fun _ => True) w := by
  refine ⟨by omega, by simp [maxLen]; omega, by simp only [lim]; omega, fun hne => ⟨b, 0, rfl, trivial, (Array.getElem?_eq_some_iff.1 h).1, fun i hi => ⟨(), ?_, by simp [Cell.facts]⟩⟩⟩
  intro j v hj
  simp only [Cell.cells, List.getElem?_singleton] at hj
  split at hj
  · rename_i h0; subst h0
    injection hj with hj
    subst hj
    rw [cell_of_row w b _ _ _ _ h]
    simp [Cell.sz, hi]
  · cases hj
theorem sorted1_dag [Dr] (w : World) (F : Nat → Prop) (a c : Option Addr) (k m bl ba : Nat) (L : List Commit) (I : List ID) (i j : Nat) (hi : i < L.length) (hj : j < L.length) (hi' : i < I.length) (hj' : j < I.length)
    (h : (sl a k L).holds F w) (hb : (ro bl 0 [.slice a L.length k]).holds F w) (h' : (sl c m I).holds F w) (hb' : (ro ba 0 [.slice c I.length m]).holds F w) :
    GivesV Tryz.prog 70 [.int .i64 (i : Int), .int .i64 (j : Int), .pointer (some ⟨bl, 0, none⟩), .pointer (some ⟨ba, 0, none⟩)] w F (.int .i64 (orL [cmpI L[i].gen L[j].gen, idCmp I[i] I[j]])) := by
  refine gives_of Tryz.func70 rfl Tryz.ntmps70 rfl rfl [.st (sl a k L), .st (ro bl 0 [.slice a L.length k]), .st (sl c m I), .st (ro ba 0 [.slice c I.length m])] (.start4 h hb h' hb') ?_
  repeat (first|refine Wa ?_|refine Wb ?_|refine Wc ?_|refine Wd ?_|refine We rfl ?_|refine Wf (by exact Vb) rfl ?_)
  refine JC.openCommit (L := L) (.slice a L.length k) i hi ?_
  intro b1 o1 p1 q1
  refine JC.openCommit (L := L) (.slice a L.length k) j hj ?_
  intro b2 o2 p2 q2
  refine JC.openID (L := I) (.slice c I.length m) i hi' ?_
  intro b3 o3
  refine JC.openID (L := I) (.slice c I.length m) j hj' ?_
  intro b4 o4
  refine JC.draw 20 mixed ?_
  refine JM.take 0 rfl (by kernel_rfl) rfl Vc rfl rfl ?_
  refine JM.take 1 rfl (by kernel_rfl) rfl Va rfl rfl ?_
  refine JM.take 2 rfl (by kernel_rfl) rfl Ve rfl rfl ?_
  refine JM.take 3 rfl (by kernel_rfl) rfl Vd rfl rfl ?_
  refine JM.take 4 rfl (by kernel_rfl) rfl Vc rfl rfl ?_
  refine JM.take 5 rfl (by kernel_rfl) rfl Vc rfl rfl ?_
  refine JM.take 6 rfl (by kernel_rfl) rfl Va rfl rfl ?_
  refine JM.take 7 rfl (by kernel_rfl) rfl Ve rfl rfl ?_
  refine JM.take 8 rfl (by kernel_rfl) rfl Vd rfl rfl ?_
  refine JM.take 9 rfl (by kernel_rfl) rfl Vc rfl rfl ?_
  refine JM.takeCall 10 rfl (by kernel_rfl) rfl (fun w1 hw => compare_int w1 _ (L[i]).gen (L[j]).gen) rfl rfl ?_
  refine JM.take 11 rfl (by kernel_rfl) rfl Vc rfl rfl ?_
  refine JM.take 12 rfl (by kernel_rfl) rfl Va rfl rfl ?_
  refine JM.take 13 rfl (by kernel_rfl) rfl Ve rfl rfl ?_
  refine JM.take 14 rfl (by kernel_rfl) rfl (OpV.sliceArr (by decide)) rfl rfl ?_
  refine JM.take 15 rfl (by kernel_rfl) rfl Vc rfl rfl ?_
  refine JM.take 16 rfl (by kernel_rfl) rfl Va rfl rfl ?_
  refine JM.take 17 rfl (by kernel_rfl) rfl Ve rfl rfl ?_
  refine JM.take 18 rfl (by kernel_rfl) rfl (OpV.sliceArr (by decide)) rfl rfl ?_
  refine JM.takeCall (v := .int .i64 (idCmp I[i] I[j])) 19 rfl (by kernel_rfl) rfl (fun w1 hw => ?_) rfl rfl ?_
  · have e1 := At.sl_bytes (Γ := [.st (ro b3 o3 (idc I[i]))]) (b := b3) inferInstance rfl hw.ent (I[i]).2 (by decide)
    have e2 := At.sl_bytes (Γ := [.st (ro b4 o4 (idc I[j]))]) (b := b4) inferInstance rfl hw.ent (I[j]).2 (by decide)
    have := (compare_bytes w1 (fun _ => True) (some ⟨b3, o3, none⟩) (some ⟨b4, o4, none⟩) 32 32 (I[i]).1 (I[j]).1 e1 e2)
    rw [(I[i]).2, (I[j]).2] at this
    exact this.any
  refine JM.last 20 (by kernel_rfl) rfl rfl rfl (Ww rfl ⟨rfl, by decide, by decide, by decide⟩ fun lb => Wd ⟨rfl, ?_⟩)
  refine JM.last 21 (by kernel_rfl) rfl rfl rfl (JR.callV (v := .int .i64 (orL [cmpI L[i].gen L[j].gen, idCmp I[i] I[j]])) rfl (fun w1 hw => ?_) (Wd ⟨rfl, ?_⟩))
  · have hb := hw.sat (.own lb 3 [.int .i64 (cmpI L[i].gen L[j].gen), .int .i64 (idCmp I[i] I[j])]) (by simp)
    exact (or_int w1 (fun _ => True) _ 2 [cmpI L[i].gen L[j].gen, idCmp I[i] I[j]] (sl_ints (L := [cmpI L[i].gen L[j].gen, idCmp I[i] I[j]]) hb (by simp))).any
  refine JM.last 22 (by kernel_rfl) rfl rfl rfl (Wf Vb rfl (Wd ⟨rfl, ?_⟩))
  refine JM.nil (by kernel_rfl) ?_
  repeat (first|refine Wa ?_|refine Ws ?_)
  exact CT.done () rfl (fun w ho => ho.ent)
end Ab
end Go.Proofs.YtdgeffphifgflaaGreat

/- The library's sort of a row of places, by a comparator with captured boxes. Program-independent. -/
namespace Go.Proofs.YtdgeffphifgflaaGreat
namespace Ab
open Go Go.RowKit Go.Sort Go.Shelf
set_option linter.unusedVariables false
set_option linter.unusedSimpArgs false

/-- What a call that is told with its draws leaves. -/
theorem grow_of_bel [dr : Dr] (hdr : Dr.on) {w w' : World} (h : Bel w.heap.size w w') : ∃ q os, w' = grow (w.drewN q) os := by
  refine ⟨w'.drawn - w.drawn, w'.heap.extract w.heap.size, ?_⟩
  have h1 := h.drawn hdr
  have h2 := h.os; have h3 := h.tape; have h4 := h.output
  have hh : w.heap ++ w'.heap.extract w.heap.size = w'.heap := by
    apply Array.ext_getElem?
    intro i
    by_cases hi : i < w.heap.size
    · rw [Array.getElem?_append_left hi]; exact (h.block i hi).symm
    · rw [Array.getElem?_append_right (by omega), Array.getElem?_extract]
      have := h.size
      by_cases hi' : i < w'.heap.size
      · rw [if_pos (by omega)]; congr 1; omega
      · rw [if_neg (by omega), Array.getElem?_eq_none (by omega)]
  cases w; cases w'
  simp only [World.drewN, grow] at *
  subst h2 h3 h4
  simp only [hh]
  congr 1
  omega

abbrev Sorted2 {m : Nat} (cf : Fin (m + 1) → Fin (m + 1) → Int) := { O : List (Fin (m + 1)) // O.Perm (List.finRange (m + 1)) ∧ O.Pairwise (fun i j => Go.Proofs.ltOf cf j i = false) }
theorem sort_places [Dr] {P : Program} {ρ : Ren} (Ly : Go.Proofs.SlLaysF.n6 P ρ) {m : Nat} (cf : Fin (m + 1) → Fin (m + 1) → Int) (hO : SWO (Go.Proofs.ltOf cf)) (g : FuncId) (caps : List Value) [eg : Body P g] {w0 w : World} {F : Nat → Prop} {Γ : List Fact} {b c : Nat} {el : TypeId}
    (hm : m < 1000000) (ho : Hold w0 F (.own b el ((List.range (m + 1)).map natV) :: Γ) w)
    (hc : ∀ W : World, (∀ A : Asn, A.holds (fp w0 F (.own b el ((List.range (m + 1)).map natV) :: Γ)) w → A.holds (fp w0 F (.own b el ((List.range (m + 1)).map natV) :: Γ)) W) →
      ∀ x y : Fin (m + 1), @GivesV ⟨True⟩ P g ([natV x.1, natV y.1] ++ caps) W (fp w0 F (.own b el ((List.range (m + 1)).map natV) :: Γ)) (.int .i64 (cf x y))) :
    Calls P (ρ.f 6) ⟨[.slice (some ⟨b, 0, none⟩) (m + 1) c, .func (.func g) ⟨[]⟩ ⟨caps⟩]⟩ w fun x w' => ∃ O : Sorted2 cf, x = .returned (.tuple ⟨[]⟩) ∧ Hold w0 F (.own b el (O.1.map fun i => natV i.1) :: Γ) w' := by
  have hw : w.heap[b]? = some (.cells ((List.range (m + 1)).map natV).toArray el (0, 0)) := ho.sat (.own b el _) (by simp)
  have hlt : b < w.heap.size := (Array.getElem?_eq_some_iff.1 hw).1
  obtain ⟨enc, henc⟩ : ∃ enc : Fin (m + 1) → Value, enc = fun i => natV i.1 := ⟨_, rfl⟩
  obtain ⟨d, hd⟩ : ∃ d : Array (Fin (m + 1)), d = (List.finRange (m + 1)).toArray := ⟨_, rfl⟩
  have hds : d.size = m + 1 := by rw [hd]; simp
  have hdg : ∀ j, j < m + 1 → enc d[j]! = natV j := by
    intro j hj
    rw [henc, hd]
    simp [hj]
  have hH : Holds enc w b 0 d := by
    intro j hj
    rw [hds] at hj
    rw [hdg j hj]
    constructor
    · rw [Nat.zero_add, cell_of_row w b j _ el _ hw]
      simp [hj]
    · simp [World.frozen?, hw]
  have h1 : Go.Proofs.OneCell enc := fun x => by rw [henc]; rfl
  have hcmp : Go.Proofs.CmpLays1 P g ⟨caps⟩ enc cf b 0 d.size w := by
    intro q os dk hdk x y
    have hold : ∀ k, k < w.heap.size → k ≠ b → (Go.Proofs.sortWorld enc w b 0 q dk os).heap[k]? = w.heap[k]? := by
      intro k hk hkb
      unfold Go.Proofs.sortWorld
      rw [heap_grow_old]
      · simp [Go.Sort.putRow, Go.Sort.mapBlock, Array.getElem?_modify, Ne.symm hkb, Go.Sort.ahead]
      · simp [Go.Sort.putRow, Go.Sort.mapBlock, Go.Sort.ahead]; exact hk
    have hx := hc (Go.Proofs.sortWorld enc w b 0 q dk os) (fun A hA => by
      have hA2 := A.within _ _ hA
      refine A.mono _ _ _ (fun k hk => hk.1) (A.frame _ _ _ (fun k hk => ?_) hA2)
      exact hold k hk.2 (fun e => hk.1.2 (.own b el ((List.range (m + 1)).map natV)) (by simp) e)) x y
    have e1 : (#[enc x, enc y] ++ (⟨caps⟩ : Array Value)) = ⟨[natV x.1, natV y.1] ++ caps⟩ := by rw [henc]; apply Array.ext'; simp
    rw [e1]
    refine Calls.mono hx ?_
    rintro e w' ⟨_, he, hb, _⟩
    exact ⟨he, grow_of_bel (dr := ⟨True⟩) trivial hb⟩
  have hs := Go.Proofs.Any.slices_SortFunc Ly enc h1 cf hO g ⟨caps⟩ b 0 c d w eg.ok hcmp hH hlt (by rw [hds]; omega)
  rw [hds] at hs
  refine Calls.mono hs ?_
  rintro x w' ⟨hx, d', q, os, hp, hsrt, rfl⟩
  obtain ⟨hp1, _, hp3⟩ := hp
  have hd's : d'.size = m + 1 := by rw [hp1, hds]
  have hperm : d'.toList.Perm (List.finRange (m + 1)) := by
    have e1 : (d'.extract 0 (m + 1)).toList = d'.toList := by rw [Array.extract_eq_self_of_le (by omega)]
    have e2 : (d.extract 0 (m + 1)).toList = d.toList := by rw [Array.extract_eq_self_of_le (by omega)]
    rw [e1, e2] at hp3
    rw [hd] at hp3
    exact hp3
  have hpair : d'.toList.Pairwise (fun i j => Go.Proofs.ltOf cf j i = false) := by
    rw [List.pairwise_iff_getElem]
    intro i j hi hj hij
    have hi' : i < d'.size := by simpa using hi
    have hj' : j < d'.size := by simpa using hj
    have := hsrt i j (Nat.zero_le _) hij (by omega)
    rw [getElem!_pos d' j hj', getElem!_pos d' i hi'] at this
    simpa using this
  refine ⟨⟨d'.toList, hperm, hpair⟩, hx, ?_⟩
  have hrow : (Go.Sort.putRow enc (Go.Sort.ahead w q) b 0 d').heap[b]? = some (.cells (d'.toList.map fun i => natV i.1).toArray el (0, 0)) := by
    have : (Go.Sort.ahead w q).heap[b]? = some (.cells ((List.range (m + 1)).map natV).toArray el (0, 0)) := hw
    simp only [Go.Sort.putRow, Go.Sort.mapBlock, Array.getElem?_modify, this]
    simp only [if_true, Option.map_some, Go.Sort.onCells]
    congr 2
    apply Array.ext_getElem?
    intro k
    simp only [Go.Sort.putCells, Array.getElem?_mapIdx]
    by_cases hk : k < m + 1
    · have hk' : k < d'.size := by omega
      simp [hk, hk', henc]
    · have hk' : ¬ k < d'.size := by omega
      simp [hk, hk']
  have h2 : Hold w0 F (.own b el (d'.toList.map fun i => natV i.1) :: Γ) (Go.Sort.putRow enc (Go.Sort.ahead w q) b 0 d') :=
    ho.swap (b := b) (fun _ => Iff.rfl) (fun _ => Iff.rfl) rfl rfl rfl (by simp [Go.Sort.putRow, Go.Sort.mapBlock, Go.Sort.ahead])
      (fun k hk => by simp [Go.Sort.putRow, Go.Sort.mapBlock, Array.getElem?_modify, Ne.symm hk, Go.Sort.ahead]) hrow (hdr := Nat.le_add_right _ _)
  exact h2.of_below ⟨rfl, rfl, rfl, by simp [Go.Proofs.sortWorld, grow, Go.Sort.putRow, Go.Sort.mapBlock, Go.Sort.ahead], fun k hk => heap_grow_old _ _ hk, fun _ => Nat.le_refl _⟩
/-- Places sorted by f. -/
abbrev Order (cf : Nat → Nat → Int) (n : Nat) := { O : List Nat // O.Perm (List.range n) ∧ O.Pairwise (fun i j => ¬ cf j i < 0) }
theorem sort_order [Dr] {P : Program} {ρ : Ren} (Ly : Go.Proofs.SlLaysF.n6 P ρ) (cf : Nat → Nat → Int) (hO : SWO (Go.Proofs.ltOf cf)) (g : FuncId) (caps : List Value) [eg : Body P g] {w0 w : World} {F : Nat → Prop} {Γ : List Fact} {b c n : Nat} {el : TypeId}
    (hm : n ≤ 1000000) (ho : Hold w0 F (.own b el ((List.range n).map natV) :: Γ) w)
    (hc : ∀ W : World, (∀ A : Asn, A.holds (fp w0 F (.own b el ((List.range n).map natV) :: Γ)) w → A.holds (fp w0 F (.own b el ((List.range n).map natV) :: Γ)) W) →
      ∀ x y : Nat, x < n → y < n → @GivesV ⟨True⟩ P g ([natV x, natV y] ++ caps) W (fp w0 F (.own b el ((List.range n).map natV) :: Γ)) (.int .i64 (cf x y))) :
    Calls P (ρ.f 6) ⟨[.slice (some ⟨b, 0, none⟩) n c, .func (.func g) ⟨[]⟩ ⟨caps⟩]⟩ w fun x w' => ∃ O : Order cf n, x = .returned (.tuple ⟨[]⟩) ∧ Hold w0 F (.own b el (O.1.map natV) :: Γ) w' := by
  cases n with
  | zero =>
    refine Calls.mono (Go.Proofs.AnyF.slices_SortFunc_none (P := P) (ρ := ρ) { Ly with } (some ⟨b, 0, none⟩) c _ w) ?_
    rintro x w' ⟨hx, rfl⟩
    exact ⟨⟨[], by simp, by simp⟩, hx, ho⟩
  | succ m =>
    have := sort_places Ly (m := m) (c := c) (fun x y => cf x.1 y.1) ⟨fun x => hO.irrefl x.1, fun x y z h1 h2 => hO.trans x.1 y.1 z.1 h1 h2, fun x y z h1 h2 => hO.ntrans x.1 y.1 z.1 h1 h2⟩ g caps (by omega) ho (fun W hW x y => hc W hW x.1 y.1 x.2 y.2)
    refine Calls.mono this ?_
    rintro x w' ⟨O, hx, hO'⟩
    refine ⟨⟨O.1.map (·.1), ?_, ?_⟩, hx, by rw [List.map_map]; exact hO'⟩
    · have := O.2.1.map (·.1)
      have e : (List.finRange (m + 1)).map (fun x => x.1) = List.range (m + 1) := by
        apply List.ext_getElem
        · simp
        · intro i h1 h2; simp
      rwa [e] at this
    · rw [List.pairwise_map]
      refine O.2.2.imp ?_
      intro i j h
      simpa [Go.Proofs.ltOf] using h
end Ab
end Go.Proofs.YtdgeffphifgflaaGreat

/- The library's sorting contract laid at this seat's sort of whole numbers: written by genlay.py. -/
namespace Go.Proofs.YtdgeffphifgflaaGreat
namespace Ab
open Go
def sortInt_ren : Go.Shelf.Ren := ⟨fun | 6 => 69 | 14 => 137 | 15 => 138 | 20 => 189 | 21 => 190 | 22 => 191 | 23 => 192 | 24 => 193 | 25 => 194 | 26 => 195 | 27 => 196 | 28 => 197 | 29 => 198 | 46 => 238 | 47 => 239 | 48 => 240 | 49 => 241 | 50 => 242 | 57 => 258 | n => n, fun | 22 => 45 | 24 => 3 | 25 => 106 | 39 => 166 | 45 => 211 | 46 => 212 | 50 => 119 | 53 => 62 | 55 => 144 | 66 => 237 | 70 => 240 | 76 => 253 | 77 => 254 | n => n, fun | n => n⟩
open Go.Shelf Go.Proofs in
theorem sortInt : SlLaysF.n6 Tryz.prog sortInt_ren where
  mixed := by kernel_rfl
  f6 := ⟨ "slices.SortFunc[[]int,int]", by decide, Tryz.func69.trans (congrArg some (by kernel_rfl))⟩
  f14 := ⟨ "slices.pdqsortCmpFunc[int]", by decide, Tryz.func137.trans (congrArg some (by kernel_rfl))⟩
  f15 := Tryz.func138.trans (congrArg some (by kernel_rfl))
  f20 := ⟨ "slices.insertionSortCmpFunc[int]", by decide, Tryz.func189.trans (congrArg some (by kernel_rfl))⟩
  f21 := ⟨ "slices.heapSortCmpFunc[int]", by decide, Tryz.func190.trans (congrArg some (by kernel_rfl))⟩
  f22 := ⟨ "slices.breakPatternsCmpFunc[int]", by decide, Tryz.func191.trans (congrArg some (by kernel_rfl))⟩
  f23 := ⟨ "slices.choosePivotCmpFunc[int]", by decide, Tryz.func192.trans (congrArg some (by kernel_rfl))⟩
  f24 := ⟨ "slices.reverseRangeCmpFunc[int]", by decide, Tryz.func193.trans (congrArg some (by kernel_rfl))⟩
  f25 := ⟨ "slices.partialInsertionSortCmpFunc[int]", by decide, Tryz.func194.trans (congrArg some (by kernel_rfl))⟩
  f26 := ⟨ "slices.partitionEqualCmpFunc[int]", by decide, Tryz.func195.trans (congrArg some (by kernel_rfl))⟩
  f27 := ⟨ "slices.partitionCmpFunc[int]", by decide, Tryz.func196.trans (congrArg some (by kernel_rfl))⟩
  f28 := Tryz.func197.trans (congrArg some (by kernel_rfl))
  f29 := Tryz.func198.trans (congrArg some (by kernel_rfl))
  f46 := ⟨ "slices.siftDownCmpFunc[int]", by decide, Tryz.func238.trans (congrArg some (by kernel_rfl))⟩
  f47 := Tryz.func239.trans (congrArg some (by kernel_rfl))
  f48 := Tryz.func240.trans (congrArg some (by kernel_rfl))
  f49 := ⟨ "slices.medianAdjacentCmpFunc[int]", by decide, Tryz.func241.trans (congrArg some (by kernel_rfl))⟩
  f50 := ⟨ "slices.medianCmpFunc[int]", by decide, Tryz.func242.trans (congrArg some (by kernel_rfl))⟩
  f57 := ⟨ "slices.order2CmpFunc[int]", by decide, Tryz.func258.trans (congrArg some (by kernel_rfl))⟩
  t0 := Tryz.underlying0
  a0 := Tryz.isAgg0
  z0 := Tryz.sizeOf0
  v0 := Tryz.zeroValue0
  t3 := Tryz.underlying3
  a3 := Tryz.isAgg3
  z3 := Tryz.sizeOf3
  v3 := Tryz.zeroValue3
  t4 := Tryz.underlying4
  a4 := Tryz.isAgg4
  z4 := Tryz.sizeOf4
  v4 := Tryz.zeroValue4
  t5 := Tryz.underlying5
  a5 := Tryz.isAgg5
  z5 := Tryz.sizeOf5
  v5 := Tryz.zeroValue5
  t9 := Tryz.underlying9
  a9 := Tryz.isAgg9
  z9 := Tryz.sizeOf9
  v9 := Tryz.zeroValue9
  t22 := Tryz.underlying45
  a22 := Tryz.isAgg45
  z22 := Tryz.sizeOf45
  v22 := Tryz.zeroValue45
  a24 := Tryz.isAgg3
  z24 := Tryz.sizeOf3
  t25 := Tryz.underlying106
  a25 := Tryz.isAgg106
  z25 := Tryz.sizeOf106
  v25 := Tryz.zeroValue106
  t39 := Tryz.underlying166
  a39 := Tryz.isAgg166
  z39 := Tryz.sizeOf166
  v39 := Tryz.zeroValue166
  t45 := Tryz.underlying211
  a45 := Tryz.isAgg211
  z45 := Tryz.sizeOf211
  v45 := Tryz.zeroValue211
  t46 := Tryz.underlying212
  a46 := Tryz.isAgg212
  z46 := Tryz.sizeOf212
  v46 := Tryz.zeroValue212
  t50 := Tryz.underlying119
  a50 := Tryz.isAgg119
  z50 := Tryz.sizeOf119
  v50 := Tryz.zeroValue119
  t53 := Tryz.underlying62
  a53 := Tryz.isAgg62
  z53 := Tryz.sizeOf62
  v53 := Tryz.zeroValue62
  t55 := Tryz.underlying144
  a55 := Tryz.isAgg144
  z55 := Tryz.sizeOf144
  v55 := Tryz.zeroValue144
  t66 := Tryz.underlying237
  a66 := Tryz.isAgg237
  z66 := Tryz.sizeOf237
  v66 := Tryz.zeroValue237
  t70 := Tryz.underlying240
  a70 := Tryz.isAgg240
  z70 := Tryz.sizeOf240
  v70 := Tryz.zeroValue240
  t76 := Tryz.underlying253
  a76 := Tryz.isAgg253
  z76 := Tryz.sizeOf253
  v76 := Tryz.zeroValue253
  t77 := Tryz.underlying254
  a77 := Tryz.isAgg254
  z77 := Tryz.sizeOf254
  v77 := Tryz.zeroValue254
end Ab
end Go.Proofs.YtdgeffphifgflaaGreat

/- Contract of dag.of: the graph of commits, if they are closed. -/
namespace Go.Proofs.YtdgeffphifgflaaGreat
namespace Ab
open Go Go.RowKit
set_option linter.unusedVariables false
set_option linter.unusedSimpArgs false
set_option synthInstance.maxSize 4000
set_option synthInstance.maxHeartbeats 400000
attribute [local irreducible] JC JO JR JQ andThen inBlock OpV Gives retTo JM JS

attribute [local irreducible] ents hashC graphA
theorem evG_iff {R : List Row} (hb : BuiltR (grOf R)) : evG R = true ↔ ∀ c ∈ nodes (grOf R), ∀ d ∈ nodes (grOf R), evOk (nodes (grOf R)) c d := by
  have hk : ∀ r ∈ R, ∀ x, x ∈ r.1.2 ↔ knows (nodes (grOf R)) (idC r.1.1) x := by
    intro r hr x
    have hg : r.1 ∈ grOf R := List.mem_map.2 ⟨r, hr, rfl⟩
    have h1 := knownBy_of hb.nodup hg
    rw [← h1]
    exact hb.known _ (mem_cids.2 ⟨r.1.1, by rw [nodes_gr]; exact List.mem_map.2 ⟨r, hr, rfl⟩, rfl⟩) x
  have hn : ∀ c, c ∈ nodes (grOf R) ↔ ∃ r ∈ R, r.1.1 = c := fun c => by rw [nodes_gr]; exact List.mem_map
  have key : ∀ r ∈ R, ∀ s ∈ R, evBad r s = false ↔ evOk (nodes (grOf R)) r.1.1 s.1.1 := by
    intro r hr s hs
    unfold evBad evOk
    have := hk r hr (idC s.1.1)
    rw [← this]
    by_cases h1 : idC r.1.1 = idC s.1.1
    · simp [h1]
    by_cases h2 : r.1.1.ev.node = s.1.1.ev.node
    · simp [h1, h2]
    · simp [h2]
  rw [evG, List.all_eq_true]
  simp only [List.all_eq_true, Bool.not_eq_true']
  constructor
  · intro h c hc d hd
    obtain ⟨r, hr, rfl⟩ := (hn c).1 hc
    obtain ⟨s, hs, rfl⟩ := (hn d).1 hd
    exact (key r hr s hs).1 (h r hr s hs)
  · intro h r hr s hs
    exact (key r hr s hs).2 (h _ ((hn _).2 ⟨r, hr, rfl⟩) _ ((hn _).2 ⟨s, hs, rfl⟩))

/-- What of gives. -/
structure OfR where
  bo : Nat
  bk : Nat
  R : List Row
  I : List ID
  p : Option Addr
  q : Nat
  b : Bool
structure OfOk (L : List Commit) (y : OfR) : Prop where
  iff : y.b = true ↔ Closed L
  len : y.I.length ≤ L.length
  ids : y.b = true → y.I = cids L
  built : y.b = true → Built (grOf y.R)
  perm : y.b = true → (nodes (grOf y.R)).Perm L
  nodup : y.b = true → ∀ r ∈ y.R, r.1.2.Nodup
abbrev OfY (L : List Commit) := { y : OfR // OfOk L y }
abbrev ofV {L : List Commit} (y : OfY L) : Value := .tuple ⟨[.agg ⟨[.map (some y.1.bo), .map (some y.1.bk)]⟩, .slice y.1.p y.1.I.length y.1.q, .bool y.1.b]⟩
abbrev ofB {L : List Commit} (y : OfY L) : List Fact := if y.1.b = true then [.st (rmap y.1.bo (ents idV (ofM y.1.R)) (ofM y.1.R).length), .st (rmap y.1.bk (ents idV (knM y.1.R)) (knM y.1.R).length), .st (graphA y.1.R), .st (sl y.1.p y.1.q y.1.I)] else [.st (sl y.1.p y.1.q y.1.I)]
theorem ofOk_no {L : List Commit} {bo bk q : Nat} {R : List Row} {I : List ID} {p : Option Addr} (h : ¬ Closed L) (hl : I.length ≤ L.length) : OfOk L ⟨bo, bk, R, I, p, q, false⟩ :=
  ⟨⟨fun h => Bool.noConfusion h, fun h' => (h h').elim⟩, hl, fun h => Bool.noConfusion h, fun h => Bool.noConfusion h, fun h => Bool.noConfusion h, fun h => Bool.noConfusion h⟩
/-- Commits by places. -/
def genC (L : List Commit) (i : Nat) : Int := (L.getD i commit0).gen
def byO (L : List Commit) (O : List Nat) : List Commit := O.map fun i => L.getD i commit0
theorem byO_perm {L : List Commit} {O : List Nat} (h : O.Perm (List.range L.length)) : (byO L O).Perm L := by
  have h1 := h.map (fun i => L.getD i commit0)
  have e : (List.range L.length).map (fun i => L.getD i commit0) = L := by
    apply List.ext_getElem
    · simp
    · intro i h1 h2; simp [List.getD_eq_getElem?_getD, h2]
  rwa [e] at h1
theorem cmpI_lt (a b : Int) : cmpI a b < 0 ↔ a < b := by
  unfold cmpI
  split
  · simp [*]
  · split <;> simp [*]
theorem swo_gen (L : List Commit) : Go.Sort.SWO (Go.Proofs.ltOf fun i j => cmpI (genC L i) (genC L j)) := by
  have h : ∀ i j, Go.Proofs.ltOf (fun i j => cmpI (genC L i) (genC L j)) i j = decide (genC L i < genC L j) := fun i j => by
    simp only [Go.Proofs.ltOf, cmpI_lt]
  refine ⟨fun x => ?_, fun x y z => ?_, fun x y z => ?_⟩
  · rw [h]; simp
  · rw [h, h, h]; simp only [decide_eq_true_eq]; omega
  · rw [h, h, h]; simp only [decide_eq_false_iff_not]; omega
theorem sortFunc_gen {w0 w : World} {F : Nat → Prop} {Γ : List Fact} {b c el bl k : Nat} {a : Option Addr} {L : List Commit} (hl : L.length ≤ 1000000)
    (ho : Hold w0 F (.own b el ((List.range L.length).map natV) :: .st (ro bl 0 [.slice a L.length k]) :: .st (sl a k L) :: Γ) w) :
    Calls Tryz.prog 69 ⟨[.slice (some ⟨b, 0, none⟩) L.length c, .func (.func 134) ⟨[]⟩ ⟨[.pointer (some ⟨bl, 0, none⟩)]⟩]⟩ w fun x w' =>
      ∃ O : Order (fun i j => cmpI (genC L i) (genC L j)) L.length, x = .returned (.tuple ⟨[]⟩) ∧ Hold w0 F (.own b el (O.1.map natV) :: .st (ro bl 0 [.slice a L.length k]) :: .st (sl a k L) :: Γ) w' := by
  refine sort_order sortInt _ (swo_gen L) _ _ hl ho (fun W hW x y hx hy => ?_)
  have h1 := hW (sl a k L) (ho.get (A := sl a k L))
  have h2 := hW (ro bl 0 [.slice a L.length k]) (ho.get (A := ro bl 0 [.slice a L.length k]))
  have := @of1_dag ⟨True⟩ W _ a k bl L x y hx hy h1 h2
  simpa [genC, List.getD_eq_getElem?_getD, hx, hy] using this
theorem may_gen {c : Commit} (h : may c = true) : 1 ≤ c.gen ∧ c.gen ≤ 1048576 := by
  unfold may at h
  split at h
  · cases h
  · rename_i hn
    simp only [Bool.or_eq_true, Bool.not_eq_true', not_or, Bool.not_eq_false, inB, Bool.and_eq_true, decide_eq_true_eq] at hn
    exact hn.1.1.1
end Ab
end Go.Proofs.YtdgeffphifgflaaGreat

/- Contract of dag.of: the walk. -/
namespace Go.Proofs.YtdgeffphifgflaaGreat
namespace Ab
open Go Go.RowKit
set_option linter.unusedVariables false
set_option linter.unusedSimpArgs false
set_option synthInstance.maxSize 4000
set_option synthInstance.maxHeartbeats 400000
attribute [local irreducible] JC JO JR JQ andThen inBlock OpV Gives retTo JM JS

attribute [local irreducible] JN
attribute [local irreducible] ents hashC graphA
set_option maxHeartbeats 4000000 in
theorem of_dag (w : World) (F : Nat → Prop) (a : Option Addr) (k : Nat) (L : List Commit) (h : (sl a k L).holds F w) (hl : L.length ≤ 1000000) (hf : ∀ x ∈ L, fine x) :
    Gives Tryz.prog 68 [.slice a L.length k] w F (fun y : OfY L => ofV y) (fun y => ofB y) := by
  refine gives_of Tryz.func68 rfl Tryz.ntmps68 rfl rfl [.st (sl a k L)] (.start1 h) ?_
  repeat (first|refine Wa ?_|refine Wb ?_|refine Wc ?_|refine Wd ?_|refine We rfl ?_|refine Wf (by exact Vb) rfl ?_|(refine Wg rfl ?_; intro _)|(refine Wh rfl ?_; intro _))
  rename_i b1 b2
  refine JR.makeMap idV rfl ?_
  intro bo
  refine We rfl ?_
  refine JR.makeMap idV rfl ?_
  intro bk
  refine We rfl ?_
  refine Wf (OpV.build [.map (some bo), .map (some bk)] (by kernel_rfl)) rfl ?_
  repeat (first|refine Wa ?_|refine Wb ?_|refine Wc ?_|refine Wd ?_|refine We rfl ?_|refine Wf (by exact Vc) rfl ?_|(refine Wg rfl ?_; intro _)|refine Wi ?_)
  rename_i b5
  refine JR.pubOwn b1 ?_
  refine JR.callSl rfl (fun w1 hw => ids_dag w1 _ a k L hw.get (by omega) hf) ?_
  intro p q
  repeat (first|refine Wa ?_|refine Wb ?_|refine Wc ?_|refine Wd ?_|refine We rfl ?_|refine Wf (by first|exact Va|exact Vb|exact Vc|exact Vf|exact Vm) rfl ?_)
  refine JC.test (fun hne => ?_) (fun heq => ?_)
  · have hno : ¬ Closed L := fun hc => hne (by rw [idsP_all hc.may]; simp [cids])
    repeat (first|refine Wa ?_|refine Wb ?_|refine Wc ?_|refine Wd ?_|refine We rfl ?_|refine Wf (by first|exact Vb|exact Vc) rfl ?_|refine Wi ?_|refine Ws ?_|refine Wt ?_)
    exact CT.done (Y := OfY L) ⟨⟨bo, bk, [], [], none, 0, false⟩, ofOk_no hno (Nat.zero_le _)⟩ rfl (fun w ho => (Hold.add (A := sl (α := ID) none 0 []) (ho.ent : Hold _ _ [] w) sl_nil))
  · have hmay : ∀ c ∈ L, may c = true := by
      intro c hc
      rw [← Bool.not_eq_false]
      intro hn
      have h1 : (idsP L).length = L.length := by omega
      rw [idsP_not hc hn, List.length_nil] at h1
      have := List.length_pos_of_mem hc
      omega
    have hids := idsP_all hmay
    have hcl : (cids L).length = L.length := cids_length L
    repeat (first|refine Wa ?_|refine Wb ?_|refine Wc ?_|refine We rfl ?_|refine Wf (by first|exact Vc|exact Vf) rfl ?_|refine Wl ?_)
    refine JR.makeInts rfl rfl (by omega) ?_
    intro bO
    repeat (first|refine Wa ?_|refine Wb ?_|refine Wc ?_|refine Wd ?_|refine We rfl ?_|refine Wf (by first|exact Va|exact Vb|exact Vf) rfl ?_|refine Wn ?_)
    rw [hids]
    refine JC.more (Γ' := .own bO 3 ((List.replicate L.length 0).map natV) :: .own b2 101 [.map none, .map none] :: .own b5 101 [.map (some bo), .map (some bk)] :: .omap bo (ents idV ([] : List (ID × Value))) ([] : List (ID × Value)).length :: .omap bk (ents idV ([] : List (ID × Value))) ([] : List (ID × Value)).length :: .st (graphA []) :: .st (ro b1 0 [.slice a L.length k]) :: .st (sl a k L) :: .st (sl p q (cids L)) :: []) (fun w1 ho => (ho.add (A := graphA []) graph_nil).ent) ?_
    refine JC.loop1 (fun (i : Nat) => [(1, .pointer (some ⟨b1, 0, none⟩)), (2, .pointer (some ⟨b2, 0, none⟩)), (5, .pointer (some ⟨b5, 0, none⟩)), (6, .slice p (cids L).length q), (7, .slice (some ⟨bO, 0, none⟩) L.length L.length), (28, .int .i64 (L.length : Int)), (29, .int .i64 (i : Int))])
      (fun i => .own bO 3 ((List.range i ++ List.replicate (L.length - i) 0).map natV) :: .own b2 101 [.map none, .map none] :: .own b5 101 [.map (some bo), .map (some bk)] :: .omap bo (ents idV ([] : List (ID × Value))) ([] : List (ID × Value)).length :: .omap bk (ents idV ([] : List (ID × Value))) ([] : List (ID × Value)).length :: .st (graphA []) :: .st (ro b1 0 [.slice a L.length k]) :: .st (sl a k L) :: .st (sl p q (cids L)) :: [])
      (fun i => i ≤ L.length) (fun i => L.length - i) 0 (Nat.zero_le _) (by rw [List.range_zero, List.nil_append, Nat.sub_zero]; infer_instance) ?_
    intro i hi
    repeat (first|refine Wa ?_|refine Wb ?_|refine Wc ?_|refine Wd ?_|refine We rfl ?_|refine Wf (by exact Vg) rfl ?_)
    refine JC.test (fun hlt => ?_) (fun hge => ?_)
    · have hlt' : i < L.length := by omega
      have e : (List.range i ++ List.replicate (L.length - i) 0).set i i = List.range (i + 1) ++ List.replicate (L.length - (i + 1)) 0 := by
        obtain ⟨m, hm⟩ : ∃ m, L.length - i = m + 1 := ⟨L.length - i - 1, by omega⟩
        rw [hm, List.replicate_succ, List.set_append_right _ _ (by simp), List.length_range, Nat.sub_self, List.set_cons_zero, List.range_succ, List.append_assoc, show L.length - (i + 1) = m by omega]
        rfl
      repeat (first|refine Wa ?_|refine Wb ?_|refine Wc ?_|refine Wd ?_|refine We rfl ?_|refine Wf (by first|exact Va|exact Vb) rfl ?_|refine Wl ?_|refine Wn ?_)
      refine Wf (OpV.indexBuf (k := i) hlt') rfl ?_
      refine We rfl ?_
      refine JR.setW (f := natV) i i (by simp; omega) (by omega) rfl ?_
      rw [e]
      repeat (first|refine Wa ?_|refine Wc ?_|refine Wd ?_|refine We rfl ?_|refine Wf (by first|exact Va|exact Vk (by omega)) rfl ?_|refine Wr ?_)
      exact ⟨i + 1, by omega, by omega, inferInstance⟩
    obtain rfl : i = L.length := by omega
    rw [show List.range L.length ++ List.replicate (L.length - L.length) 0 = List.range L.length by simp]
    repeat (first|refine Wa ?_|refine Wb ?_|refine Wc ?_|refine We rfl ?_|refine Wf (by first|exact Va|exact Vr) rfl ?_|refine Wm ?_|refine Wo ?_|refine Wp ?_)
    refine JR.callW (v := fun _ : Order (fun i j => cmpI (genC L i) (genC L j)) L.length => .tuple ⟨[]⟩) rfl (fun w1 hw => sortFunc_gen (el := 3) (a := a) (k := k) (bl := b1) (Γ := .own b2 101 [.map none, .map none] :: .own b5 101 [.map (some bo), .map (some bk)] :: .omap bo (ents idV ([] : List (ID × Value))) ([] : List (ID × Value)).length :: .omap bk (ents idV ([] : List (ID × Value))) ([] : List (ID × Value)).length :: .st (graphA []) :: .st (sl p q (cids L)) :: []) hl hw.ent) ?_
    rintro ⟨O, hO1, hO2⟩
    dsimp only
    have hOl : O.length = L.length := by rw [hO1.length_eq, List.length_range]
    obtain ⟨Lo, hLo⟩ : ∃ Lo, Lo = byO L O := ⟨_, rfl⟩
    have hLp : Lo.Perm L := hLo ▸ byO_perm hO1
    have hLl : Lo.length = L.length := hLp.length_eq
    have hLs : Lo.Pairwise (fun c d => c.gen ≤ d.gen) := by
      rw [hLo, byO, List.pairwise_map]
      refine hO2.imp ?_
      intro i j hij
      rw [cmpI_lt] at hij
      simp only [genC] at hij
      omega
    repeat (first|refine Wa ?_|refine Wb ?_|refine Wc ?_|refine Wd ?_|refine We rfl ?_|refine Wf (by first|exact Va|exact Vf) rfl ?_|refine Wn ?_)
    refine JC.loop2 (fun (i : Nat) (R : List Row) => [(1, .pointer (some ⟨b1, 0, none⟩)), (2, .pointer (some ⟨b2, 0, none⟩)), (5, .pointer (some ⟨b5, 0, none⟩)), (6, .slice p (cids L).length q), (40, .slice (some ⟨bO, 0, none⟩) L.length L.length), (41, .int .i64 (L.length : Int)), (42, .int .i64 (i : Int))])
      (fun i R => .own bO 3 (O.map natV) :: .own b2 101 [.map none, .map none] :: .own b5 101 [.map (some bo), .map (some bk)] :: .omap bo (ents idV (ofM R)) (ofM R).length :: .omap bk (ents idV (knM R)) (knM R).length :: .st (graphA R) :: .st (ro b1 0 [.slice a L.length k]) :: .st (sl a k L) :: .st (sl p q (cids L)) :: [])
      (fun i R => i ≤ L.length ∧ Built (grOf R) ∧ nodes (grOf R) = Lo.take i ∧ ∀ r ∈ R, r.1.2.Nodup) (fun i _ => L.length - i) 0 [] ⟨Nat.zero_le _, .nil, rfl, by simp⟩ (by rw [show ofM [] = [] from rfl, show knM [] = [] from rfl]; infer_instance) ?_
    intro i R ⟨hi, hB, hnd, hS⟩
    have hR := hB.right
    have hgen : ∀ r ∈ R, 0 ≤ r.1.1.gen ∧ r.1.1.gen ≤ 1048576 := fun r hr => by
      have h1 : r.1.1 ∈ nodes (grOf R) := by rw [nodes_gr]; exact List.mem_map.2 ⟨r, hr, rfl⟩
      rw [hnd] at h1
      have h2 := may_gen (hmay _ (hLp.mem_iff.1 (List.mem_of_mem_take h1)))
      omega
    repeat (first|refine Wa ?_|refine Wb ?_|refine Wc ?_|refine Wd ?_|refine We rfl ?_|refine Wf (by exact Vg) rfl ?_)
    refine JC.test (fun hlt => ?_) (fun hge => ?_)
    · have hlt' : i < L.length := by omega
      have hiO : i < O.length := by omega
      obtain ⟨j, hj⟩ : ∃ j, j = O[i] := ⟨_, rfl⟩
      have hjn : j < L.length := by rw [hj]; exact List.mem_range.1 (hO1.mem_iff.1 (List.getElem_mem hiO))
      have hLi : i < Lo.length := by omega
      have hLoi : Lo[i] = L[j] := by
        subst hLo
        simp [byO, ← hj, List.getD_eq_getElem?_getD, hjn]
      have hjm : L[j] ∈ L := List.getElem_mem hjn
      have hxe : (cids L)[j]'(by omega) = idC L[j] := cids_get L j (by omega)
      have hstep : Closed L → idC L[j] ∉ cids (nodes (grOf R)) ∧ merge L[j] = false ∧ addOk (grOf R) L[j] = true ∧ addGen (grOf R) L[j] = true := fun hc => by
        have := (Closed.perm hLp.symm hc).step hLs hB hLi hnd
        rwa [hLoi] at this
      have hkO : ((ofM R).map (·.1)).Nodup := by rw [ofM_keys]; exact hR.nodup
      repeat (first|refine Wa ?_|refine Wb ?_|refine Wc ?_|refine We rfl ?_|refine Wl ?_|refine Wn ?_)
      refine Wf (OpV.indexBuf (k := i) (by omega)) rfl ?_
      refine We rfl ?_
      refine Wf (OpV.getW (f := natV) i (by omega) (by omega) rfl) rfl ?_
      refine JO.reslot 45 (natV j) (by rw [hj]) ?_
      repeat (first|refine Wa ?_|refine Wb ?_|refine Wd ?_|refine We rfl ?_|refine Wf (by exact Vb) rfl ?_)
      refine JC.openID (L := cids L) (.slice p (cids L).length q) j (by omega) ?_
      intro bi oi
      rw [hxe]
      by_cases hd : idC L[j] ∈ cids (nodes (grOf R))
      · have hno : ¬ Closed L := fun hc => (hstep hc).1 hd
        obtain ⟨r, hr, hre, hgo, hgk, hkn⟩ := row_of hR.nodup hd
        refine JC.drawN [.own b5 101 [.map (some bo), .map (some bk)], .omap bo (ents idV (ofM R)) (ofM R).length, .st (elA (.slice p (cids L).length q) j 32 bi oi), .st (ro bi oi (idc (idC L[j])))] mixed ?_
        refine JN.take 0 rfl (by kernel_rfl) rfl Vd rfl rfl ?_
        refine JN.take 1 rfl (by kernel_rfl) rfl Vc rfl rfl ?_
        refine JN.take 2 rfl (by kernel_rfl) rfl Va rfl rfl ?_
        refine JN.take 3 rfl (by kernel_rfl) rfl Va rfl rfl ?_
        refine JN.take 4 rfl (by kernel_rfl) rfl Ve rfl rfl ?_
        refine JN.take 5 rfl (by kernel_rfl) rfl Vc rfl rfl ?_
        refine JN.take 6 rfl (by kernel_rfl) rfl (OpV.lookupOk (M := ofM R) (v := commitV r.1.1 r.2.1 r.2.2.1) (is := true) (idC L[j]) hkO (by rw [hgo]; rfl) (by rw [hgo]; rfl)) rfl rfl ?_
        refine JN.take 7 rfl (by kernel_rfl) rfl Va rfl rfl ?_
        refine JN.take 8 rfl (by kernel_rfl) rfl Vq rfl rfl ?_
        refine JN.take 9 rfl (by kernel_rfl) rfl Vq rfl rfl ?_
        refine JN.op 10 (by kernel_rfl) rfl rfl (Wg rfl (fun b11 => Wd ⟨rfl, inferInstance, ?_⟩))
        refine JN.op 11 (by kernel_rfl) rfl rfl (Wi (Wd ⟨rfl, inferInstance, ?_⟩))
        refine JN.op 12 (by kernel_rfl) rfl rfl (Wf Vb rfl (Wd ⟨rfl, inferInstance, ?_⟩))
        refine JN.nil (by kernel_rfl) ?_
        repeat (first|refine Wa ?_|refine Wb ?_)
        refine JC.quiet mixed (by kernel_rfl) ?_
        repeat (first|refine Wy rfl (by first|exact Va|exact Vc|exact Vi) rfl ?_|refine Wz rfl rfl ?_|refine WB ?_)
        repeat (first|refine Wa ?_|refine Wb ?_|refine Wc ?_|refine Wd ?_|refine We rfl ?_|refine Wf (by first|exact Vb|exact Vc) rfl ?_|refine Wi ?_|refine Wj ?_|refine Ws ?_|refine Wt ?_|refine Wu ?_)
        exact CT.done (Y := OfY L) ⟨⟨bo, bk, [], [], none, 0, false⟩, ofOk_no hno (Nat.zero_le _)⟩ rfl (fun w ho => (Hold.add (A := sl (α := ID) none 0 []) (ho.ent : Hold _ _ [] w) sl_nil))
      · obtain ⟨hgo, hgk⟩ := row_none hd
        refine JC.drawN [.own b5 101 [.map (some bo), .map (some bk)], .omap bo (ents idV (ofM R)) (ofM R).length, .st (elA (.slice p (cids L).length q) j 32 bi oi), .st (ro bi oi (idc (idC L[j])))] mixed ?_
        refine JN.take 0 rfl (by kernel_rfl) rfl Vd rfl rfl ?_
        refine JN.take 1 rfl (by kernel_rfl) rfl Vc rfl rfl ?_
        refine JN.take 2 rfl (by kernel_rfl) rfl Va rfl rfl ?_
        refine JN.take 3 rfl (by kernel_rfl) rfl Va rfl rfl ?_
        refine JN.take 4 rfl (by kernel_rfl) rfl Ve rfl rfl ?_
        refine JN.take 5 rfl (by kernel_rfl) rfl Vc rfl rfl ?_
        refine JN.take 6 rfl (by kernel_rfl) rfl (OpV.lookupOk (M := ofM R) (v := .agg ⟨[.int .i64 0, .int .i64 0, .int .i64 0, .slice none 0 0, .int .i64 0, .string .empty, .string .empty, .int .i64 0]⟩) (is := false) (idC L[j]) hkO (by rw [hgo]; rfl) (by rw [hgo]; rfl)) rfl rfl ?_
        refine JN.take 7 rfl (by kernel_rfl) rfl Va rfl rfl ?_
        refine JN.take 8 rfl (by kernel_rfl) rfl Vq rfl rfl ?_
        refine JN.take 9 rfl (by kernel_rfl) rfl Vq rfl rfl ?_
        refine JN.op 10 (by kernel_rfl) rfl rfl (Wg rfl (fun b11 => Wd ⟨rfl, inferInstance, ?_⟩))
        refine JN.op 11 (by kernel_rfl) rfl rfl (Wi (Wd ⟨rfl, inferInstance, ?_⟩))
        refine JN.op 12 (by kernel_rfl) rfl rfl (Wf Vb rfl (Wd ⟨rfl, inferInstance, ?_⟩))
        refine JN.nil (by kernel_rfl) ?_
        repeat (first|refine Wa ?_|refine Wb ?_)
        refine JC.openCommit (L := L) (.slice a L.length k) j hjn ?_
        intro bc oc pc qc
        have hfx := hf _ hjm
        cases hmer : merge L[j] with
        | true =>
          have hno : ¬ Closed L := fun hc => by have := (hstep hc).2.1; rw [hmer] at this; cases this
          refine JC.quiet mixed (by kernel_rfl) ?_
          repeat (refine Wy rfl (by first|exact Va|exact Vc|exact Ve) rfl ?_)
          refine JQ.call rfl rfl (fun w1 hw => merge_commit w1 _ (L[j]) pc qc hw.get hfx.1) ?_
          refine JQ.reslot 62 (.bool true) (by rw [hmer]) ?_
          repeat (first|refine Wy rfl (by first|exact Va|exact Vc|exact Vi|exact Vj) rfl ?_|refine Wz rfl rfl ?_|refine WB ?_)
          repeat (first|refine Wa ?_|refine Wb ?_|refine Wc ?_|refine Wd ?_|refine We rfl ?_|refine Wf (by first|exact Vb|exact Vc) rfl ?_|refine Wi ?_|refine Wj ?_|refine Ws ?_|refine Wt ?_|refine Wu ?_)
          exact CT.done (Y := OfY L) ⟨⟨bo, bk, [], [], none, 0, false⟩, ofOk_no hno (Nat.zero_le _)⟩ rfl (fun w ho => (Hold.add (A := sl (α := ID) none 0 []) (ho.ent : Hold _ _ [] w) sl_nil))
        | false =>
          refine JC.draw 18 mixed ?_
          refine JM.take 0 rfl (by kernel_rfl) rfl Va rfl rfl ?_
          refine JM.take 1 rfl (by kernel_rfl) rfl Va rfl rfl ?_
          refine JM.take 2 rfl (by kernel_rfl) rfl Vc rfl rfl ?_
          refine JM.take 3 rfl (by kernel_rfl) rfl Va rfl rfl ?_
          refine JM.take 4 rfl (by kernel_rfl) rfl Ve rfl rfl ?_
          refine JM.take 5 rfl (by kernel_rfl) rfl Vc rfl rfl ?_
          refine JM.takeCall 6 rfl (by kernel_rfl) rfl (fun w1 hw => merge_commit w1 _ (L[j]) pc qc hw.get hfx.1) rfl rfl ?_
          refine JM.reslot 62 (.bool false) (by rw [hmer]) ?_
          refine JM.take 7 rfl (by kernel_rfl) rfl Vj rfl rfl ?_
          refine JM.take 8 rfl (by kernel_rfl) rfl Va rfl rfl ?_
          refine JM.take 9 rfl (by kernel_rfl) rfl Vc rfl rfl ?_
          refine JM.take 10 rfl (by kernel_rfl) rfl Va rfl rfl ?_
          refine JM.take 11 rfl (by kernel_rfl) rfl Va rfl rfl ?_
          refine JM.take 12 rfl (by kernel_rfl) rfl Ve rfl rfl ?_
          refine JM.take 13 rfl (by kernel_rfl) rfl Vc rfl rfl ?_
          refine JM.take 14 rfl (by kernel_rfl) rfl Vc rfl rfl ?_
          refine JM.take 15 rfl (by kernel_rfl) rfl Va rfl rfl ?_
          refine JM.take 16 rfl (by kernel_rfl) rfl Ve rfl rfl ?_
          refine JM.take 17 rfl (by kernel_rfl) rfl Vc rfl rfl ?_
          refine JM.last 18 (by kernel_rfl) rfl rfl rfl (JR.callW (v := fun y : AddY R L[j] => .bool y.1.2.2) rfl (fun w1 hw => add_graph (a := pc) (k := qc) (Γ := .own bO 3 (O.map natV) :: .own b2 101 [.map none, .map none] :: .own b5 101 [.map (some bo), .map (some bk)] :: .st (ro b1 0 [.slice a L.length k]) :: .st (sl a k L) :: .st (sl p q (cids L)) :: []) hR.nodup hS hd hgen hw.ent) (fun y => ?_))
          rcases y with ⟨⟨S, ba, ok⟩, hy1, hy2⟩
          dsimp only at hy1 hy2 ⊢
          cases ok with
          | false =>
            have hno : ¬ Closed L := fun hc => by
              have := hstep hc
              rw [this.2.2.1, this.2.2.2] at hy1; cases hy1
            rw [if_neg (by simp)]
            refine Wd ⟨rfl, ?_⟩
            refine JM.last 19 (by kernel_rfl) rfl rfl rfl (Wf Vh rfl (Wd ⟨rfl, ?_⟩))
            refine JM.last 20 (by kernel_rfl) rfl rfl rfl (Wf Vj rfl (Wd ⟨rfl, ?_⟩))
            refine JM.nil (by kernel_rfl) ?_
            repeat (first|refine Wa ?_|refine Wb ?_|refine Wc ?_|refine Wd ?_|refine We rfl ?_|refine Wf (by first|exact Vb|exact Vc) rfl ?_|refine Wi ?_|refine Wj ?_|refine Ws ?_|refine Wt ?_|refine Wu ?_)
            exact CT.done (Y := OfY L) ⟨⟨bo, bk, [], [], none, 0, false⟩, ofOk_no hno (Nat.zero_le _)⟩ rfl (fun w ho => (Hold.add (A := sl (α := ID) none 0 []) (ho.ent : Hold _ _ [] w) sl_nil))
          | true =>
            obtain ⟨hSn, hSk⟩ := hy2 rfl
            have hy1' := hy1.symm
            rw [Bool.and_eq_true] at hy1'
            rw [if_pos rfl]
            refine Wd ⟨rfl, ?_⟩
            refine JM.last 19 (by kernel_rfl) rfl rfl rfl (Wf Vh rfl (Wd ⟨rfl, ?_⟩))
            refine JM.last 20 (by kernel_rfl) rfl rfl rfl (Wf Vj rfl (Wd ⟨rfl, ?_⟩))
            refine JM.nil (by kernel_rfl) ?_
            repeat (first|refine Wa ?_|refine Wc ?_|refine Wd ?_|refine We rfl ?_|refine Wf (by first|exact Va|exact Vk (by omega)) rfl ?_|refine Wk ?_|refine Wl ?_|refine Wr ?_)
            refine ⟨i + 1, R ++ [((L[j], S), (pc, qc, ba))], ⟨by omega, ?_, ?_, fun r hr => ?_⟩, by omega, inferInstance⟩
            · rw [grOf_snoc]; exact .snoc hB hd hmer hy1'.1 hy1'.2 hSk
            · rw [grOf_snoc, nodes_snoc, hnd, List.take_succ_eq_append_getElem hLi, hLoi]
            · rcases List.mem_append.1 hr with hr | hr
              · exact hS r hr
              · simp only [List.mem_singleton] at hr; subst hr; exact hSn
    · obtain rfl : i = L.length := by omega
      rw [List.take_of_length_le (by omega)] at hnd
      have hfin : Closed L ↔ evG R = true := by
        rw [evG_iff hR]
        constructor
        · intro hc c hcm d hdm
          rw [hnd] at hcm hdm ⊢
          exact (Closed.perm hLp.symm hc).ev c hcm d hdm
        · intro he
          have := hB.closed (fun c hc => hmay c (by rw [hnd] at hc; exact hLp.mem_iff.1 hc)) he
          rw [hnd] at this
          exact Closed.perm hLp this
      refine JC.more (Γ' := .st (rmap bo (ents idV (ofM R)) (ofM R).length) :: .st (rmap bk (ents idV (knM R)) (knM R).length) :: .st (graphA R) :: .own b2 101 [.map none, .map none] :: .own b5 101 [.map (some bo), .map (some bk)] :: .st (ro b1 0 [.slice a L.length k]) :: .st (sl a k L) :: .st (sl p q (cids L)) :: []) (fun w1 ho => ?_) ?_
      · have h1 : Hold _ _ (.omap bo (ents idV (ofM R)) (ofM R).length :: .omap bk (ents idV (knM R)) (knM R).length :: .st (graphA R) :: .own b2 101 [.map none, .map none] :: .own b5 101 [.map (some bo), .map (some bk)] :: .st (ro b1 0 [.slice a L.length k]) :: .st (sl a k L) :: .st (sl p q (cids L)) :: []) w1 := ho.ent
        have h2 : Hold _ _ (.omap bk (ents idV (knM R)) (knM R).length :: .st (rmap bo (ents idV (ofM R)) (ofM R).length) :: .st (graphA R) :: .own b2 101 [.map none, .map none] :: .own b5 101 [.map (some bo), .map (some bk)] :: .st (ro b1 0 [.slice a L.length k]) :: .st (sl a k L) :: .st (sl p q (cids L)) :: []) w1 := (h1.pubMap).ent
        exact (h2.pubMap).ent
      repeat (first|refine Wa ?_|refine Wb ?_|refine Wm ?_|refine Wo ?_|refine Wp ?_)
      refine JC.drawN [.own b5 101 [.map (some bo), .map (some bk)]] mixed ?_
      refine JN.take 0 rfl (by kernel_rfl) rfl Vc rfl rfl ?_
      refine JN.take 1 rfl (by kernel_rfl) rfl Va rfl rfl ?_
      refine JN.take 2 rfl (by kernel_rfl) rfl Vc rfl rfl ?_
      refine JN.op 3 (by kernel_rfl) rfl rfl (JR.callV rfl (fun w1 hw => events_graph w1 _ bo bk R hR.nodup hS hw.get hw.get hw.get) (Wd ⟨rfl, inferInstance, ?_⟩))
      refine JN.op 4 (by kernel_rfl) rfl rfl (Wi (Wd ⟨rfl, inferInstance, ?_⟩))
      refine JN.op 5 (by kernel_rfl) rfl rfl (Wf Vb rfl (Wd ⟨rfl, inferInstance, ?_⟩))
      refine JN.op 6 (by kernel_rfl) rfl rfl (Wf Vb rfl (Wd ⟨rfl, inferInstance, ?_⟩))
      refine JN.nil (by kernel_rfl) ?_
      repeat (first|refine Wa ?_|refine Ws ?_)
      refine CT.done (Y := OfY L) ⟨⟨bo, bk, R, cids L, p, q, evG R⟩, ⟨hfin.symm, by show (cids L).length ≤ _; omega, fun _ => rfl, fun _ => hB, fun _ => by rw [hnd]; exact hLp, fun _ => hS⟩⟩ rfl (fun w ho => ?_)
      by_cases hev : evG R = true
      · rw [ofB, if_pos hev]; exact ho.ent
      · rw [ofB, if_neg hev]; exact ho.ent
end Ab
end Go.Proofs.YtdgeffphifgflaaGreat

/- Contracts of dag.Closed, Anc, Part, Sorted. -/
namespace Go.Proofs.YtdgeffphifgflaaGreat
namespace Ab
open Go Go.RowKit
set_option linter.unusedVariables false
set_option linter.unusedSimpArgs false
set_option synthInstance.maxSize 4000
set_option synthInstance.maxHeartbeats 400000
attribute [local irreducible] JC JO JR JQ andThen inBlock OpV Gives retTo JM JS

attribute [local irreducible] ents hashC graphA
theorem of_true {L : List Commit} {bo bk q : Nat} {R : List Row} {I : List ID} {p : Option Addr} (hy : OfOk L ⟨bo, bk, R, I, p, q, true⟩) :
    ofB (L := L) ⟨⟨bo, bk, R, I, p, q, true⟩, hy⟩ = [.st (rmap bo (ents idV (ofM R)) (ofM R).length), .st (rmap bk (ents idV (knM R)) (knM R).length), .st (graphA R), .st (sl p q I)] := if_pos rfl
theorem of_false {L : List Commit} {bo bk q : Nat} {R : List Row} {I : List ID} {p : Option Addr} (hy : OfOk L ⟨bo, bk, R, I, p, q, false⟩) :
    ofB (L := L) ⟨⟨bo, bk, R, I, p, q, false⟩, hy⟩ = [.st (sl p q I)] := if_neg (by simp)
/-- A truth value that tells whether commits are closed. -/
abbrev IsClosed (L : List Commit) := { b : Bool // b = true ↔ Closed L }
theorem closed_dag (w : World) (F : Nat → Prop) (a : Option Addr) (k : Nat) (L : List Commit) (h : (sl a k L).holds F w) (hl : L.length ≤ 1000000) (hf : ∀ x ∈ L, fine x) :
    Gives Tryz.prog 25 [.slice a L.length k] w F (fun y : IsClosed L => .bool y.1) (fun _ => []) := by
  refine gives_of Tryz.func25 rfl Tryz.ntmps25 rfl rfl [.st (sl a k L)] (.start1 h) ?_
  repeat (first|refine Wa ?_|refine Wb ?_|refine Wc ?_|refine Wd ?_|refine We rfl ?_|refine Wf (by first|exact Va|exact Vb) rfl ?_)
  refine JR.call (v := fun y : OfY L => ofV y) rfl (fun w1 hw => of_dag w1 _ a k L hw.get hl hf) ?_
  rintro ⟨⟨bo, bk, R, I, p, q, b⟩, hy⟩
  dsimp only [ofV]
  refine JO.more (Γ' := []) (fun w1 ho => ho.ent) ?_
  repeat (first|refine Wa ?_|refine Wb ?_|refine Wc ?_|refine Wd ?_|refine We rfl ?_|refine Wf (by first|exact Va|exact Vb|exact Vq) rfl ?_|(refine Wg rfl ?_; intro _)|refine Wi ?_|refine Ws ?_)
  exact CT.done (Y := IsClosed L) ⟨b, hy.iff⟩ rfl (fun w ho => ho.ent)

/-- Ids of which some stand behind some of A, or are of A. -/
def inAnc (L : List Commit) (A : List ID) (x : ID) : Prop := x ∈ cids L ∧ (x ∈ A ∨ ∃ y ∈ A, knows L y x)
structure AncR (L : List Commit) (A M : List ID) : Prop where
  sorted : M.Pairwise (fun x y => idLt y x = false)
  nodup : M.Nodup
  mem : Closed L → ∀ x, x ∈ M ↔ inAnc L A x
  not : ¬ Closed L → M = []
end Ab
end Go.Proofs.YtdgeffphifgflaaGreat

/- Contracts of dag.Part, Sorted. -/
namespace Go.Proofs.YtdgeffphifgflaaGreat
namespace Ab
open Go Go.RowKit
set_option linter.unusedVariables false
set_option linter.unusedSimpArgs false
set_option synthInstance.maxSize 4000
set_option synthInstance.maxHeartbeats 400000
attribute [local irreducible] JC JO JR JQ andThen inBlock OpV Gives retTo JM JS

attribute [local irreducible] ents hashC graphA
/-- The commits of some ids, of closed ones. -/
structure PartR (L : List Commit) (A : List ID) (M : List Commit) : Prop where
  part : Closed L → M = L.filter (fun c => decide (idC c ∈ A))
  not : ¬ Closed L → M = []
/- Sorted -/
def leS (c d : Commit) : Prop := c.gen < d.gen ∨ (c.gen = d.gen ∧ idLt (idC d) (idC c) = false)
structure SortedR (L M : List Commit) : Prop where
  perm : Closed L → M.Perm L
  sorted : Closed L → M.Pairwise leS
  not : ¬ Closed L → M = []
abbrev SortY (L : List Commit) := { y : List Commit × Option Addr × Nat // SortedR L y.1 }
def idAt (L : List Commit) (i : Nat) : ID := idC (L.getD i commit0)
def cfS (L : List Commit) (i j : Nat) : Int := orL [cmpI (genC L i) (genC L j), idCmp (idAt L i) (idAt L j)]
theorem cmpI_zero (a b : Int) : cmpI a b ≠ 0 ↔ a ≠ b := by
  unfold cmpI
  split
  · simp; omega
  · split
    · simp; omega
    · simp; omega
theorem cfS_lt (L : List Commit) (i j : Nat) : cfS L i j < 0 ↔ genC L i < genC L j ∨ (genC L i = genC L j ∧ idLt (idAt L i) (idAt L j) = true) := by
  unfold cfS
  simp only [orL]
  by_cases h : genC L i = genC L j
  · rw [if_neg (by rw [cmpI_zero]; simpa using h)]
    have : (if idCmp (idAt L i) (idAt L j) ≠ 0 then idCmp (idAt L i) (idAt L j) else 0) = idCmp (idAt L i) (idAt L j) := by split <;> simp_all
    rw [this]
    simp [h, idLt]
  · rw [if_pos (by rw [cmpI_zero]; exact h), cmpI_lt]
    simp [h]
theorem swo_sorted (L : List Commit) : Go.Sort.SWO (Go.Proofs.ltOf (cfS L)) := by
  have h : ∀ i j, Go.Proofs.ltOf (cfS L) i j = true ↔ genC L i < genC L j ∨ (genC L i = genC L j ∧ idLt (idAt L i) (idAt L j) = true) := fun i j => by
    simp only [Go.Proofs.ltOf, decide_eq_true_eq, cfS_lt]
  have h' : ∀ i j, Go.Proofs.ltOf (cfS L) i j = false ↔ ¬ (genC L i < genC L j ∨ (genC L i = genC L j ∧ idLt (idAt L i) (idAt L j) = true)) := fun i j => by
    rw [← h]; simp
  refine ⟨fun x => ?_, fun x y z h1 h2 => ?_, fun x y z h1 h2 => ?_⟩
  · rw [h']; simp [idLt_irrefl]
  · rw [h] at h1 h2 ⊢
    rcases h1 with h1 | ⟨h1, h3⟩ <;> rcases h2 with h2 | ⟨h2, h4⟩
    · exact .inl (by omega)
    · exact .inl (by omega)
    · exact .inl (by omega)
    · exact .inr ⟨by omega, idLt_trans h3 h4⟩
  · rw [h'] at h1 h2 ⊢
    rintro (h3 | ⟨h3, h4⟩)
    · have h5 : ¬ genC L x < genC L y := fun h => h1 (.inl h)
      have h6 : ¬ genC L y < genC L z := fun h => h2 (.inl h)
      omega
    · have h5 : ¬ genC L x < genC L y := fun h => h1 (.inl h)
      have h6 : ¬ genC L y < genC L z := fun h => h2 (.inl h)
      have e1 : genC L x = genC L y := by omega
      have e2 : genC L y = genC L z := by omega
      have h7 : idLt (idAt L x) (idAt L y) = false := by rw [← Bool.not_eq_true]; exact fun h => h1 (.inr ⟨e1, h⟩)
      have h8 : idLt (idAt L y) (idAt L z) = false := by rw [← Bool.not_eq_true]; exact fun h => h2 (.inr ⟨e2, h⟩)
      have := idLe_trans h8 h7
      rw [this] at h4; cases h4
theorem sortFunc_sorted {w0 w : World} {F : Nat → Prop} {Γ : List Fact} {b c el bl ba k m : Nat} {a d : Option Addr} {L : List Commit} (hl : L.length ≤ 1000000)
    (ho : Hold w0 F (.own b el ((List.range L.length).map natV) :: .st (ro bl 0 [.slice a L.length k]) :: .st (sl a k L) :: .st (ro ba 0 [.slice d (cids L).length m]) :: .st (sl d m (cids L)) :: Γ) w) :
    Calls Tryz.prog 69 ⟨[.slice (some ⟨b, 0, none⟩) L.length c, .func (.func 70) ⟨[]⟩ ⟨[.pointer (some ⟨bl, 0, none⟩), .pointer (some ⟨ba, 0, none⟩)]⟩]⟩ w fun x w' =>
      ∃ O : Order (cfS L) L.length, x = .returned (.tuple ⟨[]⟩) ∧ Hold w0 F (.own b el (O.1.map natV) :: .st (ro bl 0 [.slice a L.length k]) :: .st (sl a k L) :: .st (ro ba 0 [.slice d (cids L).length m]) :: .st (sl d m (cids L)) :: Γ) w' := by
  refine sort_order sortInt _ (swo_sorted L) _ _ hl ho (fun W hW x y hx hy => ?_)
  have h1 := hW (sl a k L) (ho.get (A := sl a k L))
  have h2 := hW (ro bl 0 [.slice a L.length k]) (ho.get (A := ro bl 0 [.slice a L.length k]))
  have h3 := hW (sl d m (cids L)) (ho.get (A := sl d m (cids L)))
  have h4 := hW (ro ba 0 [.slice d (cids L).length m]) (ho.get (A := ro ba 0 [.slice d (cids L).length m]))
  have hx' : x < (cids L).length := by rw [cids_length]; exact hx
  have hy' : y < (cids L).length := by rw [cids_length]; exact hy
  have := @sorted1_dag ⟨True⟩ W _ a d k m bl ba L (cids L) x y hx hy hx' hy' h1 h2 h3 h4
  rw [cids_get L x hx', cids_get L y hy'] at this
  simpa [cfS, genC, idAt, List.getD_eq_getElem?_getD, hx, hy] using this
set_option maxHeartbeats 2000000 in
theorem sorted_dag (w : World) (F : Nat → Prop) (a : Option Addr) (k : Nat) (L : List Commit) (h : (sl a k L).holds F w) (hl : L.length ≤ 1000) (hf : ∀ x ∈ L, fine x) :
    Gives Tryz.prog 26 [.slice a L.length k] w F (fun y : SortY L => .slice y.1.2.1 y.1.1.length y.1.2.2) (fun y => [.st (sl y.1.2.1 y.1.2.2 y.1.1)]) := by
  refine gives_of Tryz.func26 rfl Tryz.ntmps26 rfl rfl [.st (sl a k L)] (.start1 h) ?_
  repeat (first|refine Wa ?_|refine Wb ?_|refine Wc ?_|refine Wd ?_|refine We rfl ?_|refine Wf (by first|exact Vb|exact Vc) rfl ?_|(refine Wh rfl ?_; intro _))
  rename_i b1
  refine JR.pubOwn b1 ?_
  refine JR.call (v := fun y : OfY L => ofV y) rfl (fun w1 hw => of_dag w1 _ a k L hw.get (by omega) hf) ?_
  rintro ⟨⟨bo, bk, R, I, p, q, b⟩, hy⟩
  dsimp only [ofV]
  refine JO.more (Γ' := [.st (sl p q I), .st (ro b1 0 [.slice a L.length k]), .st (sl a k L)]) (fun w1 ho => by
    cases b with
    | false => rw [of_false hy] at ho; simp only [List.cons_append, List.nil_append] at ho; exact ho.ent
    | true => rw [of_true hy] at ho; simp only [List.cons_append, List.nil_append] at ho; exact ho.ent) ?_
  repeat (first|refine Wa ?_|refine Wb ?_|refine Wc ?_|refine Wd ?_|refine We rfl ?_|refine Wf (by first|exact Va|exact Vb|exact Vh|exact Vq) rfl ?_|(refine Wg rfl ?_; intro _)|refine Wi ?_)
  cases b with
  | false =>
    have hno : ¬ Closed L := fun hc => by have := hy.iff.2 hc; cases this
    repeat (first|refine Wa ?_|refine Wb ?_|refine Wc ?_|refine Wd ?_|refine We rfl ?_|refine Wf (by exact Vb) rfl ?_|refine Wj ?_|refine Ws ?_|refine Wt ?_)
    exact CT.done (Y := SortY L) ⟨([], none, 0), ⟨fun hc => (hno hc).elim, fun hc => (hno hc).elim, fun _ => rfl⟩⟩ rfl (fun w ho => (Hold.add (A := sl (α := Commit) none 0 []) (ho.ent : Hold _ _ [] w) sl_nil))
  | true =>
    have hc := hy.iff.1 rfl
    have hI : I = cids L := hy.ids rfl
    subst hI
    have hcl : (cids L).length = L.length := cids_length L
    repeat (first|refine Wa ?_|refine Wb ?_|refine Wc ?_|refine We rfl ?_|refine Wf (by first|exact Vc|exact Vf) rfl ?_|refine Wk ?_|refine Wl ?_)
    rename_i b3 b4
    refine JR.makeInts rfl rfl (by omega) ?_
    intro bO
    repeat (first|refine Wa ?_|refine Wb ?_|refine Wc ?_|refine Wd ?_|refine We rfl ?_|refine Wf (by first|exact Va|exact Vb|exact Vf) rfl ?_|refine Wn ?_)
    refine JC.pubOwn b4 ?_
    refine JC.loop1 (fun (i : Nat) => [(1, .pointer (some ⟨b1, 0, none⟩)), (4, .pointer (some ⟨b4, 0, none⟩)), (6, .slice (some ⟨bO, 0, none⟩) L.length L.length), (23, .int .i64 (L.length : Int)), (24, .int .i64 (i : Int))])
      (fun i => .own bO 3 ((List.range i ++ List.replicate (L.length - i) 0).map natV) :: .st (ro b1 0 [.slice a L.length k]) :: .st (sl a k L) :: .st (ro b4 0 [.slice p (cids L).length q]) :: .st (sl p q (cids L)) :: [])
      (fun i => i ≤ L.length) (fun i => L.length - i) 0 (Nat.zero_le _) (by rw [List.range_zero, List.nil_append, Nat.sub_zero]; infer_instance) ?_
    intro i hi
    repeat (first|refine Wa ?_|refine Wb ?_|refine Wc ?_|refine Wd ?_|refine We rfl ?_|refine Wf (by exact Vg) rfl ?_)
    refine JC.test (fun hlt => ?_) (fun hge => ?_)
    · have hlt' : i < L.length := by omega
      have e : (List.range i ++ List.replicate (L.length - i) 0).set i i = List.range (i + 1) ++ List.replicate (L.length - (i + 1)) 0 := by
        obtain ⟨m, hm⟩ : ∃ m, L.length - i = m + 1 := ⟨L.length - i - 1, by omega⟩
        rw [hm, List.replicate_succ, List.set_append_right _ _ (by simp), List.length_range, Nat.sub_self, List.set_cons_zero, List.range_succ, List.append_assoc, show L.length - (i + 1) = m by omega]
        rfl
      repeat (first|refine Wa ?_|refine Wb ?_|refine Wc ?_|refine Wd ?_|refine We rfl ?_|refine Wf (by first|exact Va|exact Vb) rfl ?_|refine Wl ?_|refine Wn ?_)
      refine Wf (OpV.indexBuf (k := i) hlt') rfl ?_
      refine We rfl ?_
      refine JR.setW (f := natV) i i (by simp; omega) (by omega) rfl ?_
      rw [e]
      repeat (first|refine Wa ?_|refine Wc ?_|refine Wd ?_|refine We rfl ?_|refine Wf (by first|exact Va|exact Vk (by omega)) rfl ?_|refine Wr ?_)
      exact ⟨i + 1, by omega, by omega, inferInstance⟩
    obtain rfl : i = L.length := by omega
    rw [show List.range L.length ++ List.replicate (L.length - L.length) 0 = List.range L.length by simp]
    repeat (first|refine Wa ?_|refine Wb ?_|refine Wc ?_|refine We rfl ?_|refine Wf (by first|exact Va|exact Vr) rfl ?_|refine Wm ?_|refine Wo ?_|refine Wp ?_)
    refine JR.callW (v := fun _ : Order (cfS L) L.length => .tuple ⟨[]⟩) rfl (fun w1 hw => sortFunc_sorted (el := 3) (a := a) (k := k) (d := p) (m := q) (Γ := []) (by omega) hw.ent) ?_
    rintro ⟨O, hO1, hO2⟩
    dsimp only
    have hOl : O.length = L.length := by rw [hO1.length_eq, List.length_range]
    repeat (first|refine Wa ?_|refine Wb ?_|refine Wc ?_|refine Wd ?_|refine We rfl ?_|refine Wf (by first|exact Va|exact Vb|exact Vf) rfl ?_|refine Wn ?_)
    refine JC.buf_nil (α := Commit) 29 ?_
    refine JC.loop3 (fun (i : Nat) r s => [(1, .pointer (some ⟨b1, 0, none⟩)), (8, .slice r (byO L (O.take i)).length s), (35, .slice (some ⟨bO, 0, none⟩) L.length L.length), (36, .int .i64 (L.length : Int)), (37, .int .i64 (i : Int))])
      (fun i r s => .res (buf r s 29 (byO L (O.take i))) :: .own bO 3 (O.map natV) :: .st (ro b1 0 [.slice a L.length k]) :: .st (sl a k L) :: [])
      (fun i _ _ => i ≤ L.length) (fun i _ _ => L.length - i) 0 none 0 (Nat.zero_le _) (by rw [List.take_zero, show byO L [] = [] from rfl]; infer_instance) ?_
    intro i r s hi
    repeat (first|refine Wa ?_|refine Wb ?_|refine Wc ?_|refine Wd ?_|refine We rfl ?_|refine Wf (by exact Vg) rfl ?_)
    refine JC.test (fun hlt => ?_) (fun hge => ?_)
    · have hlt' : i < L.length := by omega
      have hiO : i < O.length := by omega
      obtain ⟨j, hj⟩ : ∃ j, j = O[i] := ⟨_, rfl⟩
      have hjn : j < L.length := by rw [hj]; exact List.mem_range.1 (hO1.mem_iff.1 (List.getElem_mem hiO))
      have hfx := hf _ (List.getElem_mem hjn)
      have hnx : byO L (O.take (i + 1)) = byO L (O.take i) ++ [L[j]] := by
        rw [List.take_succ_eq_append_getElem hiO, byO, List.map_append, ← hj]
        simp [byO, List.getD_eq_getElem?_getD, hjn]
      have hbl : (byO L (O.take i)).length ≤ i := by simp [byO]; omega
      repeat (first|refine Wa ?_|refine Wb ?_|refine Wc ?_|refine We rfl ?_|refine Wl ?_|refine Wn ?_)
      refine Wf (OpV.indexBuf (k := i) (by omega)) rfl ?_
      refine We rfl ?_
      refine Wf (OpV.getW (f := natV) i (by omega) (by omega) rfl) rfl ?_
      refine JO.reslot 40 (natV j) (by rw [hj]) ?_
      repeat (first|refine Wa ?_|refine Wc ?_|refine Wd ?_|refine We rfl ?_|refine Wf (by first|exact Va|exact Vb|exact Vc) rfl ?_)
      refine JR.indexCommit rfl hjn ?_
      intro bc oc pc qc
      repeat (first|refine We rfl ?_|refine Wf (by exact Vc) rfl ?_)
      refine JR.call1 rfl (fun w1 hw => own_dag w1 _ (L[j]) pc qc hw.get hfx.2) ?_
      rintro ⟨p2, q2⟩
      dsimp only
      repeat (first|refine We rfl ?_|(refine Ww rfl ⟨rfl, by decide, by decide, by decide⟩ ?_; intro _))
      refine JR.append1 (u := L[j]) rfl (by exact ⟨rfl, rfl, by decide⟩) (by omega) ?_
      intro r2 s2
      repeat (first|refine Wa ?_|refine Wc ?_|refine Wd ?_|refine We rfl ?_|refine Wf (by first|exact Va|exact Vb|exact Vk (by omega)) rfl ?_|refine Wr ?_)
      exact ⟨i + 1, r2, s2, by omega, by omega, by rw [hnx]; infer_instance⟩
    · obtain rfl : i = L.length := by omega
      rw [List.take_of_length_le (by omega)]
      refine JC.more (fun w1 ho => ho.pub) ?_
      repeat (first|refine Wa ?_|refine Wb ?_|refine Wc ?_|refine Wd ?_|refine We rfl ?_|refine Wf (by first|exact Va|exact Vb) rfl ?_|refine Wm ?_|refine Wo ?_|refine Wp ?_|refine Ws ?_)
      refine CT.done (Y := SortY L) ⟨(byO L O, r, s), ⟨fun _ => byO_perm hO1, fun _ => ?_, fun hn => (hn hc).elim⟩⟩ rfl (fun w ho => ho.ent)
      rw [byO, List.pairwise_map]
      refine hO2.imp ?_
      intro i j hij
      rw [cfS_lt] at hij
      simp only [leS]
      by_cases h1 : genC L j < genC L i
      · exact (hij (.inl h1)).elim
      · by_cases h2 : genC L i < genC L j
        · exact .inl h2
        · refine .inr ⟨by have : genC L i = genC L j := by omega
                          exact this, ?_⟩
          rw [← Bool.not_eq_true]
          exact fun h => hij (.inr ⟨by omega, h⟩)
end Ab
end Go.Proofs.YtdgeffphifgflaaGreat

/- Contracts: the laws' two commits. -/
namespace Go.Proofs.YtdgeffphifgflaaGreat
namespace Ab
open Go Go.RowKit
set_option linter.unusedVariables false
set_option linter.unusedSimpArgs false
set_option synthInstance.maxSize 4000
set_option synthInstance.maxHeartbeats 400000
attribute [local irreducible] JC JO JR JQ andThen inBlock OpV Gives retTo JM JS

attribute [local irreducible] hashC
def keyA : ByteArray := ⟨#[97]⟩
def l0 : Commit := ⟨⟨0, 1⟩, 1, [], ⟨0, keyA, .empty, 1⟩⟩
def idA : ID := (hashC l0).1
def l1 : Commit := ⟨⟨0, 2⟩, 2, [idA], ⟨0, keyA, .empty, 2⟩⟩

theorem some_law (w : World) (F : Nat → Prop) : GivesV Tryz.prog 56 [] w F (commitV l0 none 0) := by
  refine gives_of Tryz.func56 rfl Tryz.ntmps56 rfl rfl [] (.start w F) ?_
  repeat (first|refine Wa ?_|refine Wb ?_|refine Wc ?_|refine Wd ?_|refine We rfl ?_|(refine Wg rfl ?_; intro _))
  refine Wf (OpV.build [.int .i64 0, .int .i64 1] (by kernel_rfl)) rfl ?_
  repeat (refine We rfl ?_)
  refine Wf (OpV.build [.int .i64 0, .string keyA, .string .empty, .int .i64 1] (by kernel_rfl)) rfl ?_
  repeat (refine We rfl ?_)
  refine Wf (OpV.build [.int .i64 0, .int .i64 1, .int .i64 1, .slice none 0 0, .int .i64 0, .string keyA, .string .empty, .int .i64 1] (by kernel_rfl)) rfl ?_
  repeat (first|refine Wa ?_|refine Wd ?_|refine We rfl ?_|refine Wi ?_|refine Ws ?_)
  exact CT.done () rfl (fun w ho => ho.ent)

end Ab
end Go.Proofs.YtdgeffphifgflaaGreat

/- The laws' example: its two commits have two ids (evaluated by the kernel); awake returns true. -/
namespace Go.Proofs.YtdgeffphifgflaaGreat
namespace Ab
open Go Go.RowKit
set_option linter.unusedVariables false
set_option linter.unusedSimpArgs false
set_option synthInstance.maxSize 4000
set_option synthInstance.maxHeartbeats 400000
attribute [local irreducible] JC JO JR JQ andThen inBlock OpV Gives retTo JM JS

theorem may_l0 : may l0 = true := by decide +kernel
theorem idA_eq : idA = sumI (commitPut l0) := by simp only [idA, hashC, may_l0, if_true]
set_option maxRecDepth 100000 in
theorem may_l1 : may l1 = true := by decide +kernel
def idB : ID := (hashC l1).1
set_option maxRecDepth 100000 in
theorem sums_differ : sumL (commitPut l0) ≠ sumL (commitPut l1) := by decide +kernel
theorem idA_ne : idA ≠ idB := by
  intro h
  have h1 : idB = sumI (commitPut l1) := by simp only [idB, hashC, may_l1, if_true]
  rw [idA_eq, h1] at h
  exact sums_differ (congrArg (·.1) h)
attribute [local irreducible] hashC idA l0 l1

end Ab
end Go.Proofs.YtdgeffphifgflaaGreat

/- dag's functions with their results named; the laws' example of layer 11. -/
namespace Go.Proofs.YtdgeffphifgflaaGreat
namespace Ab
open Go Go.RowKit
set_option linter.unusedVariables false
set_option linter.unusedSimpArgs false
set_option synthInstance.maxSize 4000
set_option synthInstance.maxHeartbeats 400000
attribute [local irreducible] JC JO JR JQ andThen inBlock OpV Gives retTo JM JS

attribute [local irreducible] hashC
theorem closed_yes (w : World) (F : Nat → Prop) (a : Option Addr) (k : Nat) (L : List Commit) (h : (sl a k L).holds F w) (hl : L.length ≤ 1000000) (hf : ∀ x ∈ L, fine x) (hc : Closed L) :
    GivesV Tryz.prog 25 [.slice a L.length k] w F (.bool true) := by
  have h0 := closed_dag w F a k L h hl hf
  unfold Gives at h0
  unfold GivesV Gives
  refine Calls.mono h0 ?_
  rintro e w' ⟨y, rfl, hb, hB⟩
  exact ⟨(), by dsimp only; rw [y.2.2 hc], hb, hB⟩
theorem closed_no (w : World) (F : Nat → Prop) (a : Option Addr) (k : Nat) (L : List Commit) (h : (sl a k L).holds F w) (hl : L.length ≤ 1000000) (hf : ∀ x ∈ L, fine x) (hc : ¬ Closed L) :
    GivesV Tryz.prog 25 [.slice a L.length k] w F (.bool false) := by
  have h0 := closed_dag w F a k L h hl hf
  unfold Gives at h0
  unfold GivesV Gives
  refine Calls.mono h0 ?_
  rintro e w' ⟨y, rfl, hb, hB⟩
  refine ⟨(), ?_, hb, hB⟩
  have : y.1 = false := by rw [← Bool.not_eq_true]; exact fun h => hc (y.2.1 h)
  dsimp only
  rw [this]
theorem anc_ex (L : List Commit) (A : List ID) : ∃ M, AncR L A M := by
  by_cases hc : Closed L
  · refine ⟨sortL ((cids L).filter fun x => @decide (inAnc L A x) (Classical.propDecidable _)), sortL_pairwise _, (sortL_perm' _).nodup_iff.2 (hc.nodup.sublist List.filter_sublist), fun _ x => ?_, fun h => (h hc).elim⟩
    rw [mem_sortL, List.mem_filter]
    constructor
    · rintro ⟨_, h⟩; exact @of_decide_eq_true _ (Classical.propDecidable _) h
    · intro h; exact ⟨h.1, @decide_eq_true _ (Classical.propDecidable _) h⟩
  · exact ⟨[], List.Pairwise.nil, List.nodup_nil, fun h => (hc h).elim, fun _ => rfl⟩
theorem cids_two : cids [l0, l1] = [idA, idB] := rfl
theorem par_two {x y : ID} : par [l0, l1] x y ↔ x = idB ∧ y = idA := by
  constructor
  · rintro ⟨c, hc, rfl, hy, _⟩
    simp only [List.mem_cons, List.not_mem_nil, or_false] at hc
    rcases hc with rfl | rfl
    · simp [l0] at hy
    · exact ⟨rfl, by simpa [l1] using hy⟩
  · rintro ⟨rfl, rfl⟩
    exact ⟨l1, by simp, rfl, by simp [l1], by rw [cids_two]; simp⟩
theorem knows_two {x y : ID} : knows [l0, l1] x y ↔ x = idB ∧ y = idA := by
  constructor
  · intro h
    induction h with
    | single h1 => exact par_two.1 h1
    | tail _ h1 ih =>
      have := par_two.1 h1
      exact absurd (ih.2.symm.trans this.1) (by exact fun e => idA_ne e)
  · intro h; exact .single (par_two.2 h)
theorem closed_two : Closed [l0, l1] := by
  have hn : (cids [l0, l1]).Nodup := by rw [cids_two]; simp [idA_ne]
  refine ⟨by simp [may_l0, may_l1], hn, fun c hc => ?_, fun c hc d hd hne hnode => ?_⟩
  · simp only [List.mem_cons, List.not_mem_nil, or_false] at hc
    rcases hc with rfl | rfl
    · exact ⟨by simp [merge, l0], by simp [l0], by simp [l0], by simp [l0, maxGen]⟩
    · refine ⟨by simp [merge, l1], ?_, ?_, ?_⟩
      · rw [cids_two]; simp [l1]
      · intro p hp q hq hk
        have h1 := knows_two.1 hk
        have h2 : p = idA := by simpa [l1] using hp
        exact idA_ne (h2.symm.trans h1.1)
      · have : genAt [l0, l1] idA = l0.gen := genAt_of hn (c := l0) (by simp)
        show l1.gen = maxGen [l0, l1] [idA] + 1
        rw [maxGen, List.foldl_cons, List.foldl_nil, this]; rfl
  · simp only [List.mem_cons, List.not_mem_nil, or_false] at hc hd
    rcases hc with rfl | rfl <;> rcases hd with rfl | rfl
    · exact (hne rfl).elim
    · exact ⟨by simp [l0, l1], fun h => by simp [l0, l1] at h⟩
    · exact ⟨by simp [l0, l1], fun _ => knows_two.2 ⟨rfl, rfl⟩⟩
    · exact (hne rfl).elim
end Ab
end Go.Proofs.YtdgeffphifgflaaGreat

/- The laws' example of layer 11: awake returns true. -/
namespace Go.Proofs.YtdgeffphifgflaaGreat
namespace Ab
open Go Go.RowKit
set_option linter.unusedVariables false
set_option linter.unusedSimpArgs false
set_option synthInstance.maxSize 4000
set_option synthInstance.maxHeartbeats 400000
attribute [local irreducible] JC JO JR JQ andThen inBlock OpV Gives retTo JM JS

attribute [local irreducible] hashC idA l0 l1 ents
end Ab
end Go.Proofs.YtdgeffphifgflaaGreat

/- Few commits are fine; wait.Ready with its result named. -/
namespace Go.Proofs.YtdgeffphifgflaaGreat
namespace Ab
open Go Go.RowKit
set_option linter.unusedVariables false
set_option linter.unusedSimpArgs false
set_option synthInstance.maxSize 4000
set_option synthInstance.maxHeartbeats 400000
attribute [local irreducible] JC JO JR JQ andThen inBlock OpV Gives retTo JM JS

attribute [local irreducible] hashC
theorem fine_few {c : Commit} (h : fewC c = true) : fine c := by
  simp only [fewC, Bool.and_eq_true, decide_eq_true_eq] at h
  exact ⟨⟨by omega, by omega⟩, by omega⟩
theorem few_fine {L : List Commit} {m : Nat} (h : fewL L m = true) : L.length ≤ m ∧ ∀ x ∈ L, fine x := by
  simp only [fewL, Bool.and_eq_true, decide_eq_true_eq, List.all_eq_true] at h
  exact ⟨h.1, fun x hx => fine_few (h.2 x hx)⟩

end Ab
end Go.Proofs.YtdgeffphifgflaaGreat

/- The law DagSorted returns true. -/
namespace Go.Proofs.YtdgeffphifgflaaGreat
namespace Ab
open Go Go.RowKit
set_option linter.unusedVariables false
set_option linter.unusedSimpArgs false
set_option synthInstance.maxSize 4000
set_option synthInstance.maxHeartbeats 400000
attribute [local irreducible] JC JO JR JQ andThen inBlock OpV Gives retTo JM JS

attribute [local irreducible] hashC idA l0 l1 ents
end Ab
end Go.Proofs.YtdgeffphifgflaaGreat

/- The law DagWhole returns true. -/
namespace Go.Proofs.YtdgeffphifgflaaGreat
namespace Ab
open Go Go.RowKit
set_option linter.unusedVariables false
set_option linter.unusedSimpArgs false
set_option synthInstance.maxSize 4000
set_option synthInstance.maxHeartbeats 400000
attribute [local irreducible] JC JO JR JQ andThen inBlock OpV Gives retTo JM JS

attribute [local irreducible] hashC idA l0 l1 ents
end Ab
end Go.Proofs.YtdgeffphifgflaaGreat

/- Contracts: slices.Grow, slices.Concat of ids; ids.Both, Common. -/
namespace Go.Proofs.YtdgeffphifgflaaGreat
namespace Ab
open Go Go.RowKit
set_option linter.unusedVariables false
set_option linter.unusedSimpArgs false
set_option synthInstance.maxSize 4000
set_option synthInstance.maxHeartbeats 400000
attribute [local irreducible] JC JO JR JQ andThen inBlock OpV Gives retTo JM JS

attribute [local irreducible] hashC
instance : Cell (List ID) where
  Ix := Option Addr × Nat
  sz := 1
  cells l y := [.slice y.1 l.length y.2]
  facts l y := [sl y.1 y.2 l]
  len _ _ := rfl
  one l y := by simp [Value.oneCell']
  pos := by decide
section
variable {P : Program} {n : Nn} {w0 : World} {F : Nat → Prop} {ops : Array Oper} {i d : Nat} {t : TypeId} {pos : String} {aft : Array Edge} {g : Option (Nat × Bool)} {os : List Oper} {Q : Cont} {e : E} {Γ : List Fact} [Dr]
end

end Ab
end Go.Proofs.YtdgeffphifgflaaGreat

/- The law DagKnows returns true. -/
namespace Go.Proofs.YtdgeffphifgflaaGreat
namespace Ab
open Go Go.RowKit
set_option linter.unusedVariables false
set_option linter.unusedSimpArgs false
set_option synthInstance.maxSize 4000
set_option synthInstance.maxHeartbeats 400000
attribute [local irreducible] JC JO JR JQ andThen inBlock OpV Gives retTo JM JS

attribute [local irreducible] hashC idA l0 l1 ents
end Ab
end Go.Proofs.YtdgeffphifgflaaGreat

/- The law DagAnc returns true. -/
namespace Go.Proofs.YtdgeffphifgflaaGreat
namespace Ab
open Go Go.RowKit
set_option linter.unusedVariables false
set_option linter.unusedSimpArgs false
set_option synthInstance.maxSize 4000
set_option synthInstance.maxHeartbeats 400000
attribute [local irreducible] JC JO JR JQ andThen inBlock OpV Gives retTo JM JS

attribute [local irreducible] hashC idA l0 l1 ents
theorem AncR.ids {L : List Commit} (hc : Closed L) {A X : List ID} (h : AncR L A X) {x : ID} (hx : x ∈ X) : x ∈ cids L := ((h.mem hc x).1 hx).1
end Ab
end Go.Proofs.YtdgeffphifgflaaGreat

/- Heads, in plain words: the last ones, what ids join to, the head, what comes next. -/
namespace Go.Proofs.YtdgeffphifgflaaGreat
namespace Ab
open Go Go.RowKit
set_option linter.unusedVariables false
set_option linter.unusedSimpArgs false
set_option synthInstance.maxSize 4000
set_option synthInstance.maxHeartbeats 400000
attribute [local irreducible] JC JO JR JQ andThen inBlock OpV Gives retTo JM JS

attribute [local irreducible] hashC idA l0 l1 ents
open Classical in
noncomputable def closedB (L : List Commit) : Bool := decide (Closed L)
noncomputable def ancF (L : List Commit) (A : List ID) : List ID := Classical.choose (anc_ex L A)
noncomputable def partF (L : List Commit) (A : List ID) : List Commit := if closedB L then L.filter (fun c => decide (idC c ∈ A)) else []
noncomputable def frontF (L : List Commit) : List ID := if closedB L then someIds (cids L) (parentsL L) false else []
def topL (L : List Commit) : Int := L.foldl (fun g c => max g c.gen) 0
def headC (g : Int) (f : List ID) : Commit := ⟨⟨-1, 0⟩, g, f, op0⟩
def mergeR (g : Int) (f : List ID) : Commit × Bool := if merge (headC g f) then (headC g f, true) else (commit0, false)
noncomputable def joinF (L : List Commit) (A : List ID) : Commit × Bool :=
  match frontF (partF L (ancF L A)) with
  | [] => (commit0, false)
  | [x] => findR L x
  | f => mergeR (topL (partF L f) + 1) f
noncomputable def headF (L : List Commit) : Commit × Bool := joinF L (idsP L)
noncomputable def baseF (L : List Commit) (A B : List ID) : List ID := someIds (ancF L A) (ancF L B) true
noncomputable def nextC (L : List Commit) (ev : Ev_) (o : Op_) : Commit := ⟨ev, topL L + 1, frontF L, o⟩
noncomputable def nextF (L : List Commit) (ev : Ev_) (o : Op_) : Commit × Bool :=
  if closedB L && may (nextC L ev o) && closedB (L ++ [nextC L ev o]) then (nextC L ev o, true) else (commit0, false)

end Ab
end Go.Proofs.YtdgeffphifgflaaGreat

/- Heads, in plain words: what ids join to, in any order; the head; what comes next. -/
namespace Go.Proofs.YtdgeffphifgflaaGreat
namespace Ab
open Go Go.RowKit
set_option linter.unusedVariables false
set_option linter.unusedSimpArgs false
set_option synthInstance.maxSize 4000
set_option synthInstance.maxHeartbeats 400000
attribute [local irreducible] JC JO JR JQ andThen inBlock OpV Gives retTo JM JS

attribute [local irreducible] hashC idA l0 l1 ents
end Ab
end Go.Proofs.YtdgeffphifgflaaGreat

/- Contracts of the document's layer 1: Right, Word, Four, Long, Pick, Most say what the program's own do. -/
namespace Go.Proofs.YtdgeffphifgflaaGreat
namespace Ab
open Go Go.RowKit
set_option linter.unusedVariables false
set_option linter.unusedSimpArgs false
set_option synthInstance.maxSize 4000
set_option synthInstance.maxHeartbeats 400000
attribute [local irreducible] JC JO JR JQ andThen inBlock OpV Gives retTo JM JS

end Ab
end Go.Proofs.YtdgeffphifgflaaGreat

/- Contracts of the document's layers 1 and 2: Four, Long, twist, Start, Constants, Pad. -/
namespace Go.Proofs.YtdgeffphifgflaaGreat
namespace Ab
open Go Go.RowKit
set_option linter.unusedVariables false
set_option linter.unusedSimpArgs false
set_option synthInstance.maxSize 4000
set_option synthInstance.maxHeartbeats 400000
attribute [local irreducible] JC JO JR JQ andThen inBlock OpV Gives retTo JM JS

end Ab
end Go.Proofs.YtdgeffphifgflaaGreat

/- Contracts of the document's layer 2: Pad, words. -/
namespace Go.Proofs.YtdgeffphifgflaaGreat
namespace Ab
open Go Go.RowKit
set_option linter.unusedVariables false
set_option linter.unusedSimpArgs false
set_option synthInstance.maxSize 4000
set_option synthInstance.maxHeartbeats 400000
attribute [local irreducible] JC JO JR JQ andThen inBlock OpV Gives retTo JM JS

attribute [local irreducible] spreadK
end Ab
end Go.Proofs.YtdgeffphifgflaaGreat

/- Contracts of the document's layer 2: Block. -/
namespace Go.Proofs.YtdgeffphifgflaaGreat
namespace Ab
open Go Go.RowKit
set_option linter.unusedVariables false
set_option linter.unusedSimpArgs false
set_option synthInstance.maxSize 4000
set_option synthInstance.maxHeartbeats 400000
attribute [local irreducible] JC JO JR JQ andThen inBlock OpV Gives retTo JM JS

attribute [local irreducible] spreadK shaKV spreadV turnV plusV
end Ab
end Go.Proofs.YtdgeffphifgflaaGreat

/- Contracts of the document's layer 2: Sum. -/
namespace Go.Proofs.YtdgeffphifgflaaGreat
namespace Ab
open Go Go.RowKit
set_option linter.unusedVariables false
set_option linter.unusedSimpArgs false
set_option synthInstance.maxSize 4000
set_option synthInstance.maxHeartbeats 400000
attribute [local irreducible] JC JO JR JQ andThen inBlock OpV Gives retTo JM JS

attribute [local irreducible] spreadK shaKV spreadV turnV plusV blockL
end Ab
end Go.Proofs.YtdgeffphifgflaaGreat

/- Contracts of the document's layers 3 and 5: Num, Fold, Text, Key, May, Put. -/
namespace Go.Proofs.YtdgeffphifgflaaGreat
namespace Ab
open Go Go.RowKit
set_option linter.unusedVariables false
set_option linter.unusedSimpArgs false
set_option synthInstance.maxSize 4000
set_option synthInstance.maxHeartbeats 400000
attribute [local irreducible] JC JO JR JQ andThen inBlock OpV Gives retTo JM JS

end Ab
end Go.Proofs.YtdgeffphifgflaaGreat

/- Contracts of the document's layers 5 and 9: Key, May, Put, Event. -/
namespace Go.Proofs.YtdgeffphifgflaaGreat
namespace Ab
open Go Go.RowKit
set_option linter.unusedVariables false
set_option linter.unusedSimpArgs false
set_option synthInstance.maxSize 4000
set_option synthInstance.maxHeartbeats 400000
attribute [local irreducible] JC JO JR JQ andThen inBlock OpV Gives retTo JM JS

end Ab
end Go.Proofs.YtdgeffphifgflaaGreat

/- Contracts of the document's layer 5: Put. -/
namespace Go.Proofs.YtdgeffphifgflaaGreat
namespace Ab
open Go Go.RowKit
set_option linter.unusedVariables false
set_option linter.unusedSimpArgs false
set_option synthInstance.maxSize 4000
set_option synthInstance.maxHeartbeats 400000
attribute [local irreducible] JC JO JR JQ andThen inBlock OpV Gives retTo JM JS

attribute [local irreducible] sumI numL textL opPut keyOk
end Ab
end Go.Proofs.YtdgeffphifgflaaGreat

/- Contracts of the document's layer 4: Less, Has, Rises. -/
namespace Go.Proofs.YtdgeffphifgflaaGreat
namespace Ab
open Go Go.RowKit
set_option linter.unusedVariables false
set_option linter.unusedSimpArgs false
set_option synthInstance.maxSize 4000
set_option synthInstance.maxHeartbeats 400000
attribute [local irreducible] JC JO JR JQ andThen inBlock OpV Gives retTo JM JS

end Ab
end Go.Proofs.YtdgeffphifgflaaGreat

/- Contracts of the document's layer 4: Sort, some, Without. -/
namespace Go.Proofs.YtdgeffphifgflaaGreat
namespace Ab
open Go Go.RowKit
set_option linter.unusedVariables false
set_option linter.unusedSimpArgs false
set_option synthInstance.maxSize 4000
set_option synthInstance.maxHeartbeats 400000
attribute [local irreducible] JC JO JR JQ andThen inBlock OpV Gives retTo JM JS

attribute [local irreducible] sortL setOf
end Ab
end Go.Proofs.YtdgeffphifgflaaGreat

/- Contracts of the document's layer 4: some, Without; layer 10: May, Merge. -/
namespace Go.Proofs.YtdgeffphifgflaaGreat
namespace Ab
open Go Go.RowKit
set_option linter.unusedVariables false
set_option linter.unusedSimpArgs false
set_option synthInstance.maxSize 4000
set_option synthInstance.maxHeartbeats 400000
attribute [local irreducible] JC JO JR JQ andThen inBlock OpV Gives retTo JM JS

end Ab
end Go.Proofs.YtdgeffphifgflaaGreat

/- Contracts of the document's layer 10: Put, Hash. -/
namespace Go.Proofs.YtdgeffphifgflaaGreat
namespace Ab
open Go Go.RowKit
set_option linter.unusedVariables false
set_option linter.unusedSimpArgs false
set_option synthInstance.maxSize 4000
set_option synthInstance.maxHeartbeats 400000
attribute [local irreducible] JC JO JR JQ andThen inBlock OpV Gives retTo JM JS

attribute [local irreducible] sumI numL textL opPut
end Ab
end Go.Proofs.YtdgeffphifgflaaGreat

/- Contracts of the document's layers 10 and 16: Hash, Put, Ready, Missing. -/
namespace Go.Proofs.YtdgeffphifgflaaGreat
namespace Ab
open Go Go.RowKit
set_option linter.unusedVariables false
set_option linter.unusedSimpArgs false
set_option synthInstance.maxSize 4000
set_option synthInstance.maxHeartbeats 400000
attribute [local irreducible] JC JO JR JQ andThen inBlock OpV Gives retTo JM JS

attribute [local irreducible] sumI numL textL opPut
attribute [local irreducible] hashC
end Ab
end Go.Proofs.YtdgeffphifgflaaGreat

/- Contracts of the document's layer 11: Ids, At, Find. -/
namespace Go.Proofs.YtdgeffphifgflaaGreat
namespace Ab
open Go Go.RowKit
set_option linter.unusedVariables false
set_option linter.unusedSimpArgs false
set_option synthInstance.maxSize 4000
set_option synthInstance.maxHeartbeats 400000
attribute [local irreducible] JC JO JR JQ andThen inBlock OpV Gives retTo JM JS

attribute [local irreducible] hashC
end Ab
end Go.Proofs.YtdgeffphifgflaaGreat

/- Rows of truth values in blocks of their own, behind a row of slices: made, read, written, published. Program-independent. -/
namespace Go.Proofs.YtdgeffphifgflaaGreat
namespace Ab
open Go Go.RowKit
set_option linter.unusedVariables false
set_option linter.unusedSimpArgs false

/-- A slice that is the whole of a block. -/
structure RowP where
  b : Nat
  n : Nat
instance : Cell RowP where
  Ix := Unit
  sz := 1
  cells r _ := [.slice (some ⟨r.b, 0, none⟩) r.n r.n]
  facts _ _ := []
  len _ _ := rfl
  one r _ := by simp [Value.oneCell']
  pos := by decide
instance {Γ : List Fact} {b n : Nat} : Typed Γ [.slice (some ⟨b, 0, none⟩) n n] (RowP.mk b n) := ⟨(), rfl, by simp [Cell.facts]⟩
instance : Cell (List Bool) where
  Ix := Option Addr × Nat
  sz := 1
  cells l y := [.slice y.1 l.length y.2]
  facts l y := [sl y.1 y.2 l]
  len _ _ := rfl
  one l y := by simp [Value.oneCell']
  pos := by decide

def rowBs (B : List RowP) : List Nat := B.map RowP.b
def rowsHold (t : TypeId) (B : List RowP) (K : List (List Bool)) (w : World) : Prop :=
  B.length = K.length ∧ ∀ i (h : i < B.length) (h' : i < K.length), B[i].n = K[i].length ∧ w.heap[B[i].b]? = some (.cells (K[i].map Value.bool).toArray t (0, 0))
theorem rowsHold.keep {t : TypeId} {B : List RowP} {K : List (List Bool)} {w w' : World} (h : rowsHold t B K w) (hk : ∀ r ∈ B, r.b < w.heap.size → w'.heap[r.b]? = w.heap[r.b]?) : rowsHold t B K w' := by
  refine ⟨h.1, fun i hi hi' => ⟨(h.2 i hi hi').1, ?_⟩⟩
  have h1 := (h.2 i hi hi').2
  rw [hk _ (List.getElem_mem hi) (Array.getElem?_eq_some_iff.1 h1).1]
  exact h1
theorem rowsHold.lt {t : TypeId} {B : List RowP} {K : List (List Bool)} {w : World} (h : rowsHold t B K w) {r : RowP} (hr : r ∈ B) : r.b < w.heap.size := by
  obtain ⟨i, hi, rfl⟩ := List.getElem_of_mem hr
  exact (Array.getElem?_eq_some_iff.1 (h.2 i hi (by have := h.1; omega)).2).1
/-- The rows, which the call owns. -/
def rowsR (t : TypeId) (B : List RowP) (K : List (List Bool)) : Res where
  owns k := ∃ r ∈ B, r.b = k
  holds F w := (rowBs B).Nodup ∧ rowsHold t B K w
  keep F G w w' h hF hk := ⟨h.1, h.2.keep fun r hr hlt => hk r.b hlt (.inr ⟨r, hr, rfl⟩)⟩
  lt F w h k hk := by obtain ⟨r, hr, rfl⟩ := hk; exact h.2.lt hr
section
variable {P : Program} {n : Nn} {w0 : World} {F : Nat → Prop} {ops : Array Oper} {i d : Nat} {t : TypeId} {pos : String} {aft : Array Edge} {g : Option (Nat × Bool)} {os : List Oper} {Q : Cont} {e : E} {Γ : List Fact} [Dr]
/-- Two facts told as one. -/
theorem Hold.join {w : World} {f g h : Fact} (ho : Hold w0 F (f :: g :: Γ) w) (hown : ∀ k, h.owns k ↔ f.owns k ∨ g.owns k) (hs : h.sat (fp w0 F (h :: Γ)) w) : Hold w0 F (h :: Γ) w := by
  have hfree : ∀ k, fp w0 F (f :: g :: Γ) k → fp w0 F (h :: Γ) k := by
    refine fun k hk => ⟨hk.1, fun f' hf' hown' => ?_⟩
    rcases List.mem_cons.1 hf' with rfl | hf'
    · rcases (hown k).1 hown' with h1 | h1
      · exact hk.2 f (by simp) h1
      · exact hk.2 g (by simp) h1
    · exact hk.2 f' (by simp [hf']) hown'
  have hp := List.pairwise_cons.1 ho.dis
  have hp2 := List.pairwise_cons.1 hp.2
  refine ⟨ho.below, fun f' hf' => ?_, ?_, ?_⟩
  · rcases List.mem_cons.1 hf' with rfl | hf'
    · exact hs
    · exact Fact.sat_keep (ho.sat f' (by simp [hf'])) (fun k hk _ => hfree k hk) (fun _ _ _ => rfl)
  · refine List.pairwise_cons.2 ⟨fun f' hf' k hk => ?_, hp2.2⟩
    rcases (hown k).1 hk.1 with h1 | h1
    · exact hp.1 f' (by simp [hf']) k ⟨h1, hk.2⟩
    · exact hp2.1 f' hf' k ⟨h1, hk.2⟩
  · intro f' hf' k hk
    rcases List.mem_cons.1 hf' with rfl | hf'
    · rcases (hown k).1 hk with h1 | h1
      · exact ho.new f (by simp) k h1
      · exact ho.new g (by simp) k h1
    · exact ho.new f' (by simp [hf']) k hk
/-- The rows' fact. -/
class HasRows (Γ : List Fact) (bt : outParam TypeId) (B : outParam (List RowP)) (K : outParam (List (List Bool))) (Δ : outParam (List Fact)) : Prop where
  ok : Γ.Perm (.res (rowsR bt B K) :: Δ)
instance (priority := 100) HasRows.miss {g : Fact} {bt : TypeId} {B : List RowP} {K : List (List Bool)} {Δ : List Fact} [h : HasRows Γ bt B K Δ] : HasRows (g :: Γ) bt B K (g :: Δ) :=
  ⟨(h.ok.cons g).trans (List.Perm.swap _ g Δ)⟩
instance (priority := 1000) HasRows.hit {bt : TypeId} {B : List RowP} {K : List (List Bool)} : HasRows (.res (rowsR bt B K) :: Γ) bt B K Γ := ⟨List.Perm.refl _⟩
end
section
variable {P : Program} {n : Nn} {w0 : World} {F : Nat → Prop} {ops : Array Oper} {i d : Nat} {t : TypeId} {pos : String} {aft : Array Edge} {g : Option (Nat × Bool)} {os : List Oper} {Q : Cont} {e : E} {Γ : List Fact} [Dr]
end
end Ab
end Go.Proofs.YtdgeffphifgflaaGreat

/- Contract of the document's layer 11: Knows. -/
namespace Go.Proofs.YtdgeffphifgflaaGreat
namespace Ab
open Go Go.RowKit
set_option linter.unusedVariables false
set_option linter.unusedSimpArgs false
set_option synthInstance.maxSize 4000
set_option synthInstance.maxHeartbeats 400000
attribute [local irreducible] JC JO JR JQ andThen inBlock OpV Gives retTo JM JS

attribute [local irreducible] hashC
def get (K : List (List Bool)) (i j : Nat) : Bool := (K.getD i []).getD j false
def Square (n : Nat) (K : List (List Bool)) : Prop := K.length = n ∧ ∀ i (h : i < K.length), K[i].length = n
theorem Square.set {n : Nat} {K : List (List Bool)} (h : Square n K) {i j : Nat} (hi : i < K.length) : Square n (K.set i (K[i].set j true)) := by
  refine ⟨by simp [h.1], fun x hx => ?_⟩
  by_cases hxi : x = i
  · subst hxi; simp [h.2 x hi]
  · rw [List.getElem_set_ne (Ne.symm hxi)]; exact h.2 x (by simpa using hx)
structure KnowsR (L : List Commit) (K : List (List Bool)) : Prop where
  square : Square L.length K
  iff : ∀ i j, get K i j = true ↔ knowsI L i j
end Ab
end Go.Proofs.YtdgeffphifgflaaGreat

/- Contract of the document's layer 11: one. -/
namespace Go.Proofs.YtdgeffphifgflaaGreat
namespace Ab
open Go Go.RowKit
set_option linter.unusedVariables false
set_option linter.unusedSimpArgs false
set_option synthInstance.maxSize 4000
set_option synthInstance.maxHeartbeats 400000
attribute [local irreducible] JC JO JR JQ andThen inBlock OpV Gives retTo JM JS

attribute [local irreducible] hashC
section
variable {P : Program} {n : Nn} {w0 : World} {F : Nat → Prop} {ops : Array Oper} {i d : Nat} {t : TypeId} {pos : String} {aft : Array Edge} {g : Option (Nat × Bool)} {os : List Oper} {Q : Cont} {e : E} {Γ : List Fact} [Dr]
end
end Ab
end Go.Proofs.YtdgeffphifgflaaGreat

/- Contract of the document's layer 11: Closed. -/
namespace Go.Proofs.YtdgeffphifgflaaGreat
namespace Ab
open Go Go.RowKit
set_option linter.unusedVariables false
set_option linter.unusedSimpArgs false
set_option synthInstance.maxSize 4000
set_option synthInstance.maxHeartbeats 400000
attribute [local irreducible] JC JO JR JQ andThen inBlock OpV Gives retTo JM JS

attribute [local irreducible] hashC
structure GoodI (L : List Commit) (i : Nat) : Prop where
  lt : i < L.length
  merge : merge L[i] = false
  one : oneI L i
  at_ : (cids L).findIdx? (fun x => decide (x = idC L[i])) = some i
  ev : ∀ j, j < i → evI L i j
end Ab
end Go.Proofs.YtdgeffphifgflaaGreat

/- Contracts of the document's layer 11: Anc, Part. -/
namespace Go.Proofs.YtdgeffphifgflaaGreat
namespace Ab
open Go Go.RowKit
set_option linter.unusedVariables false
set_option linter.unusedSimpArgs false
set_option synthInstance.maxSize 4000
set_option synthInstance.maxHeartbeats 400000
attribute [local irreducible] JC JO JR JQ andThen inBlock OpV Gives retTo JM JS

attribute [local irreducible] hashC
end Ab
end Go.Proofs.YtdgeffphifgflaaGreat

/- Contract of the document's layer 11: Part. -/
namespace Go.Proofs.YtdgeffphifgflaaGreat
namespace Ab
open Go Go.RowKit
set_option linter.unusedVariables false
set_option linter.unusedSimpArgs false
set_option synthInstance.maxSize 4000
set_option synthInstance.maxHeartbeats 400000
attribute [local irreducible] JC JO JR JQ andThen inBlock OpV Gives retTo JM JS

attribute [local irreducible] hashC
end Ab
end Go.Proofs.YtdgeffphifgflaaGreat

/- Contract of the document's layer 11: Sorted. -/
namespace Go.Proofs.YtdgeffphifgflaaGreat
namespace Ab
open Go Go.RowKit
set_option linter.unusedVariables false
set_option linter.unusedSimpArgs false
set_option synthInstance.maxSize 4000
set_option synthInstance.maxHeartbeats 400000
attribute [local irreducible] JC JO JR JQ andThen inBlock OpV Gives retTo JM JS

attribute [local irreducible] hashC
instance : Cell Nat where
  Ix := Unit
  sz := 1
  cells n _ := [natV n]
  facts _ _ := []
  len _ _ := rfl
  one _ _ := One.ok
  pos := by decide
instance {Γ : List Fact} {n : Nat} : Typed Γ [natV n] n := ⟨(), rfl, by simp [Cell.facts]⟩
instance {Γ : List Fact} {n : Nat} : Typed Γ [.int .i64 (n : Int)] n := ⟨(), rfl, by simp [Cell.facts]⟩
section
variable {P : Program} {n : Nn} {w0 : World} {F : Nat → Prop} {ops : Array Oper} {i d : Nat} {t : TypeId} {pos : String} {aft : Array Edge} {g : Option (Nat × Bool)} {os : List Oper} {Q : Cont} {e : E} {Γ : List Fact} [Dr]
end
theorem leS_trans {a b c : Commit} (h1 : leS a b) (h2 : leS b c) : leS a c := by
  rcases h1 with h1 | ⟨h1, h3⟩ <;> rcases h2 with h2 | ⟨h2, h4⟩
  · exact .inl (by omega)
  · exact .inl (by omega)
  · exact .inl (by omega)
  · exact .inr ⟨by omega, idLe_trans h3 h4⟩
def atC (L : List Commit) (i : Nat) : Commit := L.getD i commit0
structure Ins (L : List Commit) (i : Nat) (O : List Nat) : Prop where
  perm : O.Perm (List.range i)
  sorted : O.Pairwise (fun x y => leS (atC L x) (atC L y))
theorem Ins.length {L : List Commit} {i : Nat} {O : List Nat} (h : Ins L i O) : O.length = i := by rw [h.perm.length_eq, List.length_range]
theorem Ins.lt {L : List Commit} {i : Nat} {O : List Nat} (h : Ins L i O) {j : Nat} (hj : j < O.length) : O[j] < i := List.mem_range.1 (h.perm.mem_iff.1 (List.getElem_mem hj))
theorem Ins.next {L : List Commit} {i : Nat} {O : List Nat} (h : Ins L i O) (at_ : Nat) (hle : at_ ≤ O.length) (hup : ∀ j (hj : j < O.length), at_ ≤ j → leS (atC L i) (atC L O[j]))
    (hdn : ∀ (h0 : 0 < at_), leS (atC L (O[at_ - 1]'(by omega))) (atC L i)) : Ins L (i + 1) (O.take at_ ++ [i] ++ O.drop at_) := by
  refine ⟨?_, ?_⟩
  · rw [List.range_succ, List.append_assoc]
    refine List.Perm.trans ((List.perm_append_comm (l₁ := [i]) (l₂ := O.drop at_)).append_left _) ?_
    rw [← List.append_assoc, List.take_append_drop]
    exact h.perm.append_right _
  · have hs2 : (O.take at_ ++ O.drop at_).Pairwise (fun x y => leS (atC L x) (atC L y)) := by rw [List.take_append_drop]; exact h.sorted
    rw [List.pairwise_append] at hs2
    rw [List.append_assoc, List.pairwise_append]
    refine ⟨hs2.1, ?_, ?_⟩
    · rw [List.singleton_append, List.pairwise_cons]
      refine ⟨fun y hy => ?_, hs2.2.1⟩
      obtain ⟨j, hj, rfl⟩ := List.getElem_of_mem hy
      rw [List.length_drop] at hj
      rw [List.getElem_drop]
      exact hup _ (by omega) (by omega)
    · intro y hy z hz
      rcases List.mem_append.1 hz with hz | hz
      · rw [List.mem_singleton.1 hz]
        obtain ⟨j, hj, rfl⟩ := List.getElem_of_mem hy
        rw [List.length_take] at hj
        have h0 : 0 < at_ := by omega
        rw [List.getElem_take]
        by_cases hja : j = at_ - 1
        · subst hja; exact hdn h0
        · exact leS_trans (List.pairwise_iff_getElem.1 h.sorted j (at_ - 1) (by omega) (by omega) (by omega)) (hdn h0)
      · exact hs2.2.2 y hy z hz
end Ab
end Go.Proofs.YtdgeffphifgflaaGreat

/- The law DagTells returns true. -/
namespace Go.Proofs.YtdgeffphifgflaaGreat
namespace Ab
open Go Go.RowKit
set_option linter.unusedVariables false
set_option linter.unusedSimpArgs false
set_option synthInstance.maxSize 4000
set_option synthInstance.maxHeartbeats 400000
attribute [local irreducible] JC JO JR JQ andThen inBlock OpV Gives retTo JM JS

attribute [local irreducible] hashC idA l0 l1 ents
end Ab
end Go.Proofs.YtdgeffphifgflaaGreat

/- Contracts: front.top, Front, Join, Head, Base. -/
namespace Go.Proofs.YtdgeffphifgflaaGreat
namespace Ab
open Go Go.RowKit
set_option linter.unusedVariables false
set_option linter.unusedSimpArgs false
set_option synthInstance.maxSize 4000
set_option synthInstance.maxHeartbeats 400000
attribute [local irreducible] JC JO JR JQ andThen inBlock OpV Gives retTo JM JS

attribute [local irreducible] hashC idA l0 l1 ents
theorem may_parents {c : Commit} (h : may c = true) : c.parents.length ≤ 8 := by
  unfold may at h
  split at h
  · cases h
  · rename_i hn
    simp only [Bool.or_eq_true, not_or, decide_eq_true_eq] at hn
    omega
end Ab
end Go.Proofs.YtdgeffphifgflaaGreat

/- The commits of a disk: plain words. -/
namespace Go.Proofs.YtdgeffphifgflaaGreat
namespace Ab
open Go Go.RowKit
set_option linter.unusedVariables false
set_option linter.unusedSimpArgs false
set_option synthInstance.maxSize 4000
set_option synthInstance.maxHeartbeats 400000
attribute [local irreducible] JC JO JR JQ andThen inBlock OpV Gives retTo JM JS

noncomputable section
/-- The commits of records, up to the first that is none. -/
def decL : List (List UInt8) → List Commit
  | [] => []
  | b :: l => match getC b with
    | some (c, []) => c :: decL l
    | _ => []
open Classical in
/-- Commits up to the first with which they are not closed. -/
def closeF (acc : List Commit) : List Commit → List Commit
  | [] => acc
  | c :: l => if Closed (acc ++ [c]) then closeF (acc ++ [c]) l else acc
def loadL (b : List UInt8) : List Commit := closeF [] (decL (readL b))
def loadEnd (b : List UInt8) : Nat := (framesL ((readL b).take (loadL b).length)).length
end
theorem decL_cons (b : List UInt8) (l : List (List UInt8)) : (∃ c, getC b = some (c, []) ∧ decL (b :: l) = c :: decL l) ∨ ((¬ ∃ c, getC b = some (c, [])) ∧ decL (b :: l) = []) := by
  rw [decL]
  split
  · rename_i c h; exact .inl ⟨c, h, rfl⟩
  · rename_i h; exact .inr ⟨fun ⟨c, hc⟩ => h c hc, rfl⟩
theorem decL_le : ∀ l : List (List UInt8), (decL l).length ≤ l.length
  | [] => Nat.le_refl _
  | b :: l => by
    have := decL_le l
    rcases decL_cons b l with ⟨c, _, h⟩ | ⟨_, h⟩ <;> rw [h] <;> simp <;> omega
theorem decL_at : ∀ (l : List (List UInt8)) (i : Nat) (h : i < (decL l).length) (h2 : i < l.length), getC l[i] = some ((decL l)[i], [])
  | [], i, h, _ => by cases h
  | b :: l, i, h, h2 => by
    rcases decL_cons b l with ⟨c, hc, hd⟩ | ⟨_, hd⟩
    · cases i with
      | zero => simp only [hd, List.getElem_cons_zero]; exact hc
      | succ i =>
        simp only [hd, List.getElem_cons_succ]
        exact decL_at l i (by rw [hd] at h; simpa using h) (by simpa using h2)
    · rw [hd] at h; cases h
theorem decL_end : ∀ (l : List (List UInt8)) (h : (decL l).length < l.length), ¬ ∃ c, getC (l[(decL l).length]) = some (c, [])
  | [], h => by cases h
  | b :: l, h => by
    rcases decL_cons b l with ⟨c, hc, hd⟩ | ⟨hn, hd⟩
    · simp only [hd, List.length_cons, List.getElem_cons_succ]
      exact decL_end l (by rw [hd] at h; simpa using h)
    · simp only [hd, List.length_nil, List.getElem_cons_zero]; exact hn
/-- As a loop has it: the first i are closed, each ahead of the others. -/
theorem closeF_step {l : List Commit} {i : Nat} (hi : i < l.length) (h : closeF [] l = closeF (l.take i) (l.drop i)) (hc : Closed (l.take (i + 1))) : closeF [] l = closeF (l.take (i + 1)) (l.drop (i + 1)) := by
  rw [h, List.drop_eq_getElem_cons hi, closeF, ← List.take_succ_eq_append_getElem hi, if_pos hc]
theorem closeF_stop {l : List Commit} {i : Nat} (hi : i < l.length) (h : closeF [] l = closeF (l.take i) (l.drop i)) (hc : ¬ Closed (l.take (i + 1))) : closeF [] l = l.take i := by
  rw [h, List.drop_eq_getElem_cons hi, closeF, ← List.take_succ_eq_append_getElem hi, if_neg hc]
theorem readL_small : ∀ (f : Nat) (b : List UInt8), ∀ x ∈ readF f b, x.length ≤ 4000
  | 0, _, x, h => by cases h
  | f + 1, b, x, h => by
    unfold readF at h
    cases hs : readStep b with
    | none => rw [hs] at h; cases h
    | some q =>
      rw [hs] at h
      rcases List.mem_cons.1 h with rfl | h
      · exact (readStep_some (x := q.1) (r := q.2) hs).1
      · exact readL_small f _ x h
theorem readF_pre : ∀ (f : Nat) (b : List UInt8), framesL (readF f b) <+: b
  | 0, b => List.nil_prefix
  | f + 1, b => by
    unfold readF
    cases hs : readStep b with
    | none => exact List.nil_prefix
    | some q =>
      dsimp only
      rw [framesL_cons]
      have h1 := (readStep_some (x := q.1) (r := q.2) hs).2
      obtain ⟨t, ht⟩ := readF_pre f q.2
      exact ⟨t, by rw [List.append_assoc, ht, ← h1]⟩
theorem framesL_take_le (l : List (List UInt8)) (i : Nat) : (framesL (l.take i)).length ≤ (framesL l).length := by
  conv => rhs; rw [← List.take_append_drop i l]
  rw [framesL_append, List.length_append]; omega
theorem length_framesL (l : List (List UInt8)) : 5 * l.length ≤ (framesL l).length := by
  induction l with
  | nil => simp
  | cons y l ih => rw [framesL_cons, List.length_append, frameL_length, List.length_cons]; have := numL_pos y.length; omega
theorem framesL_next {l : List (List UInt8)} {i : Nat} (hi : i < l.length) : (framesL (l.take (i + 1))).length = (framesL (l.take i)).length + (frameL l[i]).length := by
  rw [List.take_succ_eq_append_getElem hi, framesL_append, framesL_one, List.length_append]
theorem finC_may {c0 c : Commit} {b r : List UInt8} (h : finC c0 b = some (c, r)) : may c = true ∧ c = c0 := by
  unfold finC at h
  split at h
  · cases h; exact ⟨by assumption, rfl⟩
  · cases h
theorem getC_may {b r : List UInt8} {c : Commit} (h : getC b = some (c, r)) : may c = true ∧ texts c := by
  unfold getC at h
  obtain ⟨q0, h0, h⟩ := Option.bind_eq_some_iff.1 h
  obtain ⟨q1, h1, h⟩ := Option.bind_eq_some_iff.1 h
  obtain ⟨q2, h2, h⟩ := Option.bind_eq_some_iff.1 h
  obtain ⟨q3, h3, h⟩ := Option.bind_eq_some_iff.1 h
  obtain ⟨q4, h4, h⟩ := Option.bind_eq_some_iff.1 h
  unfold opC at h
  split at h
  · obtain ⟨h5, h6⟩ := finC_may h
    refine ⟨h5, ?_⟩
    rw [h6]
    unfold texts
    exact (by decide : op0.key.size < 4611686018427387904 ∧ op0.elem.size < 4611686018427387904)
  · split at h
    · obtain ⟨h5, h6⟩ := finC_may h
      refine ⟨h5, ?_⟩
      rw [h6]
      exact getOp_texts q4.2
    · cases h
end Ab
end Go.Proofs.YtdgeffphifgflaaGreat

/- Code within a round of a range over a function; operations that call yield. Program-independent. -/
namespace Go.Proofs.YtdgeffphifgflaaGreat
namespace Ab
open Go Go.RowKit
set_option linter.unusedVariables false
set_option linter.unusedSimpArgs false
/-- The fence of a round. -/
abbrev rnd (l : Nat) : Fence := Fence.wide.inRound l
def notDefer : Oper → Bool
  | ⟨_, .defer _, _, _, _, _⟩ => false
  | _ => true
theorem notDefer_ok {o : Oper} (h : notDefer o = true) (c : Call) : o.op ≠ .defer c := by
  obtain ⟨d, op, t, p, a, g⟩ := o
  rintro rfl
  cases h
section
variable {P : Program} {ops : Array Oper} {Q : Exit → Act → World → Prop} {l m : Nat}
theorem upon_in {F : Fence} (hdp : F.depth = none) (hfn : ∀ f, F.fn f) (hcalls : ∀ {f args w R}, Calls P f args w R → CallsIn F (m - 1) P f args w R) (hrows : ∀ {row args w R}, Rows P row args w R → RowsIn F (m - 1) P row args w R)
    {o : Oper} {a : Act} {K K' : Act → World → Prop} (hK : ∀ a w, K a w → K' a w) (r : Result Next) (h : o.upon P a K Q r) : o.uponIn F m P a K' Q r := by
  have hn : F.depth.isSome = true → 1 ≤ m := by rw [hdp]; intro h; cases h
  cases r with
  | halt x w' => cases x <;> exact h
  | ok x w' =>
    cases x with
    | value v => exact hK _ _ h
    | skip => exact hK _ _ h
    | defer d => exact hK _ _ h
    | enter f args =>
      refine ⟨hn, hcalls (Calls.mono h ?_)⟩
      intro e w'' he
      cases e with
      | returned v => exact hK _ _ he
      | panicked c => exact he
      | outgrown => exact he
    | row row args => exact ⟨hn, (hrows h).mono fun v w'' h => hK _ _ h⟩
    | round l f tmps assign body => exact h.elim
    | _ => exact h
theorem wpOps_in (hd : ∀ o ∈ ops, notDefer o = true) (hQ : ¬ LetsOut Q) : ∀ (is : List Nat) (a : Act) (w : World), wpOps P ops Q is a w → wpOpsIn (rnd l) m P ops Q is a w
  | [], a, w, h => h
  | i :: is, a, w, h => by
    unfold wpOps at h
    unfold wpOpsIn
    cases ho : ops[i]? with
    | none => rw [ho] at h; exact wpOps_in hd hQ is a w h
    | some o =>
      rw [ho] at h
      dsimp only at h ⊢
      by_cases hw : Region.wanted o (yielded ops a.tmps) = true
      · rw [if_pos hw] at h ⊢
        rcases h with h | h
        · refine ⟨fun _ _ => trivial, ?_⟩
          have hm : o ∈ ops := Array.mem_of_getElem? ho
          rw [Oper.semAt_eq _ _ _ (notDefer_ok (hd o hm))]
          exact upon_in rfl (fun _ => trivial) (fun h => CallsIn.inRound l (callsIn_wide.2 h)) (fun h c cs _ => let ⟨v, w', r, s⟩ := h c cs; ⟨v, w', r, stepsIn_wide.2 s⟩) (fun a w h => wpOps_in hd hQ is a w h) _ h
        · exact (hQ h.2).elim
      · rw [if_neg hw] at h ⊢
        exact ⟨fun _ _ => trivial, wpOps_in hd hQ is _ w h⟩
end
section
variable {P : Program} {n : Nn} {w0 : World} {F : Nat → Prop} {l : Nat} {Q : Cont} {e : E} {Γ : List Fact} [Dr]
/-- As JC, within a round of loop l. -/
def JI (P : Program) (n : Nn) (w0 : World) (F : Nat → Prop) (l : Nat) (c : Code) (Q : Cont) (e : E) (Γ : List Fact) : Prop :=
  (∀ e Γ, ¬ Q .outgrown e Γ) → ∀ a w, Fr n e a → Hold w0 F Γ w → c.wpIn (rnd l) 1 P (up n w0 F Q) a w
theorem JI.skip (h : Q .normal e Γ) : JI P n w0 F l .skip Q e Γ := fun _ _ _ fr ho => wpIn_skip ⟨e, Γ, h, fr, ho⟩
theorem JI.ret (h : Q .ret e Γ) : JI P n w0 F l .ret Q e Γ := fun _ _ _ fr ho => wpIn_ret ⟨e, Γ, h, fr, ho⟩
theorem JI.seq {x y : Code} (h : JI P n w0 F l x (andThen (JI P n w0 F l y Q) Q) e Γ) : JI P n w0 F l (.seq x y) Q e Γ := by
  intro hq a w fr ho
  refine wpIn_seq (wpIn_mono (h hq a w fr ho) ?_)
  rintro x a w ⟨e, Γ, h, fr, ho⟩
  cases x <;> first | exact h hq a w fr ho | exact ⟨e, Γ, h, fr, ho⟩
theorem JI.cond_true {c : Operand} {x y : Code} [hc : Ev e c (.bool true)] (h : JI P n w0 F l x Q e Γ) : JI P n w0 F l (.cond c x y) Q e Γ :=
  fun hq a w fr ho => wpIn_cond_true (hc.ok n a fr) (h hq a w fr ho)
theorem JI.cond_false {c : Operand} {x y : Code} [hc : Ev e c (.bool false)] (h : JI P n w0 F l y Q e Γ) : JI P n w0 F l (.cond c x y) Q e Γ :=
  fun hq a w fr ho => wpIn_cond_false (hc.ok n a fr) (h hq a w fr ho)
theorem JI.block {id : Nat} {c : Code} (h : JI P n w0 F l c (inBlock id Q) e Γ) : JI P n w0 F l (.block id c) Q e Γ := by
  intro hq a w fr ho
  refine wpIn_block (wpIn_mono (h hq a w fr ho) ?_)
  rintro x a w ⟨e, Γ, hq, fr, ho⟩
  cases x with
  | exit id' =>
    simp only [inBlock, Exit.inBlock] at *
    split
    · rename_i he; rw [if_pos he] at hq; exact ⟨e, Γ, hq, fr, ho⟩
    · rename_i he; rw [if_neg he] at hq; exact ⟨e, Γ, hq, fr, ho⟩
  | _ => exact ⟨e, Γ, hq, fr, ho⟩
theorem JI.more {c : Code} {Γ' : List Fact} (h : ∀ w, Hold w0 F Γ w → Hold w0 F Γ' w) (k : JI P n w0 F l c Q e Γ') : JI P n w0 F l c Q e Γ := fun hq a w fr ho => k hq a w fr (h w ho)
theorem no_out (hq : ∀ e Γ, ¬ Q .outgrown e Γ) : ¬ LetsOut (up n w0 F Q) := by
  rintro ⟨a, w, e, Γ, h, _⟩
  exact hq e Γ h
theorem JI.region {id : Nat} {os : List Oper} (hd : os.all notDefer = true) (h : JO P n w0 F ⟨os⟩ 0 os Q e Γ) : JI P n w0 F l (.region id ⟨os⟩ false) Q e Γ := by
  intro hq a w fr ho
  refine wpIn_region ?_
  have e1 : List.range (Array.size ⟨os⟩ : Nat) = List.range' 0 os.length := by simp [List.range_eq_range']
  rw [e1]
  refine wpOps_in (fun o ho => ?_) (no_out hq) _ _ _ (h rfl a w fr ho)
  exact List.all_eq_true.1 hd o (by simpa using ho)
theorem JI.drawP {id : Nat} {ops : List Oper} (hm : P.follows .mixedOrders = true) (hd : ops.all notDefer = true) (h : JP P n w0 F ops [] ops.length (List.replicate ops.length false) Q e Γ) : JI P n w0 F l (.region id ⟨ops⟩ true) Q e Γ := by
  intro hq a w fr ho
  refine wpIn_region_draw fun t => ?_
  simp only [Region.schedule, hm, Bool.true_or, if_true]
  refine wpOps_in (fun o ho => List.all_eq_true.1 hd o (by simpa using ho)) (no_out hq) _ _ _ ?_
  have := pAny_wp exitP_up _ _ _ _ (h a w.drew fr ho.drew)
  have e1 : (⟨List.replicate ops.length false⟩ : Array Bool) = Array.replicate (⟨ops⟩ : Array Oper).size false := by apply Array.ext'; simp
  rw [e1] at this
  exact wpAny_sound _ t _ a _ this
/- ---------- operations that call yield ---------- -/
/-- As JO; the calls of yield may be met. -/
def JY (P : Program) (n : Nn) (w0 : World) (F : Nat → Prop) (ops : Array Oper) (i : Nat) (os : List Oper) (Q : Cont) (e : E) (Γ : List Fact) : Prop :=
  ops.toList.drop i = os → ∀ a w, Fr n e a → Hold w0 F Γ w → wpOpsIn Fence.wide 2 P ops (up n w0 F Q) (List.range' i os.length) a w
theorem JC.regionY {id : Nat} {os : List Oper} (h : JY P n w0 F ⟨os⟩ 0 os Q e Γ) : JC P n w0 F (.region id ⟨os⟩ false) Q e Γ := by
  intro a w fr ho
  refine (wpIn_wide (n := 2)).1 (wpIn_region ?_)
  have e1 : List.range (Array.size ⟨os⟩ : Nat) = List.range' 0 os.length := by simp [List.range_eq_range']
  rw [e1]
  exact h rfl a w fr ho
theorem JY.nil {ops : Array Oper} {i : Nat} (h : Q .normal e Γ) : JY P n w0 F ops i [] Q e Γ :=
  fun _ a w fr ho => by show wpOpsIn Fence.wide 2 P ops (up n w0 F Q) [] a w; unfold wpOpsIn; exact ⟨e, Γ, h, fr, ho⟩
section
variable {ops : List Oper} {i d : Nat} {op : Op} {t : TypeId} {pos : String} {aft : Array Edge} {g : Option (Nat × Bool)} {os : List Oper}
theorem JY.val {v : Value} (hg : gtest ops e g = some true) (h : OpV P n w0 F ⟨some d, op, t, pos, aft, g⟩ e Γ v) (hd : Nat.blt d n.s = true) (k : JY P n w0 F ⟨ops⟩ (i + 1) os Q ((d, v) :: e) Γ) : JY P n w0 F ⟨ops⟩ i (⟨some d, op, t, pos, aft, g⟩ :: os) Q e Γ := by
  intro hdr a w fr ho
  obtain ⟨h1, h2⟩ := drop_at hdr
  simp only [List.length_cons, List.range'_succ, wpOpsIn]
  rw [h1]
  simp only [gtest_ok (o := ⟨some d, op, t, pos, aft, g⟩) hg fr, if_true]
  refine ⟨fun _ _ => trivial, ?_⟩
  show Oper.uponIn _ _ _ _ _ _ _ ((execOp a.eval ⟨some d, op, t, pos, aft, g⟩).run P w)
  rw [h a w fr ho]
  exact k h2 _ w (fr.put hd v) ho
theorem JY.omit (hg : gtest ops e g = some false) (hd : Nat.blt d n.s = true) (k : JY P n w0 F ⟨ops⟩ (i + 1) os Q ((d, undef) :: e) Γ) : JY P n w0 F ⟨ops⟩ i (⟨some d, op, t, pos, aft, g⟩ :: os) Q e Γ := by
  intro hdr a w fr ho
  obtain ⟨h1, h2⟩ := drop_at hdr
  simp only [List.length_cons, List.range'_succ, wpOpsIn]
  rw [h1]
  simp only [gtest_ok (o := ⟨some d, op, t, pos, aft, g⟩) hg fr, Bool.false_eq_true, if_false]
  exact ⟨fun _ _ => trivial, k h2 _ w (fr.put hd _) ho⟩
theorem JY.skip (hg : gskip ops e g = true) (hd : Nat.blt d n.s = true) (k : JY P n w0 F ⟨ops⟩ (i + 1) os Q ((d, undef) :: e) Γ) : JY P n w0 F ⟨ops⟩ i (⟨some d, op, t, pos, aft, g⟩ :: os) Q e Γ := by
  intro hdr a w fr ho
  obtain ⟨h1, h2⟩ := drop_at hdr
  simp only [List.length_cons, List.range'_succ, wpOpsIn]
  rw [h1]
  simp only [gskip_ok (o := ⟨some d, op, t, pos, aft, g⟩) hg fr, Bool.false_eq_true, if_false]
  exact ⟨fun _ _ => trivial, k h2 _ w (fr.put hd _) ho⟩
theorem JY.test (s : Nat) {b : Bool} {p : Prop} [hc : Lk e s (.bool b)] [hp : Says b p] (ht : p → JY P n w0 F ⟨ops⟩ i os Q ((s, .bool true) :: e) Γ) (hf : ¬ p → JY P n w0 F ⟨ops⟩ i os Q ((s, .bool false) :: e) Γ) : JY P n w0 F ⟨ops⟩ i os Q e Γ := by
  intro hd a w fr ho
  have key : Fr n ((s, .bool b) :: e) a := fr.again hc.ok
  cases b with
  | true => exact ht (hp.ok.1 rfl) hd a w key ho
  | false => exact hf (fun h => by have := hp.ok.2 h; cases this) hd a w key ho
theorem JY.reslot (s : Nat) {v : Value} (u : Value) [hs : Lk e s v] (h : v = u) (k : JY P n w0 F ⟨ops⟩ i os Q ((s, u) :: e) Γ) : JY P n w0 F ⟨ops⟩ i os Q e Γ :=
  fun hd a w fr ho => k hd a w (fr.again (by rw [← h]; exact hs.ok)) ho
theorem JY.more {Γ' : List Fact} (h : ∀ w, Hold w0 F Γ w → Hold w0 F Γ' w) (k : JY P n w0 F ⟨ops⟩ i os Q e Γ') : JY P n w0 F ⟨ops⟩ i os Q e Γ := fun hd a w fr ho => k hd a w fr (h w ho)
/-- yield is called: the loop's body goes on, or stops. -/
theorem JY.yield {f : Operand} {args : Array Operand} {ats : Array TypeId} {vs : List Value} {l : Nat} {κ ξ : Type} {Γt : ξ → List Fact} {Γf : κ → List Fact} (hg : gtest ops e g = some true) [hf : Ev e f (.func (.yield l) #[] #[])] [hv : ArgVs e args.toList vs] (hd : Nat.blt d n.s = true)
    (h : ∀ w, Hold w0 F Γ w → YieldAt Fence.wide 1 P l ⟨vs⟩ w fun x w' => (x = .returned (.bool true) ∧ ∃ s, Hold w0 F (Γt s) w') ∨ (x = .returned (.bool false) ∧ ∃ k, Hold w0 F (Γf k) w'))
    (kt : ∀ s, JY P n w0 F ⟨ops⟩ (i + 1) os Q ((d, .bool true) :: e) (Γt s)) (kf : ∀ k, JY P n w0 F ⟨ops⟩ (i + 1) os Q ((d, .bool false) :: e) (Γf k)) :
    JY P n w0 F ⟨ops⟩ i (⟨some d, .call ⟨.value f, args, ats⟩, t, pos, aft, g⟩ :: os) Q e Γ := by
  intro hdr a w fr ho
  obtain ⟨h1, h2⟩ := drop_at hdr
  simp only [List.length_cons, List.range'_succ, wpOpsIn]
  rw [h1]
  simp only [gtest_ok (o := ⟨some d, .call ⟨.value f, args, ats⟩, t, pos, aft, g⟩) hg fr, if_true]
  refine ⟨fun _ _ => trivial, ?_⟩
  obtain ⟨fn, tmps, assign, body, hy, hR⟩ := h w ho
  have e1 := hf.ok n a fr
  have e2 : args.map a.eval = ⟨vs⟩ := by apply Array.ext'; simp [hv.ok n a fr]
  have hrun : (execOp a.eval ⟨some d, .call ⟨.value f, args, ats⟩, t, pos, aft, g⟩).run P w = .ok (.round l fn tmps assign body) w := by
    have e3 : (resolve a.eval ⟨.value f, args, ats⟩ t).run P w = .ok ⟨.fn (.yield l) #[], ⟨vs⟩⟩ w := by
      simp [resolve, e1, Deferred.ofValue]
      apply Array.ext'; simp [hv.ok n a fr]
    have e4 : (⟨vs⟩ : Array Value) ++ (#[] : Array Value) = ⟨vs⟩ := by apply Array.ext'; simp
    simp only [execOp, Sem.run_bind, e3, Result.andThen_ok, invoke]
    simpa [e4] using hy
  show Oper.uponIn _ _ _ _ _ _ _ ((execOp a.eval ⟨some d, .call ⟨.value f, args, ats⟩, t, pos, aft, g⟩).run P w)
  rw [hrun]
  refine ⟨fun h => (by cases h), hR.mono ?_⟩
  rintro x w' (⟨rfl, s, ho'⟩ | ⟨rfl, k, ho'⟩)
  · exact kt s h2 _ w' (fr.put hd _) ho'
  · exact kf k h2 _ w' (fr.put hd _) ho'
end
end
end Ab
end Go.Proofs.YtdgeffphifgflaaGreat

/- A range over a function, two loop variables; functions that hold one. Program-independent. -/
namespace Go.Proofs.YtdgeffphifgflaaGreat
namespace Ab
open Go Go.RowKit
set_option linter.unusedVariables false
set_option linter.unusedSimpArgs false
theorem zip_two (p1 p2 : Nat) (v1 v2 : Value) (T : Array Value) : ((#[p1, p2] : Array Nat).zip (⟨[v1, v2]⟩ : Array Value)).foldl (fun t (p, v) => t.setIfInBounds p v) T = (T.setIfInBounds p1 v1).setIfInBounds p2 v2 := by
  simp
/-- What is true whatever memory holds. -/
def tru (p : Prop) : Asn where
  holds _ _ := p
  mono _ _ _ _ h := h
  frame _ _ _ _ h := h
  within _ _ h := h
section
variable {P : Program} {n : Nn} {w0 : World} {F : Nat → Prop} {l : Nat} {Q : Cont} {e : E} {Γ : List Fact} [Dr]
theorem JI.know {c : Code} {p : Prop} (h : ∀ w, Hold w0 F Γ w → p) (k : p → JI P n w0 F l c Q e Γ) : JI P n w0 F l c Q e Γ := fun hq a w fr ho => k (h w ho) hq a w fr ho
end
section
variable {P : Program} {n : Nn} {w0 : World} {F : Nat → Prop} {l : Nat} {e : E} {Γ : List Fact} [Dr]
theorem Hold.turn {w : World} {r : Nat} {o o' : Obj} {Δ : List Fact} (h : Hold w0 F (.obj r o :: Δ) w) : Hold w0 F (.obj r o' :: Δ) (w.putObj r o') := setMapIter h
theorem Hold.objAt {w : World} {r : Nat} {o : Obj} {Δ : List Fact} (h : Hold w0 F (.obj r o :: Δ) w) : w.heap[r]? = some o := h.sat (.obj r o) (by simp)
/-- What the function that is ranged over does, told of what the loop's body does: N rounds at most; in round i it hands over the values vals i u, and tells G i u; M i is what the body tells ahead of round i, X k where it has stopped; Γi is what the function itself reads. -/
def Iter (P : Program) (w0 : World) (F : Nat → Prop) (gf : FuncId) (lb : List Value) (N : Nat) {ι : Type} (v1 v2 : Nat → ι → Value) (G : Nat → ι → List Fact) (Γi : List Fact) : Prop :=
  ∀ (l : Nat) (κ ξ : Type) (M : Nat → ξ → List Fact) (X : κ → List Fact),
    (∀ i, i < N → ∀ (u : ι) (s : ξ) (Γ : List Fact) w, Hold w0 F (G i u ++ Γ ++ M i s) w → YieldAt Fence.wide 1 P l ⟨[v1 i u, v2 i u]⟩ w fun x w' => (x = .returned (.bool true) ∧ ∃ s, Hold w0 F (Γ ++ M (i + 1) s) w') ∨ (x = .returned (.bool false) ∧ ∃ k, Hold w0 F (Γ ++ X k) w')) →
    ∀ s w, Hold w0 F (Γi ++ M 0 s) w → Calls P gf ⟨.func (.yield l) #[] #[] :: lb⟩ w fun x w' => (∃ v, x = .returned v) ∧ ((∃ s, Hold w0 F (M N s) w') ∨ ∃ k, Hold w0 F (X k) w')
theorem JX.range {Q : Nn → Cont} {g : Operand} {p1 p2 : Nat} {assign body : Code} {gf : FuncId} {lb : List Value} {N : Nat} {ι ζ κ ξ : Type} {v1 v2 : Nat → ι → Value} {G : Nat → ι → List Fact} {Γi : List Fact}
    (M : Nat → ξ → List Fact) (X : κ → List Fact) (E2 : Nat → ι → ξ → ζ → E) (N2 : Nat → ι → ξ → ζ → List Fact) (s0 : ξ)
    [hg : Ev e g (.func (.func gf) #[] ⟨lb⟩)] [hb : Body P gf] (h1 : Nat.blt p1 n.s = true) (h2 : Nat.blt p2 n.s = true)
    (hi : Iter P w0 F gf lb N v1 v2 G Γi) (h0 : ∀ w, Hold w0 F Γ w → Hold w0 F (Γi ++ M 0 s0) w)
    (ha : ∀ i, i < N → ∀ (u : ι) (s : ξ) (Γ : List Fact) l, JI P ⟨n.s, []⟩ w0 F l assign (fun x e' Γ' => x = .normal ∧ ∃ z, Ent e' Γ' (E2 i u s z) (N2 i u s z ++ Γ)) ((p2, v2 i u) :: (p1, v1 i u) :: e) (G i u ++ M i s ++ Γ))
    (hbd : ∀ i, i < N → ∀ (u : ι) (s : ξ) (z : ζ) (Γ : List Fact) l, JI P ⟨n.s, []⟩ w0 F l body (fun x e' Γ' => (x = .normal ∧ ∃ s, ∀ w, Hold w0 F Γ' w → Hold w0 F (M (i + 1) s ++ Γ) w) ∨ (x = .ret ∧ ∃ k, ∀ w, Hold w0 F Γ' w → Hold w0 F (X k ++ Γ) w)) (E2 i u s z) (N2 i u s z ++ Γ))
    (kn : ∀ D s, Q ⟨n.s, ⟨.collected D, #[]⟩ :: n.ds⟩ .normal e (.obj D (.deferred (some [])) :: M N s))
    (kr : ∀ D k, Q ⟨n.s, ⟨.collected D, #[]⟩ :: n.ds⟩ .ret e (.obj D (.deferred (some [])) :: X k)) :
    JX P n w0 F (.rangeFunc g #[p1, p2] assign body) Q e Γ := by
  intro a w fr ho
  refine (wpIn_wide (n := 3)).1 (wpIn_rangeFunc ?_)
  intro fn hfn
  obtain ⟨rec, hrec⟩ : ∃ rec : LoopState → Option Code → Loop, rec = fun st pe => { state := st, pending := pe, fn, tmps := a.tmps, params := #[p1, p2], assign, body, defers := w.heap.size } := ⟨_, rfl⟩
  have ho1 : Hold w0 F (.obj (w.heap.size + 1) (.loop (rec .ready none)) :: .obj w.heap.size (.deferred (some [])) :: (Γi ++ M 0 s0)) ((w.alloc (.deferred (some []))).alloc (.loop (rec .ready none))) := by
    have a1 := (h0 w ho).push (f := .obj w.heap.size (.deferred (some []))) (fun _ => Iff.rfl) (fun _ _ h => h)
    have a2 := a1.push (f := .obj (w.alloc (.deferred (some []))).heap.size (.loop (rec .ready none))) (fun _ => Iff.rfl) (fun _ _ h => h)
    simpa only [World.size_alloc] using a2
  obtain ⟨W1, hW1⟩ : ∃ W1, (w.alloc (.deferred (some []))).alloc (.loop (rec .ready none)) = W1 := ⟨_, rfl⟩
  rw [hW1] at ho1
  obtain ⟨D, hD⟩ : ∃ D, D = w.heap.size := ⟨_, rfl⟩
  have eg := hg.ok n a fr
  have e3 : (#[.func (.yield (D + 1)) #[] #[]] : Array Value) ++ (⟨lb⟩ : Array Value) = ⟨.func (.yield (D + 1)) #[] #[] :: lb⟩ := by apply Array.ext'; simp
  have hLr : ∀ st pe, (rec st pe).state = st := fun st pe => by rw [hrec]
  have fr0 : Fr ⟨n.s, []⟩ e ⟨a.tmps, []⟩ := ⟨rfl, fr.size, fr.slot⟩
  refine ⟨D + 1, [{ target := .collected D, args := #[] }], W1, { target := .fn (.func gf) ⟨lb⟩, args := #[.func (.yield (D + 1)) #[] #[]] }, W1, gf, ⟨.func (.yield (D + 1)) #[] #[] :: lb⟩, W1, ?_, ?_, ?_, ?_, fun h => (by cases h), ?_⟩
  · rw [← hW1, hrec, hD]; exact run_enterLoop_outer _ _ _ _ _
  · simp only [resolve, eg]
    simp [go_sem, Deferred.ofValue]
  · intro f' _; trivial
  · simp only [invoke, e3, hb.ok]
  · rw [← hD] at ho1
    let M' : Nat → ξ → List Fact := fun i s => .obj (D + 1) (.loop (rec .ready none)) :: .obj D (.deferred (some [])) :: M i s
    let X' : κ → List Fact := fun k => .obj (D + 1) (.loop { rec .ready none with state := .done, pending := some .ret }) :: .obj D (.deferred (some [])) :: X k
    refine callsIn_wide.2 (Calls.mono (hi (D + 1) κ ξ M' X' ?_ s0 W1 (ho1.perm ?_)) ?_)
    · intro i hin u s Γ W hW
      have hW' : Hold w0 F (.obj (D + 1) (.loop (rec .ready none)) :: (G i u ++ M i s ++ .obj D (.deferred (some [])) :: Γ)) W := by
        refine hW.perm ?_
        show (G i u ++ Γ ++ .obj (D + 1) (.loop (rec .ready none)) :: .obj D (.deferred (some [])) :: M i s).Perm _
        refine List.perm_middle.trans (List.Perm.cons _ ?_)
        refine List.perm_middle.trans ((List.Perm.cons _ ?_).trans List.perm_middle.symm)
        rw [List.append_assoc, List.append_assoc]
        exact List.Perm.append_left _ List.perm_append_comm
      have hl := hW'.objAt
      have hy := run_yield (P := P) (args := ⟨[v1 i u, v2 i u]⟩) hl (by rw [hrec]; rfl)
      refine ⟨_, _, _, _, hy, roundIn_of_wpIn trivial ?_⟩
      have etm : ((rec .ready none).params.zip (⟨[v1 i u, v2 i u]⟩ : Array Value)).foldl (fun t (p, v) => t.setIfInBounds p v) (rec .ready none).tmps = (a.tmps.setIfInBounds p1 (v1 i u)).setIfInBounds p2 (v2 i u) := by
        rw [hrec]; exact zip_two p1 p2 _ _ _
      have ea : (rec .ready none).assign = assign := by rw [hrec]
      have eb : (rec .ready none).body = body := by rw [hrec]
      rw [etm, ea, eb]
      have fr1 := (fr0.put h1 (v1 i u)).put h2 (v2 i u)
      have hW2 : Hold w0 F (G i u ++ M i s ++ (.obj (D + 1) (.loop (rec .ready none)) :: .obj D (.deferred (some [])) :: Γ)) W := hW'.perm List.perm_middle.symm
      refine wpIn_mono (ha i hin u s _ (D + 1) (fun _ _ h => by cases h.1) _ W fr1 hW2) ?_
      rintro x a2 W2 ⟨e2, Γ2, ⟨rfl, z, hent⟩, fr2, ho2⟩
      have ho3 : Hold w0 F (.obj (D + 1) (.loop (rec .ready none)) :: (N2 i u s z ++ .obj D (.deferred (some [])) :: Γ)) W2 := (hent.facts w0 F W2 ho2).perm List.perm_middle
      have fr3 := hent.slots _ _ fr2
      refine ⟨_, run_beginRound ho3.objAt (hLr _ _), ?_⟩
      have ho4 := (ho3.turn (o' := .loop { rec .ready none with state := .busy })).perm (List.perm_middle (l₁ := N2 i u s z)).symm
      refine wpIn_mono (hbd i hin u s z _ (D + 1) (fun _ _ h => by rcases h with h | h <;> cases h.1) _ _ fr3 ho4) ?_
      rintro x a5 W5 ⟨e5, Γ5, hx, fr5, ho5⟩
      rcases hx with ⟨rfl, s2, hm⟩ | ⟨rfl, k, hm⟩
      · have ho6 := (hm _ ho5).perm (List.perm_middle (l₁ := M (i + 1) s2))
        refine ⟨_, _, run_endRound none ho6.objAt, .inl ⟨rfl, s2, ?_⟩⟩
        have ho7 := ho6.turn (o' := .loop (rec .ready none))
        have er : (Obj.loop { ({ rec .ready none with state := .busy } : Loop) with state := if (none : Option Code).isNone then .ready else .done, pending := none }) = .loop (rec .ready none) := by rw [hrec]; rfl
        rw [er]
        refine ho7.perm ?_
        show List.Perm _ (Γ ++ .obj (D + 1) (.loop (rec .ready none)) :: .obj D (.deferred (some [])) :: M (i + 1) s2)
        refine (List.Perm.cons _ ?_).trans List.perm_middle.symm
        refine List.perm_middle.trans ((List.Perm.cons _ List.perm_append_comm).trans List.perm_middle.symm)
      · have ho6 := (hm _ ho5).perm (List.perm_middle (l₁ := X k))
        refine ⟨_, _, run_endRound (some .ret) ho6.objAt, .inr ⟨rfl, k, ?_⟩⟩
        have ho7 := ho6.turn (o' := .loop { rec .ready none with state := .done, pending := some .ret })
        have er : (Obj.loop { ({ rec .ready none with state := .busy } : Loop) with state := if (some Code.ret : Option Code).isNone then .ready else .done, pending := some .ret }) = .loop { rec .ready none with state := .done, pending := some .ret } := by rfl
        rw [er]
        refine ho7.perm ?_
        show List.Perm _ (Γ ++ .obj (D + 1) (.loop { rec .ready none with state := .done, pending := some .ret }) :: .obj D (.deferred (some [])) :: X k)
        refine (List.Perm.cons _ ?_).trans List.perm_middle.symm
        refine List.perm_middle.trans ((List.Perm.cons _ List.perm_append_comm).trans List.perm_middle.symm)
    · show List.Perm _ (Γi ++ .obj (D + 1) (.loop (rec .ready none)) :: .obj D (.deferred (some [])) :: M 0 s0)
      refine (List.Perm.trans ?_ List.perm_middle.symm)
      exact List.Perm.cons _ List.perm_middle.symm
    · have frD : ∀ {W}, Hold w0 F Γ W → Fr ⟨n.s, ⟨.collected D, #[]⟩ :: n.ds⟩ e { a with defers := [⟨.collected D, #[]⟩] ++ a.defers } := fun _ => ⟨by show [_] ++ a.defers = _; rw [fr.defers]; rfl, fr.size, fr.slot⟩
      have frE := frD ho
      rintro x W3 ⟨⟨v, rfl⟩, ⟨s, hM⟩ | ⟨k, hX⟩⟩
      · refine ⟨none, W3.putObj (D + 1) (.loop { rec .ready none with state := .exhausted }), ?_, ?_⟩
        · have := run_endLoop (P := P) hM.objAt (by rw [hLr]; simp)
          have ep : (rec .ready none).pending = none := by rw [hrec]
          exact this.trans (congrArg (fun x => Result.ok x _) ep)
        · have ho9 := (hM.turn (o' := .loop { rec .ready none with state := .exhausted })).tail
          exact ⟨_, e, _, kn D s, frE, ho9⟩
      · refine ⟨some .ret, _, run_endLoop (P := P) hX.objAt (by simp), ?_⟩
        have ho9 := (hX.turn (o' := .loop { ({ rec .ready none with state := .done, pending := some .ret } : Loop) with state := .exhausted })).tail
        exact wpIn_ret ⟨_, e, _, kr D k, frE, ho9⟩
/-- The first part may change what is put off. -/
theorem JX.seqX {Q : Nn → Cont} {x y : Code} (h : JX P n w0 F x (fun n' => andThen (JC P n' w0 F y (Q n')) (Q n')) e Γ) : JX P n w0 F (.seq x y) Q e Γ := by
  intro a w fr ho
  refine wp_seq (wp_mono (h a w fr ho) ?_)
  rintro z a w ⟨n', e, Γ, hq, fr, ho⟩
  cases z <;> first | exact wp_mono (hq a w fr ho) (fun x a w ⟨e, Γ, hq⟩ => ⟨n', e, Γ, hq⟩) | exact ⟨n', e, Γ, hq, fr, ho⟩
theorem JX.block {Q : Nn → Cont} {id : Nat} {c : Code} (h : JX P n w0 F c (fun n' => inBlock id (Q n')) e Γ) : JX P n w0 F (.block id c) Q e Γ := by
  intro a w fr ho
  refine wp_block (wp_mono (h a w fr ho) ?_)
  rintro x a w ⟨n', e, Γ, hq, fr, ho⟩
  cases x with
  | exit id' =>
    simp only [inBlock, Exit.inBlock] at *
    split
    · rename_i he; rw [if_pos he] at hq; exact ⟨n', e, Γ, hq, fr, ho⟩
    · rename_i he; rw [if_neg he] at hq; exact ⟨n', e, Γ, hq, fr, ho⟩
  | _ => exact ⟨n', e, Γ, hq, fr, ho⟩
/-- A function that holds one range over a function. -/
theorem gives_range {f : FuncId} {fn : Func} {c : Code} {rs : List ResultVar} {args : List Value} {w : World} {Y : Type} {v : Y → Value} {B : Y → List Fact}
    {m : Nat} (hf : P.funcs[f]? = some fn) (hb : fn.body = some c) (hn : fn.ntmps = m) (hr : fn.results = ⟨rs⟩) (hl : Nat.ble args.length m = true) (Γ : List Fact) (ho : Hold w F Γ w)
    (h : JX P ⟨m, []⟩ w F c (fun n' x e Γ => ∃ D Γ', n' = ⟨m, [⟨.collected D, #[]⟩]⟩ ∧ (x = .ret ∨ x = .normal) ∧ (∀ w1, Hold w F Γ w1 → Hold w F (.obj D (.deferred (some [])) :: Γ') w1) ∧ retTo P w F rs v B .ret e Γ') (enum 0 args) Γ) : Gives P f args w F v B := by
  refine callsIn_wide.1 (callsIn_of_wp_marks (F := Fence.wide) (n := 3) hf hb trivial ?_)
  rw [hn]
  refine wpIn_mono ((wpIn_wide (n := 3)).2 (h _ w (Fr.start hl) ho)) ?_
  rintro x a w' ⟨n', e, Γ, ⟨D, Γ', rfl, hx, hΓ, _, y, vs, hres, hpk, hB⟩, fr, ho'⟩
  have ho1 := hΓ w' ho'
  have ho2 := (ho1.turn (o' := .deferred none)).tail
  have fr' : Fr ⟨m, []⟩ e ⟨a.tmps, []⟩ := ⟨rfl, fr.size, fr.slot⟩
  have hrun := run_results (P := P) hr hres fr' ho2
  have key : LeavesInM Fence.wide 3 P fn a.tmps (fun x w' => ∃ y, x = .returned (v y) ∧ Bel w.heap.size w w' ∧ Fresh w.heap.size F (B y) w') a.defers .returning w' := by
    rw [fr.defers]
    refine ⟨by simp, .inl ⟨D, _, rfl, run_takeDeferred ho1.objAt, ?_⟩⟩
    exact ⟨_, hrun, y, by rw [hpk], ho2.below, (hB _ ho2).fresh⟩
  rcases hx with rfl | rfl <;> exact key
end
end Ab
end Go.Proofs.YtdgeffphifgflaaGreat

/- Contracts: store.commits, and the function that it gives. -/
namespace Go.Proofs.YtdgeffphifgflaaGreat
namespace Ab
open Go Go.RowKit
set_option linter.unusedVariables false
set_option linter.unusedSimpArgs false
set_option synthInstance.maxSize 4000
set_option synthInstance.maxHeartbeats 400000
attribute [local irreducible] JC JO JR JQ andThen inBlock OpV Gives retTo JM JS

attribute [local irreducible] JY JI JX
theorem commits_store (w : World) (F : Nat → Prop) (a : Option Addr) (c : Nat) (b : List UInt8) (h : (sl a c b).holds F w) :
    Gives Tryz.prog 61 [.slice a b.length c] w F (fun y : Nat => .func (.func 121) #[] ⟨[.pointer (some ⟨y, 0, none⟩)]⟩) (fun y => [.own y 22 [.slice a b.length c]]) := by
  refine gives_of Tryz.func61 rfl Tryz.ntmps61 rfl rfl [.st (sl a c b)] (.start1 h) ?_
  repeat (first|refine Wa ?_|refine Wb ?_|refine Wc ?_|refine Wd ?_|refine We rfl ?_|refine Wf (by first|exact Vb|exact Vr) rfl ?_|(refine Wh rfl ?_; intro _)|refine Ws ?_)
  rename_i bx
  exact CT.done bx rfl (fun w ho => ho.ent)
/-- The i-th commit of a disk, and where it ends. -/
noncomputable def comAt (b : List UInt8) (i : Nat) : Commit := (decL (readL b)).getD i com0
noncomputable def endAt (b : List UInt8) (i : Nat) : Nat := (framesL ((readL b).take (i + 1))).length
set_option maxHeartbeats 4000000 in
theorem iter_commits (w0 : World) (F : Nat → Prop) (bx : Nat) (a : Option Addr) (c : Nat) (b : List UInt8) (hb : b.length ≤ 1048576) :
    Iter Tryz.prog w0 F 121 [.pointer (some ⟨bx, 0, none⟩)] (decL (readL b)).length (ι := Option Addr × Nat) (fun i u => commitV (comAt b i) u.1 u.2) (fun i u => .int .i64 (endAt b i : Int))
      (fun i u => [.st (sl u.1 u.2 (comAt b i).parents)]) [.own bx 22 [.slice a b.length c], .st (sl a c b)] := by
  intro l κ ξ M X hY s0 w ho
  have hpre : framesL (readL b) <+: b := readF_pre _ _
  have hfl : (framesL (readL b)).length ≤ b.length := hpre.length_le
  have hrl := length_framesL (readL b)
  have hsm : ∀ x ∈ readL b, x.length ≤ 4000 := readL_small _ _
  have hdl := decL_le (readL b)
  refine Calls.mono (R := fun x w' => ∃ y : ξ ⊕ κ, x = .returned (.tuple ⟨[]⟩) ∧ Hold w0 F (match y with | .inl s => M (decL (readL b)).length s | .inr k => X k) w') ?key ?mono
  case mono =>
    rintro x w' ⟨y, rfl, hy⟩
    cases y with
    | inl s => exact ⟨⟨_, rfl⟩, .inl ⟨s, hy⟩⟩
    | inr k => exact ⟨⟨_, rfl⟩, .inr ⟨k, hy⟩⟩
  refine calls_of (Y := ξ ⊕ κ) (v := fun _ => .tuple ⟨[]⟩) (B := fun y => match y with | .inl s => M (decL (readL b)).length s | .inr k => X k) Tryz.func121 rfl Tryz.ntmps121 rfl rfl
    (.own bx 22 [.slice a b.length c] :: .st (sl a c b) :: M 0 s0) ho ?_
  repeat (first|refine Wb ?_|refine Wc ?_|refine We rfl ?_|refine Wf (by exact Vc) rfl ?_)
  refine JR.callSlT rfl (fun w1 hw => read_log w1 _ a c b (hw.get (A := sl a c b)) hb) ?_
  intro a3 c3
  generalize hrs : readL b = rs at hY hpre hfl hrl hsm hdl ⊢
  repeat (first|refine Wa ?_|refine Wb ?_|refine Wc ?_|refine Wd ?_|refine We rfl ?_|refine Wf (by first|exact Va|exact Vb|exact Vf|exact Vq) rfl ?_|refine Wn ?_)
  refine JC.reslot 5 (.int .i64 ((framesL (rs.take 0)).length : Int)) rfl ?_
  refine JC.loop2 (fun (i : Nat) (s : ξ) => [(0, .func (.yield l) #[] #[]), (5, .int .i64 ((framesL (rs.take i)).length : Int)), (18, .slice a3 rs.length c3), (19, .int .i64 (rs.length : Int)), (20, .int .i64 (i : Int))])
    (fun i s => .st (sl a3 c3 rs) :: M i s) (fun i _ => i ≤ (decL rs).length) (fun i _ => rs.length - i) 0 s0 (Nat.zero_le _) inferInstance ?_
  intro i s hi
  repeat (first|refine Wa ?_|refine Wb ?_|refine Wc ?_|refine Wd ?_|refine We rfl ?_|refine Wf (by exact Vg) rfl ?_)
  refine JC.test (fun h1 => ?_) (fun h1 => ?_)
  · have hlt : i < rs.length := by omega
    repeat (first|refine Wa ?_|refine Wb ?_|refine Wc ?_|refine We rfl ?_|refine Wl ?_|refine Wn ?_)
    have hx := hsm rs[i] (List.getElem_mem hlt)
    have hfr : frameT rs[i] = (frameL rs[i], 0) := if_neg (by omega)
    refine JR.indexBytes (k := i) rfl hlt ?_
    intro b5 o5 a5 c5
    repeat (first|refine Wa ?_|refine Wb ?_|refine Wc ?_|refine Wd ?_|refine We rfl ?_|refine Wf (by first|exact Va|exact Vb|exact Vc) rfl ?_)
    refine JR.callSlT rfl (fun w1 hw => frame_log w1 _ a5 c5 rs[i] (hw.get (A := sl a5 c5 rs[i]))) ?_
    rw [hfr]
    intro a6 c6
    dsimp only
    have hnx := framesL_next hlt
    have hle := framesL_take_le rs (i + 1)
    repeat (first|refine Wa ?_|refine Wb ?_|refine Wc ?_|refine Wd ?_|refine We rfl ?_|refine Wf (by first|exact Va|exact Vb|exact Vf|exact Vq|exact Vs (by omega)) rfl ?_)
    refine JR.call2 (B := fun y : GetY rs[i] => .st (sl y.pa y.pc (getT rs[i]).1.parents)) (C := fun y : GetY rs[i] => .st (sl y.ra y.rc (getT rs[i]).2.1)) rfl (fun w1 hw => get_com w1 _ a5 c5 rs[i] (hw.get (A := sl a5 c5 rs[i])) (by omega)) ?_
    rintro ⟨pa, pc, ra, rc⟩
    dsimp only
    by_cases hd : i < (decL rs).length
    · have hg := decL_at rs i hd hlt
      have hT : getT rs[i] = ((decL rs)[i], [], 0) := getT_some hg
      rw [hT]
      dsimp only
      have hcm : comAt b i = (decL rs)[i] := by unfold comAt; rw [hrs, List.getD_eq_getElem?_getD, List.getElem?_eq_getElem hd]; rfl
      have hend : endAt b i = (framesL (rs.take (i + 1))).length := by unfold endAt; rw [hrs]
      generalize (decL rs)[i] = cm at hg hcm ⊢
      repeat (first|refine Wd ?_|refine We rfl ?_|refine Wf (by first|exact Va|exact Vb|exact Vc|exact Vd|exact Ve|exact Vf|exact Vg|exact Vh|exact Vi|exact Vj|exact Vk (by omega)|exact Vl|exact Vm|exact Vn|exact Vo|exact Vp|exact Vq|exact Vr|exact Vs (by omega)|exact Vt (by omega)|exact Vu (by omega)|exact Vv (by omega)|exact Vw|exact Vx|exact Vy|exact Vz|exact VA|exact VB|exact VC|exact VD|exact VE|exact VF) rfl ?_|(refine Wg rfl ?_; intro _)|(refine Wh rfl ?_; intro _)|refine Wi ?_|refine Wv rfl rfl ?_)
      rename_i bc
      refine Wa ?_
      refine Wb ?_
      refine JC.regionY ?_
      repeat (first|refine JY.val rfl (by first|exact Va|exact Vb|exact Vc|exact Vd|exact Ve|exact Vf|exact Vg|exact Vh|exact Vi|exact Vj|exact Vk (by omega)|exact Vl|exact Vm|exact Vn|exact Vo|exact Vp|exact Vq|exact Vr|exact Vs (by omega)|exact Vt (by omega)|exact Vu (by omega)|exact Vv (by omega)|exact Vw|exact Vx|exact Vy|exact Vz|exact VA|exact VB|exact VC|exact VD|exact VE|exact VF) rfl ?_|refine JY.omit rfl rfl ?_|refine JY.skip rfl rfl ?_|refine JY.nil ?_)
      refine JY.reslot 49 (.int .i64 ((framesL (rs.take (i + 1))).length : Int)) (by congr 1; omega) ?_
      refine JY.reslot 5 (.int .i64 ((framesL (rs.take (i + 1))).length : Int)) (by congr 1; omega) ?_
      refine JY.yield (l := l) (κ := κ) (ξ := ξ) (Γt := fun s => .st (sl a3 c3 rs) :: M (i + 1) s) (Γf := fun k => .st (sl a3 c3 rs) :: X k) rfl rfl (fun w1 ho => ?_) (fun s2 => ?_) (fun k => ?_)
      · have hy := hY i hd (pa, pc) s [.st (sl a3 c3 rs)] w1
        dsimp only at hy
        rw [hcm, hend] at hy
        exact hy (ho.ent : Hold w0 F (.st (sl pa pc cm.parents) :: .st (sl a3 c3 rs) :: M i s) w1)
      · repeat (first|refine JY.val rfl (by first|exact Va|exact Vb|exact Vc|exact Vd|exact Ve|exact Vf|exact Vg|exact Vh|exact Vi|exact Vj|exact Vk (by omega)|exact Vl|exact Vm|exact Vn|exact Vo|exact Vp|exact Vq|exact Vr|exact Vs (by omega)|exact Vt (by omega)|exact Vu (by omega)|exact Vv (by omega)|exact Vw|exact Vx|exact Vy|exact Vz|exact VA|exact VB|exact VC|exact VD|exact VE|exact VF) rfl ?_|refine JY.omit rfl rfl ?_|refine JY.skip rfl rfl ?_|refine JY.nil ?_)
        repeat (first|refine Wa ?_|refine Wc ?_|refine Wd ?_|refine We rfl ?_|refine Wf (by first|exact Va|exact Vk (by omega)) rfl ?_|refine Wk ?_|refine Wl ?_|refine Wr ?_)
        exact ⟨i + 1, s2, by omega, by omega, inferInstance⟩
      · repeat (first|refine JY.val rfl (by first|exact Va|exact Vb|exact Vc|exact Vd|exact Ve|exact Vf|exact Vg|exact Vh|exact Vi|exact Vj|exact Vk (by omega)|exact Vl|exact Vm|exact Vn|exact Vo|exact Vp|exact Vq|exact Vr|exact Vs (by omega)|exact Vt (by omega)|exact Vu (by omega)|exact Vv (by omega)|exact Vw|exact Vx|exact Vy|exact Vz|exact VA|exact VB|exact VC|exact VD|exact VE|exact VF) rfl ?_|refine JY.omit rfl rfl ?_|refine JY.skip rfl rfl ?_|refine JY.nil ?_)
        repeat (first|refine Wa ?_|refine Wj ?_|refine Ws ?_|refine Wt ?_|refine Wu ?_)
        exact CT.done (.inr k) rfl (fun w ho => ho.ent)
    · obtain rfl : i = (decL rs).length := by omega
      have hne := decL_end rs hlt
      cases hg : getC (rs[(decL rs).length]) with
      | none =>
        rw [getT_none hg]
        dsimp only
        repeat (first|refine Wa ?_|refine Wb ?_|refine Wc ?_|refine Wd ?_|refine We rfl ?_|refine Wf (by first|exact Va|exact Vb|exact Vi|exact Vm|exact Vq) rfl ?_|(refine Wg rfl ?_; intro _)|refine Wi ?_|refine Wj ?_|refine Ws ?_|refine Wt ?_|refine Wu ?_|refine Wv rfl rfl ?_)
        exact CT.done (.inl s) rfl (fun w ho => ho.ent)
      | some q =>
        obtain ⟨cm, R⟩ := q
        rw [getT_some hg]
        dsimp only
        have hR : 0 < R.length := by
          cases R with
          | nil => exact (hne ⟨cm, hg⟩).elim
          | cons r R => simp
        repeat (first|refine Wa ?_|refine Wb ?_|refine Wc ?_|refine Wd ?_|refine We rfl ?_|refine Wf (by first|exact Va|exact Vb|exact Vf|exact Vj|exact Vm|exact Vo|exact Vq) rfl ?_|(refine Wg rfl ?_; intro _)|refine Wi ?_)
        refine JO.test 46 (fun h6 => ?_) (fun h6 => absurd h6 (by omega))
        repeat (first|refine Wa ?_|refine Wd ?_|refine We rfl ?_|refine Wf (by exact Vi) rfl ?_|refine Wj ?_|refine Ws ?_|refine Wt ?_|refine Wu ?_|refine Wv rfl rfl ?_)
        exact CT.done (.inl s) rfl (fun w ho => ho.ent)
  · obtain rfl : i = (decL rs).length := by omega
    repeat (first|refine Wm ?_|refine Wo ?_|refine Wp ?_)
    exact CT.doneN (.inl s) rfl (fun w ho => ho.ent)
end Ab
end Go.Proofs.YtdgeffphifgflaaGreat

/- Contract: store.Load. -/
namespace Go.Proofs.YtdgeffphifgflaaGreat
namespace Ab
open Go Go.RowKit
set_option linter.unusedVariables false
set_option linter.unusedSimpArgs false
set_option synthInstance.maxSize 4000
set_option synthInstance.maxHeartbeats 400000
attribute [local irreducible] JC JO JR JQ andThen inBlock OpV Gives retTo JM JS

attribute [local irreducible] JY JI JX hashC
theorem dec_fine {l : List (List UInt8)} {c : Commit} (h : c ∈ decL l) : fine c := by
  obtain ⟨i, hi, rfl⟩ := List.getElem_of_mem h
  obtain ⟨h1, h2⟩ := getC_may (decL_at l i hi (Nat.lt_of_lt_of_le hi (decL_le l)))
  exact ⟨h2, by have := may_parents h1; omega⟩
set_option maxHeartbeats 4000000 in
theorem load_store (w : World) (F : Nat → Prop) (a : Option Addr) (c : Nat) (b : List UInt8) (h : (sl a c b).holds F w) (hb : b.length ≤ 1048576) :
    GivesSlT Tryz.prog 17 [.slice a b.length c] w F (loadL b) [.int .i64 (loadEnd b : Int)] := by
  obtain ⟨xs, hxs⟩ : ∃ xs, xs = decL (readL b) := ⟨_, rfl⟩
  obtain ⟨rs, hrs⟩ : ∃ rs, rs = readL b := ⟨_, rfl⟩
  refine gives_range Tryz.func17 rfl Tryz.ntmps17 rfl rfl [.st (sl a c b)] (.start1 h) ?_
  refine JX.seq ?_
  repeat (first|refine Wc ?_|refine Wd ?_|refine We rfl ?_|(refine Wg rfl ?_; intro _))
  rename_i b2 b3
  refine ⟨rfl, JX.seq ?_⟩
  repeat (first|refine Wc ?_|refine Wd ?_|refine We rfl ?_|(refine Wg rfl ?_; intro _))
  rename_i b4
  refine ⟨rfl, JX.seq ?_⟩
  repeat (first|refine Wc ?_|refine Wd ?_|refine We rfl ?_|(refine Wg rfl ?_; intro _)|refine Wi ?_)
  rename_i b5
  refine ⟨rfl, JX.seqX (JX.seq ?_)⟩
  repeat (first|refine Wc ?_|refine We rfl ?_|refine Wf (by exact Va) rfl ?_)
  refine JR.call1 (B := fun y : Nat => .own y 22 [.slice a b.length c]) rfl (fun w1 hw => commits_store w1 _ a c b (hw.get (A := sl a c b))) ?_
  intro bx
  repeat (refine Wd ?_)
  refine ⟨rfl, JX.block ?_⟩
  let E0 : E := [(2, .pointer (some ⟨b2, 0, none⟩)), (3, .pointer (some ⟨b3, 0, none⟩)), (4, .pointer (some ⟨b4, 0, none⟩)), (5, .pointer (some ⟨b5, 0, none⟩))]
  have hiter := iter_commits w F bx a c b hb
  rw [← hxs] at hiter
  refine JX.range (ξ := Option Addr × Nat) (κ := Option Addr × Nat) (ζ := Nat)
    (fun i s => [.own b2 35 [.slice none 0 0], .own b3 3 [.int .i64 0], .own b4 35 [.slice s.1 (xs.take i).length s.2], .own b5 3 [.int .i64 ((framesL (rs.take i)).length : Int)], .res (buf s.1 s.2 29 (xs.take i)), .st (tru (closeF [] xs = closeF (xs.take i) (xs.drop i)))])
    (fun k => [.own b2 35 [.slice k.1 (loadL b).length k.2], .own b3 3 [.int .i64 (loadEnd b : Int)], .st (sl k.1 k.2 (loadL b))])
    (fun i u s z => (7, .int .i64 (endAt b i : Int)) :: (6, .pointer (some ⟨z, 0, none⟩)) :: E0)
    (fun i u s z => [.own z 29 [.int .i64 (comAt b i).ev.node, .int .i64 (comAt b i).ev.seq, .int .i64 (comAt b i).gen, .slice u.1 (comAt b i).parents.length u.2, .int .i64 (comAt b i).op.kind, .string (comAt b i).op.key, .string (comAt b i).op.elem, .int .i64 (comAt b i).op.n], .st (sl u.1 u.2 (comAt b i).parents),
      .own b2 35 [.slice none 0 0], .own b3 3 [.int .i64 0], .own b4 35 [.slice s.1 (xs.take i).length s.2], .own b5 3 [.int .i64 ((framesL (rs.take i)).length : Int)], .res (buf s.1 s.2 29 (xs.take i)), .st (tru (closeF [] xs = closeF (xs.take i) (xs.drop i)))])
    (none, 0) rfl rfl hiter ?h0 ?ha ?hbd ?kn ?kr
  case h0 =>
    intro w1 ho
    show Hold w F [.own bx 22 [.slice a b.length c], .st (sl a c b), .own b2 35 [.slice none 0 0], .own b3 3 [.int .i64 0], .own b4 35 [.slice none 0 0], .own b5 3 [.int .i64 0], .res (buf (α := Commit) none 0 29 []), .st (tru (closeF [] xs = closeF (xs.take 0) (xs.drop 0)))] w1
    have := ((ho.ent : Hold w F [.own bx 22 [.slice a b.length c], .st (sl a c b), .own b2 35 [.slice none 0 0], .own b3 3 [.int .i64 0], .own b4 35 [.slice none 0 0], .own b5 3 [.int .i64 0]] w1).add (A := tru (closeF [] xs = closeF (xs.take 0) (xs.drop 0))) rfl)
    exact (this.bufNil (α := Commit) (el := 29) (Γ' := .st (tru (closeF [] xs = closeF (xs.take 0) (xs.drop 0))) :: [.own bx 22 [.slice a b.length c], .st (sl a c b), .own b2 35 [.slice none 0 0], .own b3 3 [.int .i64 0], .own b4 35 [.slice none 0 0], .own b5 3 [.int .i64 0]])).ent
  case ha =>
    rintro i hi ⟨pa, pc⟩ ⟨p, q⟩ Γ l
    dsimp only [List.cons_append, List.nil_append]
    repeat (first|refine Wa ?_|refine JI.seq ?_|refine JI.region rfl ?_|refine Wd ?_|refine We rfl ?_|refine Wf (by first|exact Va|exact Vb|exact Vc|exact Vd|exact Ve|exact Vf|exact Vg|exact Vh|exact Vi|exact Vj|exact Vk (by omega)|exact Vl|exact Vm|exact Vn|exact Vo|exact Vp|exact Vq|exact Vr|exact Vs (by omega)|exact Vt (by omega)|exact Vu (by omega)|exact Vv (by omega)|exact Vw|exact Vx|exact Vy|exact Vz|exact VA|exact VB|exact VC|exact VD|exact VE|exact VF) rfl ?_|(refine Wg rfl ?_; intro _)|(refine Wh rfl ?_; intro _)|refine Wi ?_|refine JI.cond_true ?_|refine JI.cond_false ?_|refine JI.skip ?_|refine JI.ret ?_|refine Wt ?_|refine JI.block ?_|refine Wr ?_|refine Wu ?_|refine Wv rfl rfl ?_|(refine Ww rfl ⟨rfl, by decide, by decide, by decide⟩ ?_; intro _))
    rename_i z
    exact ⟨rfl, z, inferInstance⟩
  case hbd =>
    rintro i hi ⟨pa, pc⟩ ⟨p, q⟩ z Γ l
    dsimp only [List.cons_append, List.nil_append]
    have hxi : comAt b i = xs[i] := by unfold comAt; rw [← hxs, List.getD_eq_getElem?_getD, List.getElem?_eq_getElem hi]; rfl
    have hfn : ∀ x ∈ xs.take (i + 1), fine x := fun x hx => dec_fine (by rw [← hxs]; exact List.mem_of_mem_take hx)
    have hdl := decL_le (readL b)
    have hrl := length_framesL (readL b)
    have hpre : (framesL (readL b)).length ≤ b.length := (readF_pre _ _ : framesL (readL b) <+: b).length_le
    rw [← hxs] at hdl
    have hlen : (xs.take i).length = i := by rw [List.length_take]; omega
    have hnext : xs.take (i + 1) = xs.take i ++ [comAt b i] := by rw [hxi]; exact List.take_succ_eq_append_getElem hi
    refine JI.know (fun w1 ho => (ho.get (A := tru (closeF [] xs = closeF (xs.take i) (xs.drop i))))) ?_
    intro hcl
    generalize comAt b i = cm at hnext hxi ⊢
    repeat (first|refine Wa ?_|refine JI.seq ?_|refine JI.region rfl ?_|refine Wd ?_|refine We rfl ?_|refine Wf (by first|exact Va|exact Vb|exact Vc|exact Vd|exact Ve|exact Vf|exact Vg|exact Vh|exact Vi|exact Vj|exact Vk (by omega)|exact Vl|exact Vm|exact Vn|exact Vo|exact Vp|exact Vq|exact Vr|exact Vs (by omega)|exact Vt (by omega)|exact Vu (by omega)|exact Vv (by omega)|exact Vw|exact Vx|exact Vy|exact Vz|exact VA|exact VB|exact VC|exact VD|exact VE|exact VF) rfl ?_|(refine Wg rfl ?_; intro _)|(refine Wh rfl ?_; intro _)|refine Wi ?_|refine JI.cond_true ?_|refine JI.cond_false ?_|refine JI.skip ?_|refine JI.ret ?_|refine Wt ?_|refine JI.block ?_|refine Wr ?_|refine Wu ?_|refine Wv rfl rfl ?_|(refine Ww rfl ⟨rfl, by decide, by decide, by decide⟩ ?_; intro _))
    rename_i bl
    refine JR.append1 (L := xs.take i) (u := cm) rfl (by exact ⟨rfl, rfl, by decide⟩) (by omega) ?_
    intro a6 c6
    rw [← hnext]
    repeat (first|refine Wa ?_|refine JI.seq ?_|refine JI.region rfl ?_|refine Wd ?_|refine We rfl ?_|refine Wf (by first|exact Va|exact Vb|exact Vc|exact Vd|exact Ve|exact Vf|exact Vg|exact Vh|exact Vi|exact Vj|exact Vk (by omega)|exact Vl|exact Vm|exact Vn|exact Vo|exact Vp|exact Vq|exact Vr|exact Vs (by omega)|exact Vt (by omega)|exact Vu (by omega)|exact Vv (by omega)|exact Vw|exact Vx|exact Vy|exact Vz|exact VA|exact VB|exact VC|exact VD|exact VE|exact VF) rfl ?_|(refine Wg rfl ?_; intro _)|(refine Wh rfl ?_; intro _)|refine Wi ?_|refine JI.cond_true ?_|refine JI.cond_false ?_|refine JI.skip ?_|refine JI.ret ?_|refine Wt ?_|refine JI.block ?_|refine Wr ?_|refine Wu ?_|refine Wv rfl rfl ?_|(refine Ww rfl ⟨rfl, by decide, by decide, by decide⟩ ?_; intro _))
    have hend : endAt b i = (framesL (rs.take (i + 1))).length := by unfold endAt; rw [← hrs]
    rw [hend]
    have hlen1 : (xs.take (i + 1)).length = i + 1 := by rw [List.length_take]; omega
    by_cases hc : Closed (xs.take (i + 1))
    · have hst := closeF_step hi hcl hc
      refine JR.callV rfl (fun w1 hw => (closed_yes w1 (fun _ => True) a6 c6 (xs.take (i + 1)) (Hold.bufSlOf (α := Commit) (a := a6) (c := c6) (el := 29) (L := xs.take (i + 1)) hw) (by omega) hfn hc).any) ?_
      repeat (first|refine Wa ?_|refine JI.seq ?_|refine JI.region rfl ?_|refine Wd ?_|refine We rfl ?_|refine Wf (by first|exact Va|exact Vb|exact Vc|exact Vd|exact Ve|exact Vf|exact Vg|exact Vh|exact Vi|exact Vj|exact Vk (by omega)|exact Vl|exact Vm|exact Vn|exact Vo|exact Vp|exact Vq|exact Vr|exact Vs (by omega)|exact Vt (by omega)|exact Vu (by omega)|exact Vv (by omega)|exact Vw|exact Vx|exact Vy|exact Vz|exact VA|exact VB|exact VC|exact VD|exact VE|exact VF) rfl ?_|(refine Wg rfl ?_; intro _)|(refine Wh rfl ?_; intro _)|refine Wi ?_|refine JI.cond_true ?_|refine JI.cond_false ?_|refine JI.skip ?_|refine JI.ret ?_|refine Wt ?_|refine JI.block ?_|refine Wr ?_|refine Wu ?_|refine Wv rfl rfl ?_|(refine Ww rfl ⟨rfl, by decide, by decide, by decide⟩ ?_; intro _))
      refine .inl ⟨rfl, (a6, c6), fun w1 ho => ?_⟩
      exact (ho.add (A := tru (closeF [] xs = closeF (xs.take (i + 1)) (xs.drop (i + 1)))) hst).ent
    · have hst : loadL b = xs.take i := by unfold loadL; rw [← hxs]; exact closeF_stop hi hcl hc
      have hle : loadEnd b = (framesL (rs.take i)).length := by unfold loadEnd; rw [hst, hlen, ← hrs]
      rw [hst, hle]
      refine JR.callV rfl (fun w1 hw => (closed_no w1 (fun _ => True) a6 c6 (xs.take (i + 1)) (Hold.bufSlOf (α := Commit) (a := a6) (c := c6) (el := 29) (L := xs.take (i + 1)) hw) (by omega) hfn hc).any) ?_
      repeat (first|refine Wa ?_|refine JI.seq ?_|refine JI.region rfl ?_|refine Wd ?_|refine We rfl ?_|refine Wf (by first|exact Va|exact Vb|exact Vc|exact Vd|exact Ve|exact Vf|exact Vg|exact Vh|exact Vi|exact Vj|exact Vk (by omega)|exact Vl|exact Vm|exact Vn|exact Vo|exact Vp|exact Vq|exact Vr|exact Vs (by omega)|exact Vt (by omega)|exact Vu (by omega)|exact Vv (by omega)|exact Vw|exact Vx|exact Vy|exact Vz|exact VA|exact VB|exact VC|exact VD|exact VE|exact VF) rfl ?_|(refine Wg rfl ?_; intro _)|(refine Wh rfl ?_; intro _)|refine Wi ?_|refine JI.cond_true ?_|refine JI.cond_false ?_|refine JI.skip ?_|refine JI.ret ?_|refine Wt ?_|refine JI.block ?_|refine Wr ?_|refine Wu ?_|refine Wv rfl rfl ?_|(refine Ww rfl ⟨rfl, by decide, by decide, by decide⟩ ?_; intro _))
      refine JI.more (Γ' := .st (sl a6 c6 (xs.take (i + 1))) :: .own b2 35 [.slice none 0 0] :: .own b3 3 [.int .i64 0] :: .own b4 35 [.slice a6 (xs.take (i + 1)).length c6] :: .own b5 3 [.int .i64 ((framesL (rs.take i)).length : Int)] :: Γ) (fun w1 ho => (ho.ent : Hold w F (.res (buf a6 c6 29 (xs.take (i + 1))) :: .own b2 35 [.slice none 0 0] :: .own b3 3 [.int .i64 0] :: .own b4 35 [.slice a6 (xs.take (i + 1)).length c6] :: .own b5 3 [.int .i64 ((framesL (rs.take i)).length : Int)] :: Γ) w1).pub) ?_
      refine JI.drawP mixed rfl ?_
      refine JP.take 0 [.own b4 35 [.slice a6 (xs.take (i + 1)).length c6]] rfl (by kernel_rfl) rfl Vc rfl rfl ?_
      refine JP.take 1 [.own b4 35 [.slice a6 (xs.take (i + 1)).length c6]] rfl (by kernel_rfl) rfl Vc rfl rfl ?_
      refine JP.pure 2 rfl (by kernel_rfl) rfl (fun _ => Vf) rfl rfl ?_
      refine JP.pure 3 rfl (by kernel_rfl) rfl (fun _ => Vv (by omega)) rfl rfl ?_
      refine JP.reslot 22 (.int .i64 (i : Int)) (by congr 1; omega) ?_
      refine JP.take 4 [.st (sl a6 c6 (xs.take (i + 1)))] rfl (by kernel_rfl) rfl (OpV.sliceToV (k := i) (fun w1 ho => by have := (Hold.get (A := sl a6 c6 (xs.take (i + 1))) ho).1; omega)) rfl rfl ?_
      refine JP.take 5 [.own b5 3 [.int .i64 ((framesL (rs.take i)).length : Int)]] rfl (by kernel_rfl) rfl Vc rfl rfl ?_
      refine JP.op 6 (by kernel_rfl) rfl rfl (Wi (Wd ⟨rfl, (by repeat (first|exact Obs.nil|refine Obs.keep ?_|refine Obs.skip (by kernel_rfl) ?_)), ?_⟩))
      refine JP.op 7 (by kernel_rfl) rfl rfl (Wi (Wd ⟨rfl, (by repeat (first|exact Obs.nil|refine Obs.keep ?_|refine Obs.skip (by kernel_rfl) ?_)), ?_⟩))
      refine JP.nil (by kernel_rfl) ?_
      repeat (first|refine Wa ?_|refine JI.seq ?_|refine JI.region rfl ?_|refine Wd ?_|refine We rfl ?_|refine Wf (by first|exact Va|exact Vb|exact Vc|exact Vd|exact Ve|exact Vf|exact Vg|exact Vh|exact Vi|exact Vj|exact Vk (by omega)|exact Vl|exact Vm|exact Vn|exact Vo|exact Vp|exact Vq|exact Vr|exact Vs (by omega)|exact Vt (by omega)|exact Vu (by omega)|exact Vv (by omega)|exact Vw|exact Vx|exact Vy|exact Vz|exact VA|exact VB|exact VC|exact VD|exact VE|exact VF) rfl ?_|(refine Wg rfl ?_; intro _)|(refine Wh rfl ?_; intro _)|refine Wi ?_|refine JI.cond_true ?_|refine JI.cond_false ?_|refine JI.skip ?_|refine JI.ret ?_|refine Wt ?_|refine JI.block ?_|refine Wr ?_|refine Wu ?_|refine Wv rfl rfl ?_|(refine Ww rfl ⟨rfl, by decide, by decide, by decide⟩ ?_; intro _))
      refine .inr ⟨rfl, (a6, c6), fun w1 ho => ?_⟩
      have e1 := sl_take (k := i) (c' := c6) (ho.get (A := sl a6 c6 (xs.take (i + 1)))) (by omega) ⟨by have := (ho.get (A := sl a6 c6 (xs.take (i + 1)))).1; omega, Nat.le_refl _⟩
      rw [List.take_take, Nat.min_eq_left (by omega)] at e1
      have e2 := ho.add (A := sl a6 c6 (xs.take i)) e1
      dsimp only
      rw [hlen]
      exact e2.ent
  case kn =>
    rintro D ⟨p, q⟩
    refine Wr ?_
    refine Wa ?_
    dsimp only
    refine JC.know (fun w1 ho => (ho.get (A := tru (closeF [] xs = closeF (xs.take xs.length) (xs.drop xs.length))))) ?_
    intro hcl
    rw [List.take_length, List.drop_length] at hcl ⊢
    have hst : loadL b = xs := by unfold loadL; rw [← hxs]; exact hcl
    have hle : loadEnd b = (framesL (rs.take xs.length)).length := by unfold loadEnd; rw [hst, ← hrs]
    rw [hst, hle]
    refine JC.more (Γ' := .st (sl p q xs) :: .obj D (.deferred (some [])) :: .own b2 35 [.slice none 0 0] :: .own b3 3 [.int .i64 0] :: .own b4 35 [.slice p xs.length q] :: [.own b5 3 [.int .i64 ((framesL (rs.take xs.length)).length : Int)]]) (fun w1 ho => (ho.ent : Hold w F (.res (buf p q 29 xs) :: .obj D (.deferred (some [])) :: .own b2 35 [.slice none 0 0] :: .own b3 3 [.int .i64 0] :: .own b4 35 [.slice p xs.length q] :: [.own b5 3 [.int .i64 ((framesL (rs.take xs.length)).length : Int)]]) w1).pub) ?_
    refine Wb ?_
    refine JC.drawP mixed ?_
    refine JP.take 0 [.own b4 35 [.slice p xs.length q]] rfl (by kernel_rfl) rfl Vc rfl rfl ?_
    refine JP.take 1 [.own b5 3 [.int .i64 ((framesL (rs.take xs.length)).length : Int)]] rfl (by kernel_rfl) rfl Vc rfl rfl ?_
    refine JP.op 2 (by kernel_rfl) rfl rfl (Wi (Wd ⟨rfl, (by repeat (first|exact Obs.nil|refine Obs.keep ?_|refine Obs.skip (by kernel_rfl) ?_)), ?_⟩))
    refine JP.op 3 (by kernel_rfl) rfl rfl (Wi (Wd ⟨rfl, (by repeat (first|exact Obs.nil|refine Obs.keep ?_|refine Obs.skip (by kernel_rfl) ?_)), ?_⟩))
    refine JP.nil (by kernel_rfl) ?_
    repeat (first|refine Wa ?_|refine Ws ?_)
    refine ⟨D, [.own b2 35 [.slice p xs.length q], .own b3 3 [.int .i64 ((framesL (rs.take xs.length)).length : Int)], .st (sl p q xs)], rfl, .inl rfl, fun w1 ho => ho.ent, ?_⟩
    exact CT.done (p, q) rfl (fun w ho => ho.ent)
  case kr =>
    rintro D ⟨p, q⟩
    refine Wu ?_
    refine Wt ?_
    refine ⟨D, [.own b2 35 [.slice p (loadL b).length q], .own b3 3 [.int .i64 (loadEnd b : Int)], .st (sl p q (loadL b))], rfl, .inl rfl, fun w1 ho => ho.ent, ?_⟩
    exact CT.done (p, q) rfl (fun w ho => ho.ent)
end Ab
end Go.Proofs.YtdgeffphifgflaaGreat

/- What Put writes, Get reads: plain words. -/
namespace Go.Proofs.YtdgeffphifgflaaGreat
namespace Ab
open Go Go.RowKit
set_option linter.unusedVariables false
set_option linter.unusedSimpArgs false
set_option synthInstance.maxSize 4000
set_option synthInstance.maxHeartbeats 400000
attribute [local irreducible] JC JO JR JQ andThen inBlock OpV Gives retTo JM JS

theorem unfold_fold {n : Int} (h : -1099511627776 ≤ n ∧ n ≤ 1099511627776) : unfoldN (foldN n) = n := by
  unfold unfoldN foldN
  split
  · split <;> omega
  · split <;> omega
theorem strB_bytes (s : ByteArray) : strB (bytesOf s) = s := by
  cases s with
  | mk d => cases d; rfl
theorem cutT_text {s : ByteArray} {m : Nat} (h : s.size ≤ m) (hm : m ≤ 1048576) (r : List UInt8) : cutT (textL s ++ r) m = (s, r, true) := by
  have hb := bytesOf_length s
  have hN : getN (textL s ++ r) = (s.size, (numL s.size).length) := by
    unfold textL; rw [List.append_assoc]; exact getN_append (by omega) _
  have hp := numL_pos s.size
  have d1 : (textL s ++ r).drop (numL s.size).length = bytesOf s ++ r := by
    unfold textL; rw [List.append_assoc, List.drop_left' rfl]
  unfold cutT
  rw [hN]
  dsimp only
  rw [d1, if_neg (by unfold textL; rw [List.length_append, List.length_append, hb]; omega), List.take_left' hb, List.drop_left' hb, strB_bytes]
theorem keyOk_size {s : ByteArray} (h : keyOk s = true) : s.size ≤ 8 := by
  unfold keyOk at h
  simp only [Bool.and_eq_true, decide_eq_true_eq] at h
  exact h.2
theorem getOp_put {o : Op_} (h : opMay o = true) (r : List UInt8) : getOp (opPut o ++ r) = (o, r, 0) := by
  have hm := h
  unfold opMay at h
  by_cases h0 : o.kind = 0
  · rw [if_pos h0] at h
    simp only [Bool.and_eq_true, decide_eq_true_eq] at h
    obtain ⟨hk, ⟨⟨⟨hn0, hn1⟩, hn2⟩, he⟩⟩ := h
    have hs := keyOk_size hk
    have hf : -1099511627776 ≤ o.n ∧ o.n ≤ 1099511627776 := by omega
    have e0 : opPut o ++ r = numL 0 ++ (textL o.key ++ (numL (foldN o.n) ++ r)) := by
      unfold opPut; rw [if_pos h0, h0]; simp
    have hN : getN (opPut o ++ r) = (0, (numL 0).length) := by rw [e0]; exact getN_append (by omega) _
    have hd : (opPut o ++ r).drop (numL 0).length = textL o.key ++ (numL (foldN o.n) ++ r) := by rw [e0]; exact List.drop_left' rfl
    have hR : restOp 0 o.key (numL (foldN o.n) ++ r) = (o, r, true) := by
      unfold restOp
      rw [if_pos rfl, getN_append (foldN_lt hf)]
      dsimp only
      rw [unfold_fold hf, List.drop_left' rfl]
      have := numL_pos (foldN o.n)
      refine Prod.ext ?_ (Prod.ext rfl (decide_eq_true (by omega)))
      cases o
      simp only at h0 he
      subst h0 he
      rfl
    have hp := numL_pos 0
    unfold getOp
    rw [hN]
    dsimp only
    rw [hd, cutT_text hs (by decide), if_neg (by omega), if_neg (by simp)]
    dsimp only
    rw [hR, if_pos ⟨rfl, hm⟩]
  · rw [if_neg h0] at h
    split at h
    · rename_i hk3
      simp only [Bool.and_eq_true, decide_eq_true_eq] at h
      obtain ⟨hk, hn, he⟩ := h
      have hs := keyOk_size hk
      have hse := keyOk_size he
      have e0 : opPut o ++ r = numL o.kind.toNat ++ (textL o.key ++ (textL o.elem ++ r)) := by
        unfold opPut; rw [if_neg h0]; simp
      have hN : getN (opPut o ++ r) = (o.kind.toNat, (numL o.kind.toNat).length) := by rw [e0]; exact getN_append (by omega) _
      have hd : (opPut o ++ r).drop (numL o.kind.toNat).length = textL o.key ++ (textL o.elem ++ r) := by rw [e0]; exact List.drop_left' rfl
      have hR : restOp o.kind.toNat o.key (textL o.elem ++ r) = (o, r, true) := by
        unfold restOp
        rw [if_neg (by omega), cutT_text hse (by decide)]
        refine Prod.ext ?_ rfl
        have hk : ((o.kind.toNat : Nat) : Int) = o.kind := by omega
        rw [hk]
        cases o
        simp only at hn
        subst hn
        rfl
      have hp := numL_pos o.kind.toNat
      unfold getOp
      rw [hN]
      dsimp only
      rw [hd, cutT_text hs (by decide), if_neg (by omega), if_neg (by simp)]
      dsimp only
      rw [hR, if_pos ⟨rfl, hm⟩]
    · cases h
theorem getIds_ids : ∀ (ps : List ID) (r : List UInt8), getIds ps.length (idsL ps ++ r) = some (ps, r)
  | [], r => rfl
  | p :: ps, r => by
    have e0 : idsL (p :: ps) ++ r = p.1 ++ (idsL ps ++ r) := by simp [idsL]
    have hl : 32 ≤ (idsL (p :: ps) ++ r).length := by rw [e0, List.length_append, p.2]; omega
    have hd : (idsL (p :: ps) ++ r).drop 32 = idsL ps ++ r := by rw [e0]; exact List.drop_left' p.2
    show getIds (ps.length + 1) _ = _
    rw [getIds, dif_pos hl, hd, getIds_ids ps r]
    have ht : takeID (idsL (p :: ps) ++ r) hl = p := Subtype.ext (by show List.take 32 _ = _; rw [e0]; exact List.take_left' p.2)
    rw [ht]
    rfl
theorem uptoO_put {n m : Nat} (h : n ≤ m) (hm : m ≤ 1048576) (r : List UInt8) : uptoO m (numL n ++ r) = some (n, r) := by
  have := numL_pos n
  unfold uptoO
  rw [getN_append (by omega)]
  dsimp only
  rw [if_neg (by omega), List.drop_left' rfl]
theorem numO_put {n : Nat} (h : n < 18446744073709551616) (r : List UInt8) : numO (numL n ++ r) = some (n, r) := by
  have := numL_pos n
  unfold numO
  rw [getN_append h]
  dsimp only
  rw [if_neg (by omega), List.drop_left' rfl]
theorem getC_put {c : Commit} (h : may c = true) (r : List UInt8) : getC (commitPut c ++ r) = some (c, r) := by
  have hc := may_spec h
  have hnd := hc.node; have hsq := hc.seq; have hgn := hc.gen; have hpr := hc.par
  obtain ⟨X, hX⟩ : ∃ X, X = (if c.ev.node = -1 then r else opPut c.op ++ r) := ⟨_, rfl⟩
  have e0 : commitPut c ++ r = numL (foldN c.ev.node) ++ (numL c.ev.seq.toNat ++ (numL c.gen.toNat ++ (numL c.parents.length ++ (idsL c.parents ++ X)))) := by
    unfold commitPut headL
    rw [hX]
    split <;> simp
  have hf : -1099511627776 ≤ c.ev.node ∧ c.ev.node ≤ 1099511627776 := by omega
  unfold getC
  rw [e0, numO_put (foldN_lt hf), Option.bind_some]
  dsimp only
  rw [uptoO_put (by omega) (by decide), Option.bind_some]
  dsimp only
  rw [uptoO_put (by omega) (by decide), Option.bind_some]
  dsimp only
  rw [uptoO_put (by omega) (by decide), Option.bind_some]
  dsimp only
  rw [getIds_ids, Option.bind_some]
  dsimp only
  rw [unfold_fold hf]
  have hsn : ((c.ev.seq.toNat : Nat) : Int) = c.ev.seq := by omega
  have hgg : ((c.gen.toNat : Nat) : Int) = c.gen := by omega
  have hev : (⟨c.ev.node, c.ev.seq⟩ : Ev_) = c.ev := rfl
  unfold opC
  rw [hsn, hgg]
  by_cases hn : c.ev.node = -1
  · rw [if_pos hn, hX, if_pos hn]
    have hop : c.op = op0 := by
      have := h
      unfold may at this
      split at this
      · cases this
      · simp only [Bool.and_eq_true, decide_eq_true_eq] at this
        exact this.2
    have hcc : (⟨⟨c.ev.node, c.ev.seq⟩, c.gen, c.parents, op0⟩ : Commit) = c := by
      rw [← hop, hev]
    rw [hcc]
    unfold finC
    rw [if_pos h]
  · rw [if_neg hn, hX, if_neg hn, getOp_put (hc.op hn)]
    dsimp only
    rw [if_pos rfl]
    have hcc : (⟨⟨c.ev.node, c.ev.seq⟩, c.gen, c.parents, c.op⟩ : Commit) = c := by
      rw [hev]
    rw [hcc]
    unfold finC
    rw [if_pos h]
end Ab
end Go.Proofs.YtdgeffphifgflaaGreat

/- Contracts: store.Open, store.Last, law15's Disk. Plain words of disks. -/
namespace Go.Proofs.YtdgeffphifgflaaGreat
namespace Ab
open Go Go.RowKit
set_option linter.unusedVariables false
set_option linter.unusedSimpArgs false
set_option synthInstance.maxSize 4000
set_option synthInstance.maxHeartbeats 400000
attribute [local irreducible] JC JO JR JQ andThen inBlock OpV Gives retTo JM JS

attribute [local irreducible] hashC
theorem loadEnd_le (b : List UInt8) : loadEnd b ≤ b.length := by
  have h1 := framesL_take_le (readL b) (loadL b).length
  have h2 : (framesL (readL b)).length ≤ b.length := (readF_pre _ _ : framesL (readL b) <+: b).length_le
  unfold loadEnd; omega
theorem open_store (w : World) (F : Nat → Prop) (a : Option Addr) (c : Nat) (b : List UInt8) (h : (sl a c b).holds F w) (hb : b.length ≤ 1048576) :
    GivesBuf Tryz.prog 20 [.slice a b.length c] w F 5 (b.take (loadEnd b)) := by
  have hle := loadEnd_le b
  refine gives_of Tryz.func20 rfl Tryz.ntmps20 rfl rfl [.st (sl a c b)] (.start1 h) ?_
  repeat (first|refine Wa ?_|refine Wb ?_|refine Wc ?_|refine Wd ?_|refine We rfl ?_|refine Wf (by first|exact Va|exact Vb) rfl ?_)
  refine JR.callSlT rfl (fun w1 hw => load_store w1 _ a c b hw.get hb) ?_
  intro a3 c3
  repeat (first|refine Wa ?_|refine Wb ?_|refine Wc ?_|refine Wd ?_|refine We rfl ?_|refine Wf (by first|exact Va|exact Vb|exact Vq) rfl ?_)
  refine JR.sliceTo (L := b) (k := loadEnd b) rfl rfl hle ?_
  intro a4 c4
  repeat (refine We rfl ?_)
  refine JR.callBuf rfl (fun w1 hw => clone_bytes w1 _ a4 c4 (b.take (loadEnd b)) (hw.get (A := sl a4 c4 (b.take (loadEnd b)))) (by rw [List.length_take]; omega)) ?_
  intro a5 c5
  repeat (first|refine Wa ?_|refine Wd ?_|refine We rfl ?_|refine Wf (by exact Vb) rfl ?_|refine Ws ?_)
  exact CT.done (a5, c5) rfl (fun w ho => ho.ent)
def lastF (l : List Commit) (node : Int) : Int := l.foldl (fun n c => if c.ev.node = node then max n c.ev.seq else n) 0
theorem lastF_next (l : List Commit) (node : Int) (i : Nat) (h : i < l.length) : lastF (l.take (i + 1)) node = if l[i].ev.node = node then max (lastF (l.take i) node) l[i].ev.seq else lastF (l.take i) node := by
  unfold lastF
  rw [List.take_succ_eq_append_getElem h, List.foldl_append]
  rfl
set_option maxHeartbeats 1000000 in
theorem last_store (w : World) (F : Nat → Prop) (a : Option Addr) (c : Nat) (l : List Commit) (node : Int) (h : (sl a c l).holds F w) :
    GivesV Tryz.prog 22 [.slice a l.length c, .int .i64 node] w F (.int .i64 (lastF l node)) := by
  have hl : l.length < 9223372036854775807 := by have := h.2.2.1; simp only [lim] at this; omega
  refine gives_of Tryz.func22 rfl Tryz.ntmps22 rfl rfl [.st (sl a c l)] (.start1 h) ?_
  repeat (first|refine Wa ?_|refine Wb ?_|refine Wc ?_|refine Wd ?_|refine We rfl ?_|refine Wf (by first|exact Va|exact Vb|exact Vf) rfl ?_|refine Wn ?_)
  refine JC.reslot 5 (.int .i64 (lastF (l.take 0) node)) rfl ?_
  refine JC.loop1 (fun (i : Nat) => [(1, .int .i64 node), (5, .int .i64 (lastF (l.take i) node)), (8, .slice a l.length c), (9, .int .i64 (l.length : Int)), (10, .int .i64 (i : Int))])
    (fun i => [.st (sl a c l)]) (fun i => i ≤ l.length) (fun i => l.length - i) 0 (Nat.zero_le _) inferInstance ?_
  intro i hi
  repeat (first|refine Wa ?_|refine Wb ?_|refine Wc ?_|refine Wd ?_|refine We rfl ?_|refine Wf (by exact Vg) rfl ?_)
  refine JC.test (fun h1 => ?_) (fun h1 => ?_)
  · have hlt : i < l.length := by omega
    have hn := lastF_next l node i hlt
    repeat (first|refine Wa ?_|refine Wb ?_|refine Wc ?_|refine We rfl ?_|refine Wl ?_|refine Wn ?_)
    refine JR.indexCommit (k := i) rfl hlt ?_
    intro b5 o5 p5 q5
    repeat (first|refine Wa ?_|refine Wb ?_|refine Wc ?_|refine Wd ?_|refine We rfl ?_|refine Wf (by first|exact Va|exact Vc|exact Vd|exact Vl) rfl ?_|(refine Wg rfl ?_; intro _)|refine Wi ?_)
    refine JC.test (fun h2 => ?_) (fun h2 => ?_)
    · rw [if_pos h2] at hn
      repeat (first|refine Wc ?_|refine We rfl ?_|refine Wf (by first|exact Va|exact Vc|exact Vd) rfl ?_)
      refine Wf OpV.max rfl ?_
      rw [← hn]
      repeat (first|refine Wa ?_|refine Wc ?_|refine Wd ?_|refine We rfl ?_|refine Wf (by first|exact Va|exact Vb|exact Vk (by omega)) rfl ?_|refine Wr ?_)
      exact ⟨i + 1, by omega, by omega, inferInstance⟩
    · rw [if_neg h2] at hn
      repeat (first|refine Wa ?_|refine Wc ?_|refine Wd ?_|refine We rfl ?_|refine Wf (by first|exact Va|exact Vk (by omega)) rfl ?_|refine Wl ?_|refine Wr ?_)
      exact ⟨i + 1, by omega, by omega, by rw [hn]; infer_instance⟩
  · obtain rfl : i = l.length := by omega
    rw [List.take_length]
    repeat (first|refine Wa ?_|refine Wb ?_|refine Wc ?_|refine Wd ?_|refine We rfl ?_|refine Wf (by first|exact Va|exact Vb) rfl ?_|refine Wm ?_|refine Wo ?_|refine Wp ?_|refine Ws ?_)
    exact CT.done () rfl (fun w ho => ho.ent)
end Ab
end Go.Proofs.YtdgeffphifgflaaGreat
