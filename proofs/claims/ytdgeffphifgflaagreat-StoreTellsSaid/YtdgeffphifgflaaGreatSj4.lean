/- Lemmas for the walks, part 4 of 6: Dag, WalkW, WalkX, DagC, More12, WalkB2, DagA, Draw2, DagB, DagE, Cmp, Sort2, Lays3, DagD, DagF, DagG, DagH, WalkY, WalkZ, DagI, DagJ, Few, LawS, LawW, DagK, LawK, LawN, FrP, FrQ, RefA, RefB, RefC, RefD, RefE, RefF, RefG, RefH, RefI, RefJ, RefK. -/
import Derived.Test.YtdgeffphifgflaaGreatSj3
import Derived.Test.YtdgeffphifgflaaGreatSj2
import Derived.Shelf.SlSortCmp.NoneTotal
import Derived.Test.YtdgeffphifgflaaGreatChecked
import Derived.KernelRfl
namespace Go.Proofs.YtdgeffphifgflaaGreat
namespace Ab
open Go Go.RowKit
set_option linter.unusedVariables false
set_option linter.unusedSimpArgs false
set_option synthInstance.maxSize 4000
set_option synthInstance.maxHeartbeats 400000
attribute [local irreducible] JC JO JR JQ andThen inBlock OpV Gives retTo JM JS
def idC (c : Commit) : ID := (hashC c).1
def cids (L : List Commit) : List ID := L.map idC
def par (L : List Commit) (x y : ID) : Prop := ∃ c ∈ L, idC c = x ∧ y ∈ c.parents ∧ y ∈ cids L
def knows (L : List Commit) (x y : ID) : Prop := Relation.TransGen (par L) x y
def genAt (L : List Commit) (p : ID) : Int := match L.find? (fun c => decide (idC c = p)) with | some c => c.gen | none => 0
def maxGen (L : List Commit) (ps : List ID) : Int := ps.foldl (fun g p => max g (genAt L p)) 0
structure Fine (L : List Commit) (c : Commit) : Prop where
  merge : merge c = false
  here : ∀ p ∈ c.parents, p ∈ cids L
  free : ∀ p ∈ c.parents, ∀ q ∈ c.parents, ¬ knows L p q
  gen : c.gen = maxGen L c.parents + 1
def evOk (L : List Commit) (c d : Commit) : Prop := idC c ≠ idC d → c.ev.node = d.ev.node → c.ev.seq ≠ d.ev.seq ∧ (d.ev.seq < c.ev.seq → knows L (idC c) (idC d))
structure Closed (L : List Commit) : Prop where
  may : ∀ c ∈ L, may c = true
  nodup : (cids L).Nodup
  fine : ∀ c ∈ L, Fine L c
  ev : ∀ c ∈ L, ∀ d ∈ L, evOk L c d
theorem mem_cids {L : List Commit} {x : ID} : x ∈ cids L ↔ ∃ c ∈ L, idC c = x := by simp [cids]
theorem cids_perm {L M : List Commit} (h : L.Perm M) : (cids L).Perm (cids M) := h.map _
theorem par_perm {L M : List Commit} (h : L.Perm M) (x y : ID) : par L x y ↔ par M x y := by
  unfold par
  constructor
  · rintro ⟨c, h1, h2, h3, h4⟩; exact ⟨c, h.mem_iff.1 h1, h2, h3, (cids_perm h).mem_iff.1 h4⟩
  · rintro ⟨c, h1, h2, h3, h4⟩; exact ⟨c, h.mem_iff.2 h1, h2, h3, (cids_perm h).mem_iff.2 h4⟩
theorem par_perm_eq {L M : List Commit} (h : L.Perm M) : par L = par M := by
  funext x y; exact propext (par_perm h x y)
theorem knows_perm {L M : List Commit} (h : L.Perm M) : knows L = knows M := by unfold knows; rw [par_perm_eq h]
theorem id_inj {L : List Commit} (h : (cids L).Nodup) {c d : Commit} (hc : c ∈ L) (hd : d ∈ L) (e : idC c = idC d) : c = d := by
  induction L with
  | nil => cases hc
  | cons a L ih =>
    simp only [cids, List.map_cons, List.nodup_cons, List.mem_map, not_exists, not_and] at h
    rcases List.mem_cons.1 hc with e1 | hc'
    · rcases List.mem_cons.1 hd with e2 | hd'
      · rw [e1, e2]
      · exact (h.1 d hd' (by rw [← e1, e])).elim
    · rcases List.mem_cons.1 hd with e2 | hd'
      · exact (h.1 c hc' (by rw [← e2, e])).elim
      · exact ih h.2 hc' hd'
theorem genAt_of {L : List Commit} (h : (cids L).Nodup) {c : Commit} (hc : c ∈ L) : genAt L (idC c) = c.gen := by
  unfold genAt
  cases hf : L.find? (fun d => decide (idC d = idC c)) with
  | none => exact absurd (List.find?_eq_none.1 hf c hc) (by simp)
  | some d =>
    have h1 := List.find?_some hf
    have h2 := List.mem_of_find?_eq_some hf
    rw [id_inj h h2 hc (by simpa using h1)]
theorem genAt_none {L : List Commit} {p : ID} (h : p ∉ cids L) : genAt L p = 0 := by
  unfold genAt
  cases hf : L.find? (fun d => decide (idC d = p)) with
  | none => rfl
  | some d =>
    have h1 := List.find?_some hf
    exact (h (mem_cids.2 ⟨d, List.mem_of_find?_eq_some hf, by simpa using h1⟩)).elim
theorem genAt_perm {L M : List Commit} (h : L.Perm M) (hn : (cids L).Nodup) (p : ID) : genAt L p = genAt M p := by
  by_cases hp : p ∈ cids L
  · obtain ⟨c, hc, rfl⟩ := mem_cids.1 hp
    rw [genAt_of hn hc, genAt_of ((cids_perm h).nodup_iff.1 hn) (h.mem_iff.1 hc)]
  · rw [genAt_none hp, genAt_none (fun hq => hp ((cids_perm h).mem_iff.2 hq))]
theorem foldl_max_le (f : ID → Int) (ps : List ID) : ∀ g : Int, g ≤ ps.foldl (fun g p => max g (f p)) g := by
  induction ps with
  | nil => intro g; exact Int.le_refl _
  | cons p ps ih => intro g; exact Int.le_trans (Int.le_max_left _ _) (ih _)
theorem foldl_max_mem (f : ID → Int) (ps : List ID) : ∀ (g : Int), ∀ p ∈ ps, f p ≤ ps.foldl (fun g p => max g (f p)) g := by
  induction ps with
  | nil => intro g p hp; cases hp
  | cons q ps ih =>
    intro g p hp
    rcases List.mem_cons.1 hp with rfl | hp
    · exact Int.le_trans (Int.le_max_right _ _) (foldl_max_le f ps _)
    · exact ih _ p hp
theorem foldl_max_congr (f g : ID → Int) (ps : List ID) (h : ∀ p ∈ ps, f p = g p) : ∀ a : Int, ps.foldl (fun g p => max g (f p)) a = ps.foldl (fun a p => max a (g p)) a := by
  induction ps with
  | nil => intro a; rfl
  | cons q ps ih =>
    intro a
    simp only [List.foldl_cons]
    rw [h q (by simp)]
    exact ih (fun p hp => h p (by simp [hp])) _
theorem maxGen_mem (L : List Commit) (ps : List ID) (p : ID) (h : p ∈ ps) : genAt L p ≤ maxGen L ps := foldl_max_mem _ _ _ p h
theorem maxGen_congr {L M : List Commit} {ps : List ID} (h : ∀ p ∈ ps, genAt L p = genAt M p) : maxGen L ps = maxGen M ps := foldl_max_congr _ _ _ h _
theorem Closed.perm {L M : List Commit} (h : L.Perm M) (hc : Closed L) : Closed M := by
  have hk := knows_perm h
  refine ⟨fun c hm => hc.may c (h.mem_iff.2 hm), (cids_perm h).nodup_iff.1 hc.nodup, fun c hm => ?_, fun c hm d hd => ?_⟩
  · have hf := hc.fine c (h.mem_iff.2 hm)
    refine ⟨hf.merge, fun p hp => (cids_perm h).mem_iff.1 (hf.here p hp), ?_, ?_⟩
    · rw [← hk]; exact hf.free
    · rw [hf.gen, maxGen_congr fun p _ => genAt_perm h hc.nodup p]
  · have := hc.ev c (h.mem_iff.2 hm) d (h.mem_iff.2 hd)
    unfold evOk at *
    rw [← hk]; exact this
theorem Closed.par_gen {L : List Commit} (h : Closed L) {x y : ID} (hp : par L x y) : genAt L y < genAt L x := by
  obtain ⟨c, h1, rfl, h3, _⟩ := hp
  rw [genAt_of h.nodup h1, (h.fine c h1).gen]
  have := maxGen_mem L c.parents y h3
  omega
theorem Closed.knows_gen {L : List Commit} (h : Closed L) {x y : ID} (hp : knows L x y) : genAt L y < genAt L x := by
  induction hp with
  | single h1 => exact h.par_gen h1
  | tail _ h1 ih => exact Int.lt_trans (h.par_gen h1) ih
theorem Closed.irrefl {L : List Commit} (h : Closed L) (x : ID) : ¬ knows L x x := fun hk => Int.lt_irrefl _ (h.knows_gen hk)
theorem knows_iff {L : List Commit} (hn : (cids L).Nodup) {c : Commit} (hc : c ∈ L) (hh : ∀ p ∈ c.parents, p ∈ cids L) (y : ID) :
    knows L (idC c) y ↔ ∃ p ∈ c.parents, y = p ∨ knows L p y := by
  constructor
  · intro h
    have key : ∀ {x y}, Relation.TransGen (par L) x y → ∃ z, par L x z ∧ (y = z ∨ Relation.TransGen (par L) z y) := by
      intro x y h
      induction h with
      | single h1 => exact ⟨_, h1, .inl rfl⟩
      | tail _ h1 ih =>
        obtain ⟨z, h2, h3⟩ := ih
        refine ⟨z, h2, .inr ?_⟩
        rcases h3 with rfl | h3
        · exact .single h1
        · exact .tail h3 h1
    obtain ⟨z, ⟨d, h1, h2, h3, _⟩, h4⟩ := key h
    have : d = c := id_inj hn h1 hc h2
    subst this
    exact ⟨z, h3, h4⟩
  · rintro ⟨p, hp, h⟩
    have h1 : par L (idC c) p := ⟨c, hc, rfl, hp, hh p hp⟩
    rcases h with rfl | h
    · exact .single h1
    · exact Relation.TransGen.trans (.single h1) h
theorem knows_sub {L M : List Commit} (hs : ∀ c ∈ M, c ∈ L) (hn : (cids L).Nodup) (hh : ∀ c ∈ M, ∀ p ∈ c.parents, p ∈ cids M) {x : ID} (hx : x ∈ cids M) (y : ID) :
    knows M x y ↔ knows L x y := by
  have hi : ∀ z, z ∈ cids M → z ∈ cids L := fun z hz => by
    obtain ⟨c, hc, rfl⟩ := mem_cids.1 hz; exact mem_cids.2 ⟨c, hs c hc, rfl⟩
  constructor
  · intro h
    refine Relation.TransGen.rec (motive := fun y _ => knows L x y) ?_ ?_ h
    · rintro y ⟨c, h1, h2, h3, h4⟩; exact .single ⟨c, hs c h1, h2, h3, hi _ h4⟩
    · rintro y z _ ⟨c, h1, h2, h3, h4⟩ ih; exact .tail ih ⟨c, hs c h1, h2, h3, hi _ h4⟩
  · intro h
    have step : ∀ {x y}, x ∈ cids M → par L x y → par M x y ∧ y ∈ cids M := by
      rintro x y hx ⟨c, h1, h2, h3, _⟩
      obtain ⟨d, hd, he⟩ := mem_cids.1 hx
      have : d = c := id_inj hn (hs d hd) h1 (he.trans h2.symm)
      subst this
      exact ⟨⟨d, hd, he, h3, hh d hd y h3⟩, hh d hd y h3⟩
    have : knows M x y ∧ y ∈ cids M := by
      refine Relation.TransGen.rec (motive := fun y _ => knows M x y ∧ y ∈ cids M) ?_ ?_ h
      · intro y h1; exact ⟨.single (step hx h1).1, (step hx h1).2⟩
      · intro y z _ h1 ih; exact ⟨.tail ih.1 (step ih.2 h1).1, (step ih.2 h1).2⟩
    exact this.1
theorem genAt_sub {L M : List Commit} (hs : ∀ c ∈ M, c ∈ L) (hn : (cids L).Nodup) (hm : (cids M).Nodup) {x : ID} (hx : x ∈ cids M) : genAt M x = genAt L x := by
  obtain ⟨c, hc, rfl⟩ := mem_cids.1 hx
  rw [genAt_of hm hc, genAt_of hn (hs c hc)]
theorem nodup_sub {L M : List Commit} (hn : (cids L).Nodup) (hs : M.Sublist L) : (cids M).Nodup := hn.sublist (hs.map _)
theorem Closed.sub {L M : List Commit} (h : Closed L) (hs : ∀ c ∈ M, c ∈ L) (hm : (cids M).Nodup) (hh : ∀ c ∈ M, ∀ p ∈ c.parents, p ∈ cids M) : Closed M := by
  refine ⟨fun c hc => h.may c (hs c hc), hm, fun c hc => ?_, fun c hc d hd => ?_⟩
  · have hf := h.fine c (hs c hc)
    refine ⟨hf.merge, hh c hc, fun p hp q hq hk => hf.free p hp q hq ((knows_sub hs h.nodup hh (hh c hc p hp) q).1 hk), ?_⟩
    rw [hf.gen, maxGen_congr fun p hp => (genAt_sub hs h.nodup hm (hh c hc p hp))]
  · have := h.ev c (hs c hc) d (hs d hd)
    intro h1 h2
    obtain ⟨h3, h4⟩ := this h1 h2
    exact ⟨h3, fun h5 => (knows_sub hs h.nodup hh (mem_cids.2 ⟨c, hc, rfl⟩) _).2 (h4 h5)⟩
def nodes (G : List (Commit × List ID)) : List Commit := G.map (·.1)
def knownBy (G : List (Commit × List ID)) (q : ID) : List ID := match G.find? (fun g => decide (idC g.1 = q)) with | some g => g.2 | none => []
def addOk (G : List (Commit × List ID)) (c : Commit) : Bool := c.parents.all (fun p => decide (p ∈ cids (nodes G))) && c.parents.all (fun p => c.parents.all fun q => decide (p ∉ knownBy G q))
def addGen (G : List (Commit × List ID)) (c : Commit) : Bool := decide (c.gen = maxGen (nodes G) c.parents + 1)
def isKnown (G : List (Commit × List ID)) (c : Commit) (S : List ID) : Prop := ∀ x, x ∈ S ↔ ∃ p ∈ c.parents, x = p ∨ x ∈ knownBy G p
inductive Built : List (Commit × List ID) → Prop
  | nil : Built []
  | snoc {G : List (Commit × List ID)} {c : Commit} {S : List ID} : Built G → idC c ∉ cids (nodes G) → merge c = false → addOk G c = true → addGen G c = true → isKnown G c S → Built (G ++ [(c, S)])
theorem nodes_snoc (G : List (Commit × List ID)) (c : Commit) (S : List ID) : nodes (G ++ [(c, S)]) = nodes G ++ [c] := by simp [nodes]
theorem cids_append (L M : List Commit) : cids (L ++ M) = cids L ++ cids M := by simp [cids]
theorem cids_snoc (L : List Commit) (c : Commit) : cids (L ++ [c]) = cids L ++ [idC c] := by simp [cids]
theorem knownBy_of {G : List (Commit × List ID)} (h : (cids (nodes G)).Nodup) {g : Commit × List ID} (hg : g ∈ G) : knownBy G (idC g.1) = g.2 := by
  unfold knownBy
  cases hf : G.find? (fun d => decide (idC d.1 = idC g.1)) with
  | none => exact absurd (List.find?_eq_none.1 hf g hg) (by simp)
  | some d =>
    have h1 := List.find?_some hf
    have h2 := List.mem_of_find?_eq_some hf
    have h3 : idC d.1 = idC g.1 := by simpa using h1
    have : d = g := by
      clear hf h1
      induction G with
      | nil => cases hg
      | cons a G ih =>
        simp only [nodes, cids, List.map_cons, List.nodup_cons, List.mem_map, not_exists, not_and] at h
        rcases List.mem_cons.1 h2 with e1 | h2'
        · rcases List.mem_cons.1 hg with e2 | hg'
          · rw [e1, e2]
          · exact (h.1 g.1 ⟨g, hg', rfl⟩ (by rw [← e1, h3])).elim
        · rcases List.mem_cons.1 hg with e2 | hg'
          · exact (h.1 d.1 ⟨d, h2', rfl⟩ (by rw [← e2, h3])).elim
          · exact ih h.2 hg' h2'
    rw [this]
theorem knownBy_snoc {G : List (Commit × List ID)} {c : Commit} {S : List ID} {q : ID} (h : q ∈ cids (nodes G)) : knownBy (G ++ [(c, S)]) q = knownBy G q := by
  obtain ⟨c', hc', he⟩ := mem_cids.1 h
  obtain ⟨g, hg, rfl⟩ := List.mem_map.1 hc'
  unfold knownBy
  rw [List.find?_append]
  cases hf : G.find? (fun d => decide (idC d.1 = q)) with
  | none => exact absurd (List.find?_eq_none.1 hf g hg) (by simpa using he)
  | some d => rfl
theorem addOk_iff (G : List (Commit × List ID)) (c : Commit) : addOk G c = true ↔ (∀ p ∈ c.parents, p ∈ cids (nodes G)) ∧ ∀ p ∈ c.parents, ∀ q ∈ c.parents, p ∉ knownBy G q := by
  simp only [addOk, Bool.and_eq_true, List.all_eq_true, decide_eq_true_eq]
structure BuiltR (G : List (Commit × List ID)) : Prop where
  nodup : (cids (nodes G)).Nodup
  here : ∀ c ∈ nodes G, ∀ p ∈ c.parents, p ∈ cids (nodes G)
  known : ∀ q ∈ cids (nodes G), ∀ x, x ∈ knownBy G q ↔ knows (nodes G) q x
  fine : ∀ c ∈ nodes G, Fine (nodes G) c
theorem Built.right {G : List (Commit × List ID)} (h : Built G) : BuiltR G := by
  induction h with
  | nil => exact ⟨by simp [nodes, cids], by simp [nodes], by simp [nodes, cids], by simp [nodes]⟩
  | snoc h1 h2 h3 h4 h5 h6 ih =>
    rename_i G c S
    have hn : (cids (nodes (G ++ [(c, S)]))).Nodup := by
      rw [nodes_snoc, cids_snoc]
      exact List.nodup_append.2 ⟨ih.nodup, by simp, fun a ha b hb => by simp at hb; subst hb; exact fun e => h2 (e ▸ ha)⟩
    obtain ⟨h7, h8⟩ := (addOk_iff G c).1 h4
    have hs : ∀ d ∈ nodes G, d ∈ nodes (G ++ [(c, S)]) := fun d hd => by rw [nodes_snoc]; exact List.mem_append_left _ hd
    have hi : ∀ x ∈ cids (nodes G), x ∈ cids (nodes (G ++ [(c, S)])) := fun x hx => by rw [nodes_snoc, cids_append]; exact List.mem_append_left _ hx
    have hc : c ∈ nodes (G ++ [(c, S)]) := by rw [nodes_snoc]; simp
    have hsub : ∀ {x}, x ∈ cids (nodes G) → ∀ y, knows (nodes G) x y ↔ knows (nodes (G ++ [(c, S)])) x y := fun hx y => knows_sub hs hn ih.here hx y
    have hgen : ∀ x ∈ cids (nodes G), genAt (nodes G) x = genAt (nodes (G ++ [(c, S)])) x := fun x hx => genAt_sub hs hn ih.nodup hx
    have hcc : ∀ x, x ∈ S ↔ knows (nodes (G ++ [(c, S)])) (idC c) x := by
      intro x
      rw [h6 x, knows_iff hn hc (fun p hp => hi p (h7 p hp))]
      constructor
      · rintro ⟨p, hp, h9⟩
        exact ⟨p, hp, h9.imp id fun h9 => (hsub (h7 p hp) x).1 ((ih.known p (h7 p hp) x).1 h9)⟩
      · rintro ⟨p, hp, h9⟩
        exact ⟨p, hp, h9.imp id fun h9 => (ih.known p (h7 p hp) x).2 ((hsub (h7 p hp) x).2 h9)⟩
    refine ⟨hn, fun d hd p hp => ?_, fun q hq x => ?_, fun d hd => ?_⟩
    · rw [nodes_snoc] at hd
      rcases List.mem_append.1 hd with hd | hd
      · exact hi p (ih.here d hd p hp)
      · simp at hd; subst hd; exact hi p (h7 p hp)
    · by_cases hq' : q ∈ cids (nodes G)
      · rw [knownBy_snoc hq', ih.known q hq', hsub hq']
      · have : q = idC c := by
          rw [nodes_snoc, cids_snoc] at hq
          rcases List.mem_append.1 hq with hq | hq
          · exact (hq' hq).elim
          · simpa using hq
        subst this
        rw [knownBy_of hn (g := (c, S)) (by simp)]
        exact hcc x
    · rw [nodes_snoc] at hd
      rcases List.mem_append.1 hd with hd | hd
      · have hf := ih.fine d hd
        refine ⟨hf.merge, fun p hp => hi p (hf.here p hp), fun p hp q hq hk => hf.free p hp q hq ((hsub (hf.here p hp) q).2 hk), ?_⟩
        rw [hf.gen, maxGen_congr fun p hp => hgen p (hf.here p hp)]
      · simp at hd; subst hd
        refine ⟨h3, fun p hp => hi p (h7 p hp), fun p hp q hq hk => h8 q hq p hp ((ih.known p (h7 p hp) q).2 ((hsub (h7 p hp) q).2 hk)), ?_⟩
        have := of_decide_eq_true h5
        rw [this, maxGen_congr fun p hp => hgen p (h7 p hp)]
theorem Built.closed {G : List (Commit × List ID)} (h : Built G) (hm : ∀ c ∈ nodes G, may c = true) (he : ∀ c ∈ nodes G, ∀ d ∈ nodes G, evOk (nodes G) c d) : Closed (nodes G) :=
  ⟨hm, h.right.nodup, h.right.fine, he⟩
theorem Closed.step {Lo : List Commit} (h : Closed Lo) (hs : Lo.Pairwise (fun c d => c.gen ≤ d.gen)) {G : List (Commit × List ID)} (hb : Built G) {k : Nat} (hk : k < Lo.length) (hG : nodes G = Lo.take k) :
    idC Lo[k] ∉ cids (nodes G) ∧ merge Lo[k] = false ∧ addOk G Lo[k] = true ∧ addGen G Lo[k] = true := by
  have hm := List.getElem_mem hk
  have hf := h.fine _ hm
  have hr := hb.right
  have hsub : ∀ c ∈ nodes G, c ∈ Lo := fun c hc => by rw [hG] at hc; exact List.mem_of_mem_take hc
  have hpar : ∀ p ∈ Lo[k].parents, p ∈ cids (nodes G) := by
    intro p hp
    obtain ⟨d, hd, rfl⟩ := mem_cids.1 (hf.here p hp)
    have hlt : d.gen < Lo[k].gen := by
      have := h.par_gen (x := idC Lo[k]) (y := idC d) ⟨_, hm, rfl, hp, hf.here _ hp⟩
      rwa [genAt_of h.nodup hd, genAt_of h.nodup hm] at this
    obtain ⟨j, hj, rfl⟩ := List.getElem_of_mem hd
    have hjk : j < k := by
      apply Classical.byContradiction
      intro hge
      by_cases he : j = k
      · subst he; omega
      · have := List.pairwise_iff_getElem.1 hs k j hk hj (by omega)
        omega
    rw [hG]
    refine mem_cids.2 ⟨Lo[j], ?_, rfl⟩
    rw [List.mem_take_iff_getElem]
    exact ⟨j, by omega, rfl⟩
  refine ⟨?_, hf.merge, (addOk_iff G _).2 ⟨hpar, fun p hp q hq hk' => ?_⟩, ?_⟩
  · intro hc
    obtain ⟨d, hd, he⟩ := mem_cids.1 hc
    rw [hG, List.mem_take_iff_getElem] at hd
    obtain ⟨j, hj, rfl⟩ := hd
    have h1 := List.pairwise_iff_getElem.1 (show (cids Lo).Pairwise _ from h.nodup) j k (by simp [cids]; omega) (by simpa [cids] using hk) (by omega)
    simp [cids] at h1
    exact h1 he
  · exact hf.free q hq p hp ((knows_sub hsub h.nodup hr.here (hpar q hq) p).1 ((hr.known q (hpar q hq) p).1 hk'))
  · refine decide_eq_true ?_
    rw [hf.gen, maxGen_congr fun p hp => (genAt_sub hsub h.nodup hr.nodup (hpar p hp)).symm]
def istep (L : List Commit) (i j : Nat) : Prop := ∃ h : i < L.length, ∃ p ∈ L[i].parents, (cids L).findIdx? (fun x => decide (x = p)) = some j
def knowsI (L : List Commit) (i j : Nat) : Prop := Relation.TransGen (istep L) i j
theorem at_some {I : List ID} {p : ID} {j : Nat} (h : I.findIdx? (fun x => decide (x = p)) = some j) : ∃ hj : j < I.length, I[j] = p := by
  obtain ⟨h1, h2, _⟩ := List.findIdx?_eq_some_iff_getElem.1 h
  exact ⟨h1, by simpa using h2⟩
theorem at_none {I : List ID} {p : ID} : I.findIdx? (fun x => decide (x = p)) = none ↔ p ∉ I := by
  rw [List.findIdx?_eq_none_iff]
  constructor
  · intro h hp; have := h p hp; simp at this
  · intro h x hx; simp; intro e; exact h (e ▸ hx)
theorem at_of {I : List ID} (hn : I.Nodup) {j : Nat} (hj : j < I.length) : I.findIdx? (fun x => decide (x = I[j])) = some j := by
  rw [List.findIdx?_eq_some_iff_getElem]
  refine ⟨hj, by simp, fun k hk => ?_⟩
  have := List.pairwise_iff_getElem.1 hn k j (by omega) hj hk
  simpa using this
theorem cids_length (L : List Commit) : (cids L).length = L.length := by simp [cids]
theorem cids_get (L : List Commit) (i : Nat) (h : i < (cids L).length) : (cids L)[i] = idC (L[i]'(by simpa [cids] using h)) := by simp [cids]
theorem istep_lt {L : List Commit} {i j : Nat} (h : istep L i j) : i < L.length ∧ j < L.length := by
  obtain ⟨h1, p, _, h3⟩ := h
  obtain ⟨h4, _⟩ := at_some h3
  exact ⟨h1, by rwa [cids_length] at h4⟩
theorem istep_par {L : List Commit} (hn : (cids L).Nodup) {i j : Nat} (hi : i < L.length) (hj : j < L.length) : istep L i j ↔ par L (idC L[i]) (idC L[j]) := by
  constructor
  · rintro ⟨_, p, h2, h3⟩
    obtain ⟨h4, h5⟩ := at_some h3
    rw [cids_get] at h5
    subst h5
    exact ⟨_, List.getElem_mem hi, rfl, h2, mem_cids.2 ⟨_, List.getElem_mem hj, rfl⟩⟩
  · rintro ⟨c, h1, h2, h3, _⟩
    have : c = L[i] := id_inj hn h1 (List.getElem_mem hi) h2
    subst this
    refine ⟨hi, _, h3, ?_⟩
    have := at_of hn (j := j) (by rw [cids_length]; exact hj)
    rwa [cids_get] at this
theorem knowsI_iff {L : List Commit} (hn : (cids L).Nodup) {i j : Nat} (hi : i < L.length) (hj : j < L.length) : knowsI L i j ↔ knows L (idC L[i]) (idC L[j]) := by
  constructor
  · intro h
    have : ∀ {j}, Relation.TransGen (istep L) i j → ∀ hj : j < L.length, knows L (idC L[i]) (idC L[j]) := by
      intro j h
      induction h with
      | single h1 => exact fun hj => .single ((istep_par hn hi hj).1 h1)
      | tail h0 h1 ih =>
        intro hj
        have hb := (istep_lt h1).1
        exact .tail (ih hb) ((istep_par hn hb hj).1 h1)
    exact this h hj
  · intro h
    have : ∀ {y}, Relation.TransGen (par L) (idC L[i]) y → ∀ j, ∀ hj : j < L.length, idC L[j] = y → knowsI L i j := by
      intro y h
      induction h with
      | single h1 => intro j hj e; exact .single ((istep_par hn hi hj).2 (e ▸ h1))
      | tail h0 h1 ih =>
        intro j hj e
        rename_i b c
        have hb : b ∈ cids L := by obtain ⟨c, h2, h3, _⟩ := h1; exact mem_cids.2 ⟨c, h2, h3⟩
        obtain ⟨d, hd, he⟩ := mem_cids.1 hb
        obtain ⟨k, hk, rfl⟩ := List.getElem_of_mem hd
        exact .tail (ih k hk he) ((istep_par hn hk hj).2 (by rw [he, e]; exact h1))
    exact this h j hj rfl
theorem knowsI_all {L : List Commit} {K : Nat → Nat → Prop} (h : ∀ i p, istep L i p → K i p ∧ ∀ j, K p j → K i j) {i j : Nat} (hk : knowsI L i j) : K i j := by
  have : ∀ {i j}, Relation.TransGen (istep L) i j → (∀ k, k = i → K k j) := by
    intro i j hk
    induction hk with
    | single h1 => rintro k rfl; exact (h _ _ h1).1
    | tail h0 h1 ih =>
      rintro k rfl
      rename_i b c
      -- K along the path: by the first step
      have key : ∀ {a b}, Relation.TransGen (istep L) a b → ∀ c, K b c → K a c := by
        intro a b hab
        induction hab with
        | single h1 => exact fun c hc => (h _ _ h1).2 c hc
        | tail _ h1 ih => exact fun c hc => ih c ((h _ _ h1).2 c hc)
      exact key h0 c (h _ _ h1).1
  exact this hk i rfl
def oneI (L : List Commit) (i : Nat) : Prop := ∃ h : i < L.length, (∀ p ∈ L[i].parents, p ∈ cids L) ∧
  (∀ a b, istep L i a → istep L i b → ¬ knowsI L a b) ∧ L[i].gen = maxGen L L[i].parents + 1
theorem oneI_fine {L : List Commit} (hn : (cids L).Nodup) {i : Nat} (hi : i < L.length) : (merge L[i] = false ∧ oneI L i) ↔ Fine L L[i] := by
  constructor
  · rintro ⟨h1, _, h2, h3, h4⟩
    refine ⟨h1, h2, fun p hp q hq hk => ?_, h4⟩
    obtain ⟨c, hc, rfl⟩ := mem_cids.1 (h2 p hp)
    obtain ⟨a, ha, rfl⟩ := List.getElem_of_mem hc
    obtain ⟨d, hd, rfl⟩ := mem_cids.1 (h2 q hq)
    obtain ⟨b, hb, rfl⟩ := List.getElem_of_mem hd
    have e1 : ∀ a (ha : a < L.length), idC L[a] ∈ L[i].parents → istep L i a := fun a ha hm => ⟨hi, _, hm, by
      have := at_of hn (j := a) (by rw [cids_length]; exact ha)
      rwa [cids_get] at this⟩
    exact h3 a b (e1 a ha hp) (e1 b hb hq) ((knowsI_iff hn ha hb).2 hk)
  · rintro ⟨h1, h2, h3, h4⟩
    refine ⟨h1, hi, h2, ?_, h4⟩
    rintro a b ⟨_, p, hp, ha⟩ ⟨_, q, hq, hb⟩ hk
    obtain ⟨ha1, rfl⟩ := at_some ha
    obtain ⟨hb1, rfl⟩ := at_some hb
    rw [cids_length] at ha1 hb1
    rw [cids_get] at hp hq
    exact h3 _ hp _ hq ((knowsI_iff hn ha1 hb1).1 hk)
def evI (L : List Commit) (i j : Nat) : Prop := ∃ hi : i < L.length, ∃ hj : j < L.length, L[i].ev.node = L[j].ev.node →
  L[i].ev.seq ≠ L[j].ev.seq ∧ (L[j].ev.seq < L[i].ev.seq → knowsI L i j) ∧ (L[i].ev.seq < L[j].ev.seq → knowsI L j i)
theorem closed_iff_I (L : List Commit) : Closed L ↔ (∀ c ∈ L, may c = true) ∧ ∀ i (hi : i < L.length), merge L[i] = false ∧ oneI L i ∧ (cids L).findIdx? (fun x => decide (x = idC L[i])) = some i ∧ ∀ j, j < i → evI L i j := by
  constructor
  · intro h
    refine ⟨h.may, fun i hi => ?_⟩
    obtain ⟨h1, h2⟩ := (oneI_fine h.nodup hi).2 (h.fine _ (List.getElem_mem hi))
    have hat := at_of h.nodup (j := i) (by rw [cids_length]; exact hi)
    rw [cids_get] at hat
    refine ⟨h1, h2, hat, fun j hj => ⟨hi, by omega, fun he => ?_⟩⟩
    have hne : idC L[i] ≠ idC L[j] := by
      intro e
      have := List.pairwise_iff_getElem.1 (show (cids L).Pairwise _ from h.nodup) j i (by rw [cids_length]; omega) (by rw [cids_length]; exact hi) hj
      rw [cids_get, cids_get] at this
      exact this e.symm
    obtain ⟨h3, h4⟩ := h.ev _ (List.getElem_mem hi) _ (List.getElem_mem (by omega : j < L.length)) hne he
    obtain ⟨_, h5⟩ := h.ev _ (List.getElem_mem (by omega : j < L.length)) _ (List.getElem_mem hi) hne.symm he.symm
    exact ⟨h3, fun h6 => (knowsI_iff h.nodup hi (by omega)).2 (h4 h6), fun h6 => (knowsI_iff h.nodup (by omega) hi).2 (h5 h6)⟩
  · rintro ⟨hm, h⟩
    have hn : (cids L).Nodup := by
      refine List.pairwise_iff_getElem.2 fun a b ha hb hab e => ?_
      rw [cids_length] at ha hb
      have h1 := (h b hb).2.2.1
      obtain ⟨_, _, h2⟩ := List.findIdx?_eq_some_iff_getElem.1 h1
      have := h2 a hab
      rw [cids_get] at this
      rw [cids_get, cids_get] at e
      simp [e] at this
    refine ⟨hm, hn, fun c hc => ?_, fun c hc d hd hne he => ?_⟩
    · obtain ⟨i, hi, rfl⟩ := List.getElem_of_mem hc
      exact (oneI_fine hn hi).1 ⟨(h i hi).1, (h i hi).2.1⟩
    · obtain ⟨i, hi, rfl⟩ := List.getElem_of_mem hc
      obtain ⟨j, hj, rfl⟩ := List.getElem_of_mem hd
      rcases Nat.lt_trichotomy i j with hij | rfl | hij
      · obtain ⟨_, _, h1⟩ := (h j hj).2.2.2 i hij
        obtain ⟨h2, h3, h4⟩ := h1 he.symm
        exact ⟨h2.symm, fun h5 => (knowsI_iff hn hi hj).1 (h4 h5)⟩
      · exact (hne rfl).elim
      · obtain ⟨_, _, h1⟩ := (h i hi).2.2.2 j hij
        obtain ⟨h2, h3, h4⟩ := h1 he
        exact ⟨h2, fun h5 => (knowsI_iff hn hi hj).1 (h3 h5)⟩
theorem sameIds_ref (w : World) (F : Nat → Prop) (a b : Option Addr) (c k : Nat) (L M : List ID) (h : (sl a c L).holds F w) (h' : (sl b k M).holds F w) :
    GivesV Tryz.prog 51 [.slice a L.length c, .slice b M.length k] w F (.bool (decide (L = M))) := by
  have hL : L.length < 9223372036854775807 := by have := h.2.2.1; simp only [lim] at this; omega
  refine gives_of Tryz.func51 rfl Tryz.ntmps51 rfl rfl [.st (sl a c L), .st (sl b k M)] (.start2 h h') ?_
  repeat (first|refine Wa ?_|refine Wb ?_|refine Wc ?_|refine Wd ?_|refine We rfl ?_|refine Wf (by first|exact Va|exact Vb|exact Vf|exact Vm) rfl ?_)
  refine JC.test (fun hne => ?_) (fun he => ?_)
  · repeat (first|refine Wa ?_|refine Wb ?_|refine Wc ?_|refine Wd ?_|refine We rfl ?_|refine Wf (by exact Vb) rfl ?_|refine Ws ?_|refine Wt ?_)
    refine CT.done () ?_ (fun w ho => ho.ent)
    have : ¬ L = M := fun h => hne (by rw [h])
    simp [packed, this]
  · have hlen : L.length = M.length := by omega
    repeat (first|refine Wa ?_|refine Wb ?_|refine Wc ?_|refine Wd ?_|refine We rfl ?_|refine Wf (by exact Vb) rfl ?_|refine Wl ?_|refine Wn ?_)
    refine JC.loop1 (fun k0 : Nat => [(0, .slice a L.length c), (1, .slice b M.length k), (5, .int .i64 (k0 : Int))]) (fun _ => [.st (sl a c L), .st (sl b k M)])
      (fun k0 => k0 ≤ L.length ∧ L.take k0 = M.take k0) (fun k0 => L.length - k0) 0 ⟨Nat.zero_le _, rfl⟩ inferInstance ?_
    intro k0 ⟨hk, heq⟩
    repeat (first|refine Wa ?_|refine Wb ?_|refine Wc ?_|refine Wd ?_|refine We rfl ?_|refine Wf (by first|exact Va|exact Vf|exact Vg) rfl ?_)
    refine JC.test (fun hlt => ?_) (fun hge => ?_)
    · have hlt' : k0 < L.length := by omega
      repeat (first|refine Wa ?_|refine Wb ?_|refine Wl ?_|refine Wn ?_)
      refine JC.openID (.slice a L.length c) k0 hlt' ?_
      intro b1 o1
      refine JC.openID (.slice b M.length k) k0 (by omega) ?_
      intro b2 o2
      refine JC.quiet mixed (by kernel_rfl) ?_
      repeat (first|refine Wy rfl (by first|exact Va|exact Vc|exact Ve|exact Vy) rfl ?_|refine WB ?_)
      repeat (refine Wa ?_)
      refine JC.test (fun hne => ?_) (fun heq2 => ?_)
      · repeat (first|refine Wa ?_|refine Wb ?_|refine Wc ?_|refine Wd ?_|refine We rfl ?_|refine Wf (by exact Vb) rfl ?_|refine Ws ?_|refine Wt ?_|refine Wu ?_)
        refine CT.done () ?_ (fun w ho => ho.ent)
        have : ¬ L = M := fun h => by subst h; exact hne rfl
        simp [packed, this]
      · repeat (first|refine Wa ?_|refine Wc ?_|refine Wd ?_|refine We rfl ?_|refine Wf (by first|exact Va|exact Vb|exact Vk (by omega)) rfl ?_|refine Wl ?_|refine Wr ?_)
        refine ⟨k0 + 1, ⟨by omega, ?_⟩, by omega, inferInstance⟩
        have heq2 : L[k0] = M[k0] := by simpa using heq2
        rw [List.take_succ_eq_append_getElem hlt', List.take_succ_eq_append_getElem (by omega), heq, heq2]
    · have hk0 : k0 = L.length := by omega
      repeat (first|refine Wa ?_|refine Wb ?_|refine Wc ?_|refine Wd ?_|refine We rfl ?_|refine Wf (by exact Vb) rfl ?_|refine Wm ?_|refine Wo ?_|refine Wp ?_|refine Ws ?_)
      refine CT.done () ?_ (fun w ho => ho.ent)
      have : L = M := by
        rw [List.take_of_length_le (by omega), List.take_of_length_le (by omega)] at heq
        exact heq
      simp [packed, this]
theorem op_eq (a b : Op_) : (decide (a.kind = b.kind) && (decide (a.key = b.key) && (decide (a.elem = b.elem) && decide (a.n = b.n)))) = decide (a = b) := by
  obtain ⟨a1, a2, a3, a4⟩ := a
  obtain ⟨b1, b2, b3, b4⟩ := b
  rw [Bool.eq_iff_iff]
  simp
theorem same_ref (w : World) (F : Nat → Prop) (c d : Commit) (a b : Option Addr) (k m : Nat) (h : (sl a k c.parents).holds F w) (h' : (sl b m d.parents).holds F w) :
    GivesV Tryz.prog 66 [commitV c a k, commitV d b m] w F (.bool (decide (c = d))) := by
  have key : ∀ (c d : Commit), c = d ↔ c.ev = d.ev ∧ c.gen = d.gen ∧ c.op = d.op ∧ c.parents = d.parents := by
    intro c d
    cases c; cases d
    simp only [Commit.mk.injEq]
    constructor
    · rintro ⟨h1, h2, h3, h4⟩; exact ⟨h1, h2, h4, h3⟩
    · rintro ⟨h1, h2, h3, h4⟩; exact ⟨h1, h2, h4, h3⟩
  refine gives_of Tryz.func66 rfl Tryz.ntmps66 rfl rfl [.st (sl a k c.parents), .st (sl b m d.parents)] (.start2 h h') ?_
  repeat (first|refine Wa ?_|refine Wb ?_|refine Wc ?_|refine Wd ?_|refine We rfl ?_|refine Wf (by first|exact Vb|exact Vc|exact Vd) rfl ?_|(refine Wh rfl ?_; intro _))
  refine JR.callV rfl (fun w1 hw => sameIds_ref w1 _ a b k m _ _ hw.get hw.get) ?_
  repeat (first|refine Wa ?_|refine Wb ?_|refine Wc ?_|refine Wd ?_|refine We rfl ?_|refine Wf (by first|exact Va|exact Vb) rfl ?_)
  refine JO.test 12 (fun h1 => ?_) (fun h1 => ?_)
  · repeat (first|refine We rfl ?_|refine Wf (by first|exact Va|exact Vc|exact Vd|exact Vi|exact Vz) rfl ?_)
    refine JO.test 19 (fun h2 => ?_) (fun h2 => ?_)
    · repeat (first|refine We rfl ?_|refine Wf (by first|exact Va|exact Vc|exact Vd|exact Vi|exact Vl) rfl ?_)
      refine JO.test 26 (fun h3 => ?_) (fun h3 => ?_)
      · repeat (first|refine Wa ?_|refine Wd ?_|refine We rfl ?_|refine Wf (by first|exact Vb|exact Vc|exact Vd|exact Vi|exact VA) rfl ?_|refine Ws ?_)
        refine CT.done () ?_ (fun w ho => ho.ent)
        have h1 : c.parents = d.parents := by simpa using h1
        have h2 : c.ev = d.ev := h2
        simp [packed, key, h1, h2, h3]
        exact op_eq _ _
      · repeat (first|refine Wa ?_|refine Wd ?_|refine We rfl ?_|refine Wf (by first|exact Vb|exact Vj) rfl ?_|refine Ws ?_|refine Wv rfl rfl ?_)
        refine CT.done () ?_ (fun w ho => ho.ent)
        simp [packed, key, h3]
    · repeat (first|refine Wa ?_|refine Wd ?_|refine We rfl ?_|refine Wf (by first|exact Va|exact Vb|exact Vj) rfl ?_|refine Ws ?_|refine Wv rfl rfl ?_)
      refine CT.done () ?_ (fun w ho => ho.ent)
      have h2 : ¬ c.ev = d.ev := h2
      simp [packed, key, h2]
  · repeat (first|refine Wa ?_|refine Wd ?_|refine We rfl ?_|refine Wf (by first|exact Va|exact Vb|exact Vj) rfl ?_|refine Ws ?_|refine Wv rfl rfl ?_)
    refine CT.done () ?_ (fun w ho => ho.ent)
    have h1 : ¬ c.parents = d.parents := by simpa using h1
    simp [packed, key, h1]
theorem list_ref (w : World) (F : Nat → Prop) (a b : Option Addr) (c k : Nat) (L M : List Commit) (h : (sl a c L).holds F w) (h' : (sl b k M).holds F w) :
    GivesV Tryz.prog 19 [.slice a L.length c, .slice b M.length k] w F (.bool (decide (L = M))) := by
  have hL : L.length < 9223372036854775807 := by have := h.2.2.1; simp only [lim] at this; omega
  refine gives_of Tryz.func19 rfl Tryz.ntmps19 rfl rfl [.st (sl a c L), .st (sl b k M)] (.start2 h h') ?_
  repeat (first|refine Wa ?_|refine Wb ?_|refine Wc ?_|refine Wd ?_|refine We rfl ?_|refine Wf (by first|exact Va|exact Vb|exact Vf|exact Vm) rfl ?_)
  refine JC.test (fun hne => ?_) (fun he => ?_)
  · repeat (first|refine Wa ?_|refine Wb ?_|refine Wc ?_|refine Wd ?_|refine We rfl ?_|refine Wf (by exact Vb) rfl ?_|refine Ws ?_|refine Wt ?_)
    refine CT.done () ?_ (fun w ho => ho.ent)
    have : ¬ L = M := fun h => hne (by rw [h])
    simp [packed, this]
  · have hlen : L.length = M.length := by omega
    repeat (first|refine Wa ?_|refine Wb ?_|refine Wc ?_|refine Wd ?_|refine We rfl ?_|refine Wf (by exact Vb) rfl ?_|refine Wl ?_|refine Wn ?_)
    refine JC.loop1 (fun k0 : Nat => [(0, .slice a L.length c), (1, .slice b M.length k), (5, .int .i64 (k0 : Int))]) (fun _ => [.st (sl a c L), .st (sl b k M)])
      (fun k0 => k0 ≤ L.length ∧ L.take k0 = M.take k0) (fun k0 => L.length - k0) 0 ⟨Nat.zero_le _, rfl⟩ inferInstance ?_
    intro k0 ⟨hk, heq⟩
    repeat (first|refine Wa ?_|refine Wb ?_|refine Wc ?_|refine Wd ?_|refine We rfl ?_|refine Wf (by first|exact Va|exact Vf|exact Vg) rfl ?_)
    refine JC.test (fun hlt => ?_) (fun hge => ?_)
    · have hlt' : k0 < L.length := by omega
      repeat (first|refine Wa ?_|refine Wb ?_|refine Wl ?_|refine Wn ?_)
      refine JC.openCommit (.slice a L.length c) k0 hlt' ?_
      intro b1 o1 p1 q1
      refine JC.openCommit (.slice b M.length k) k0 (by omega) ?_
      intro b2 o2 p2 q2
      refine JC.quiet mixed (by kernel_rfl) ?_
      repeat (refine Wy rfl (by first|exact Va|exact Vc|exact Ve) rfl ?_)
      refine JQ.call rfl rfl (fun w1 hw => same_ref w1 _ L[k0] (M[k0]'(by omega)) p1 p2 q1 q2 hw.get hw.get) ?_
      repeat (first|refine Wy rfl (by exact Vb) rfl ?_|refine WB ?_)
      repeat (first|refine Wa ?_|refine Wb ?_|refine Wc ?_|refine Wd ?_|refine We rfl ?_|refine Wf (by first|exact Va|exact Vh) rfl ?_)
      refine JC.test (fun hne => ?_) (fun heq2 => ?_)
      · repeat (first|refine Wa ?_|refine Wb ?_|refine Wc ?_|refine Wd ?_|refine We rfl ?_|refine Wf (by exact Vb) rfl ?_|refine Ws ?_|refine Wt ?_|refine Wu ?_)
        refine CT.done () ?_ (fun w ho => ho.ent)
        have : ¬ L = M := fun h => by subst h; simp at hne
        simp [packed, this]
      · repeat (first|refine Wa ?_|refine Wc ?_|refine Wd ?_|refine We rfl ?_|refine Wf (by first|exact Va|exact Vb|exact Vk (by omega)) rfl ?_|refine Wl ?_|refine Wr ?_)
        refine ⟨k0 + 1, ⟨by omega, ?_⟩, by omega, inferInstance⟩
        have heq2 : L[k0] = M[k0] := by simpa using heq2
        rw [List.take_succ_eq_append_getElem hlt', List.take_succ_eq_append_getElem (by omega), heq, heq2]
    · have hk0 : k0 = L.length := by omega
      repeat (first|refine Wa ?_|refine Wb ?_|refine Wc ?_|refine Wd ?_|refine We rfl ?_|refine Wf (by exact Vb) rfl ?_|refine Wm ?_|refine Wo ?_|refine Wp ?_|refine Ws ?_)
      refine CT.done () ?_ (fun w ho => ho.ent)
      have : L = M := by
        rw [List.take_of_length_le (by omega), List.take_of_length_le (by omega)] at heq
        exact heq
      simp [packed, this]
def fewC (c : Commit) : Bool := decide (c.parents.length ≤ 20) && decide (c.op.key.size ≤ 100) && decide (c.op.elem.size ≤ 100)
theorem few_one (w : World) (F : Nat → Prop) (c : Commit) (a : Option Addr) (k : Nat) : GivesV Tryz.prog 14 [commitV c a k] w F (.bool (fewC c)) := by
  refine gives_of Tryz.func14 rfl Tryz.ntmps14 rfl rfl [] (.start w F) ?_
  repeat (first|refine Wa ?_|refine Wb ?_|refine Wc ?_|refine Wd ?_|refine We rfl ?_|refine Wf (by first|exact Va|exact Vb|exact Vc|exact Vd|exact Vf|exact Vn) rfl ?_|(refine Wh rfl ?_; intro _))
  refine JO.test 7 (fun h1 => ?_) (fun h1 => ?_)
  · repeat (first|refine We rfl ?_|refine Wf (by first|exact Va|exact Vc|exact Vd|exact Vi|exact Vn|exact Vw) rfl ?_)
    refine JO.test 14 (fun h2 => ?_) (fun h2 => ?_)
    · repeat (first|refine Wa ?_|refine Wd ?_|refine We rfl ?_|refine Wf (by first|exact Vb|exact Vc|exact Vd|exact Vi|exact Vn|exact Vw) rfl ?_|refine Ws ?_)
      refine CT.done () ?_ (fun w ho => ho.ent)
      have h1 : c.parents.length ≤ 20 := by omega
      have h2 : c.op.key.size ≤ 100 := by omega
      have h3 : ((c.op.elem.size : Int) ≤ 100) ↔ c.op.elem.size ≤ 100 := by omega
      simp [packed, fewC, h1, h2, h3]
    · repeat (first|refine Wa ?_|refine Wd ?_|refine We rfl ?_|refine Wf (by first|exact Vb|exact Vj) rfl ?_|refine Ws ?_|refine Wv rfl rfl ?_)
      refine CT.done () ?_ (fun w ho => ho.ent)
      have h2 : ¬ c.op.key.size ≤ 100 := by omega
      simp [packed, fewC, h2]
  · repeat (first|refine Wa ?_|refine Wd ?_|refine We rfl ?_|refine Wf (by first|exact Va|exact Vb|exact Vj) rfl ?_|refine Ws ?_|refine Wv rfl rfl ?_)
    refine CT.done () ?_ (fun w ho => ho.ent)
    have h1 : ¬ c.parents.length ≤ 20 := by omega
    simp [packed, fewC, h1]
end Ab
end Go.Proofs.YtdgeffphifgflaaGreat
namespace Go.Proofs.YtdgeffphifgflaaGreat
namespace Ab
open Go Go.RowKit
set_option linter.unusedVariables false
set_option linter.unusedSimpArgs false
set_option synthInstance.maxSize 4000
set_option synthInstance.maxHeartbeats 400000
attribute [local irreducible] JC JO JR JQ andThen inBlock OpV Gives retTo JM JS
attribute [local irreducible] hashC
theorem hash_err (c : Commit) : ((hashC c).2 = 0) ↔ may c = true := by
  unfold hashC; cases may c <;> simp
def idsP (L : List Commit) : List ID := if L.all may then cids L else []
theorem idsP_all {L : List Commit} (h : ∀ c ∈ L, may c = true) : idsP L = cids L := by
  rw [idsP, if_pos (List.all_eq_true.2 h)]
theorem idsP_not {L : List Commit} {c : Commit} (hc : c ∈ L) (h : may c = false) : idsP L = [] := by
  rw [idsP, if_neg]
  intro h'
  have := List.all_eq_true.1 h' c hc
  rw [h] at this; cases this
theorem cids_take_next {L : List Commit} {i : Nat} (h : i < L.length) : cids (L.take (i + 1)) = cids (L.take i) ++ [idC L[i]] := by
  rw [List.take_succ_eq_append_getElem h, cids_append]; rfl
set_option maxHeartbeats 1000000 in
theorem ids_dag (w : World) (F : Nat → Prop) (a : Option Addr) (k : Nat) (L : List Commit) (h : (sl a k L).holds F w) (hl : L.length < 34359738368) (hf : ∀ x ∈ L, fine x) :
    GivesSl Tryz.prog 43 [.slice a L.length k] w F (idsP L) := by
  refine gives_of Tryz.func43 rfl Tryz.ntmps43 rfl rfl [.st (sl a k L)] (.start1 h) ?_
  repeat (first|refine Wa ?_|refine Wb ?_|refine Wc ?_|refine Wd ?_|refine We rfl ?_|refine Wf (by first|exact Va|exact Vb|exact Vf) rfl ?_|refine Wn ?_)
  refine JC.buf_nil (α := ID) 81 ?_
  refine JC.loop3 (fun (i : Nat) p q => [(3, .slice p (cids (L.take i)).length q), (8, .slice a L.length k), (9, .int .i64 (L.length : Int)), (10, .int .i64 (i : Int))])
    (fun i p q => [.res (buf p q 81 (cids (L.take i))), .st (sl a k L)])
    (fun i _ _ => i ≤ L.length ∧ ∀ c ∈ L.take i, may c = true) (fun i _ _ => L.length - i) 0 none 0 ⟨Nat.zero_le _, by simp⟩ (by rw [List.take_zero, show cids [] = [] from rfl]; infer_instance) ?_
  intro i p q ⟨hi, hm⟩
  repeat (first|refine Wa ?_|refine Wb ?_|refine Wc ?_|refine Wd ?_|refine We rfl ?_|refine Wf (by exact Vg) rfl ?_)
  refine JC.test (fun hlt => ?_) (fun hge => ?_)
  · have hlt' : i < L.length := by omega
    have hfx := hf _ (List.getElem_mem hlt')
    repeat (first|refine Wa ?_|refine Wb ?_|refine Wc ?_|refine We rfl ?_|refine Wl ?_|refine Wn ?_)
    refine JR.indexCommit rfl hlt' ?_
    intro b1 o1 p1 q1
    repeat (first|refine Wa ?_|refine Wb ?_|refine Wc ?_|refine Wd ?_|refine We rfl ?_|refine Wf (by exact Vc) rfl ?_|(refine Wg rfl ?_; intro _)|refine Wi ?_)
    refine JR.callV rfl (fun w1 hw => hash_commit w1 _ (L[i]) p1 q1 hw.get hfx.1) ?_
    repeat (first|refine Wa ?_|refine Wb ?_|refine Wc ?_|refine Wd ?_|refine We rfl ?_|refine Wf (by first|exact Va|exact Vb|exact Vm|exact Vq) rfl ?_|(refine Wg rfl ?_; intro _)|refine Wi ?_)
    refine JC.test (fun h0 => ?_) (fun h0 => ?_)
    · have hmay : may L[i] = false := by
        rw [← Bool.not_eq_true, ← hash_err]; exact h0
      repeat (first|refine Wa ?_|refine Wb ?_|refine Wc ?_|refine Wd ?_|refine We rfl ?_|refine Wf (by exact Vb) rfl ?_|refine Ws ?_|refine Wt ?_|refine Wu ?_)
      rw [idsP_not (List.getElem_mem hlt') hmay]
      exact CT.done (none, 0) rfl (fun w ho => (ho.ent : Hold _ _ [.st (sl a k L)] w).tail.add sl_nil)
    · have hmay : may L[i] = true := (hash_err _).1 (by simpa using h0)
      have h1 : (cids (L.take i)).length ≤ i := by simp [cids]; omega
      repeat (first|refine Wa ?_|refine Wc ?_|refine We rfl ?_|refine Wf (by first|exact Va|exact Vc) rfl ?_|refine Wl ?_|(refine Ww rfl ⟨rfl, by decide, by decide, by decide⟩ ?_; intro _))
      refine JR.append1 (u := idC L[i]) rfl (by exact ⟨rfl, rfl, by decide⟩) (by omega) ?_
      intro r s
      repeat (first|refine Wa ?_|refine Wc ?_|refine Wd ?_|refine We rfl ?_|refine Wf (by first|exact Va|exact Vb|exact Vk (by omega)) rfl ?_|refine Wr ?_)
      refine ⟨i + 1, r, s, ⟨by omega, fun c hc => ?_⟩, by omega, by rw [cids_take_next hlt']; infer_instance⟩
      rw [List.take_succ_eq_append_getElem hlt', List.mem_append, List.mem_singleton] at hc
      rcases hc with hc | rfl
      · exact hm c hc
      · exact hmay
  · obtain rfl : i = L.length := by omega
    rw [List.take_length] at hm ⊢
    refine JC.more (fun w1 ho => ho.pub) ?_
    repeat (first|refine Wa ?_|refine Wb ?_|refine Wc ?_|refine Wd ?_|refine We rfl ?_|refine Wf (by first|exact Va|exact Vb) rfl ?_|refine Wm ?_|refine Wo ?_|refine Wp ?_|refine Ws ?_)
    rw [idsP_all hm]
    exact CT.done (p, q) rfl (fun w ho => (ho.ent : Hold _ _ [.st (sl p q (cids L))] w))
def findC (L : List Commit) (x : ID) : Option Commit := L.find? (fun c => decide (hashO c = some x))
def findR (L : List Commit) (x : ID) : Commit × Bool := match findC L x with | some c => (c, true) | none => (commit0, false)
end Ab
end Go.Proofs.YtdgeffphifgflaaGreat
namespace Go.Proofs.YtdgeffphifgflaaGreat
namespace Ab
open Go Go.RowKit
set_option linter.unusedVariables false
set_option linter.unusedSimpArgs false
theorem OpV.getR [Dr] {P : Program} {n : Nn} {w0 : World} {F : Nat → Prop} {t : TypeId} {pos : String} {aft : Array Edge} {g : Option (Nat × Bool)} {e : E} {Γ : List Fact} {α : Type} {f : α → Value} {x : Operand} {ty : TypeId} {td : TypeDesc} {sz by_ b o p : Nat} {z : Value} {L : List α} {vs : List Value} {d : Option Nat} (k : Nat)
    [hx : Ev e x (.pointer (some ⟨b, o, none⟩))] [hA : At Γ b p vs] [hT : Ty P ty td sz by_ z] (hvs : vs = L.map f) (h : k < L.length) (ho' : o = p + k) (hsz : sz = 1) [hv : Val td [f (L[k]'h)] (f (L[k]'h))] :
    OpV P n w0 F ⟨d, .load ty x, t, pos, aft, g⟩ e Γ (f (L[k]'h)) :=
  fun a w fr ho => by
    have hr0 := hA.ok w0 F w ho
    have hr : w.rangeAt b o [f (L[k]'h)] := by
      intro j v hj
      cases j with
      | zero =>
        simp only [List.getElem?_cons_zero, Option.some.injEq] at hj
        subst hj
        have := hr0 k (f (L[k]'h)) (by rw [hvs]; simp [h])
        rw [ho']
        exact this
      | succ j => simp at hj
    have hload := run_load_at (P := P) (t := ty) (v := f (L[k]'h)) hr (by simp [hsz])
    simp [execOp, hx.ok n a fr, hload]
end Ab
end Go.Proofs.YtdgeffphifgflaaGreat
namespace Go.Proofs.YtdgeffphifgflaaGreat
namespace Ab
open Go Go.RowKit
set_option linter.unusedVariables false
set_option linter.unusedSimpArgs false
set_option synthInstance.maxSize 4000
set_option synthInstance.maxHeartbeats 400000
attribute [local irreducible] JC JO JR JQ andThen inBlock OpV Gives retTo JM JS
attribute [local irreducible] ents hashC
abbrev Row := (Commit × List ID) × (Option Addr × Nat × Nat)
def ofM (R : List Row) : List (ID × Value) := R.map fun r => (idC r.1.1, commitV r.1.1 r.2.1 r.2.2.1)
def knM (R : List Row) : List (ID × Value) := R.map fun r => (idC r.1.1, .map (some r.2.2.2))
def grOf (R : List Row) : List (Commit × List ID) := R.map (·.1)
def rowA (r : Row) : List Asn := [sl r.2.1 r.2.2.1 r.1.1.parents, rmap r.2.2.2 (ents idV (sety r.1.2)) r.1.2.length]
def graphA (R : List Row) : Asn where
  holds F w := ∀ r ∈ R, ∀ A ∈ rowA r, A.holds F w
  mono F G w h hh := fun r hr A hA => A.mono F G w h (hh r hr A hA)
  frame F w w' hk h := fun r hr A hA => A.frame F w w' hk (h r hr A hA)
  within F w h := fun r hr A hA => A.within F w (h r hr A hA)
theorem nodes_gr (R : List Row) : nodes (grOf R) = R.map (·.1.1) := by simp [nodes, grOf]
theorem ids_gr (R : List Row) : cids (nodes (grOf R)) = R.map (fun r => idC r.1.1) := by simp [nodes_gr, cids]
theorem ofM_keys (R : List Row) : (ofM R).map (·.1) = cids (nodes (grOf R)) := by simp [ids_gr, ofM]
theorem knM_keys (R : List Row) : (knM R).map (·.1) = cids (nodes (grOf R)) := by simp [ids_gr, knM]
theorem row_of {R : List Row} {p : ID} (hn : (cids (nodes (grOf R))).Nodup) (hp : p ∈ cids (nodes (grOf R))) :
    ∃ r ∈ R, idC r.1.1 = p ∧ gotten (ofM R) p = some (commitV r.1.1 r.2.1 r.2.2.1) ∧ gotten (knM R) p = some (.map (some r.2.2.2)) ∧ knownBy (grOf R) p = r.1.2 := by
  rw [ids_gr] at hp
  obtain ⟨r, hr, he⟩ := List.mem_map.1 hp
  cases hf : R.find? (fun r => decide (idC r.1.1 = p)) with
  | none => exact absurd (List.find?_eq_none.1 hf r hr) (by simpa using he)
  | some q =>
    have h1 := List.find?_some hf
    have h1' : idC q.1.1 = p := by simpa using h1
    have h2 := List.mem_of_find?_eq_some hf
    refine ⟨q, h2, h1', ?_, ?_, ?_⟩
    · simp only [gotten, ofM, List.find?_map, Function.comp_def]
      rw [hf]; rfl
    · simp only [gotten, knM, List.find?_map, Function.comp_def]
      rw [hf]; rfl
    · have := knownBy_of (G := grOf R) hn (g := q.1) (List.mem_map.2 ⟨q, h2, rfl⟩)
      rw [← h1']; exact this
theorem row_none {R : List Row} {p : ID} (hp : p ∉ cids (nodes (grOf R))) : gotten (ofM R) p = none ∧ gotten (knM R) p = none := by
  rw [ids_gr] at hp
  have hf : R.find? (fun r => decide (idC r.1.1 = p)) = none := by
    rw [List.find?_eq_none]
    intro r hr h
    exact hp (List.mem_map.2 ⟨r, hr, by simpa using h⟩)
  constructor
  · simp only [gotten, ofM, List.find?_map, Function.comp_def]
    rw [hf]; rfl
  · simp only [gotten, knM, List.find?_map, Function.comp_def]
    rw [hf]; rfl
theorem upd_new {K : Type} [DecidableEq K] {M : List (K × Value)} {k : K} (v : Value) (h : k ∉ M.map (·.1)) : upd M k v = M ++ [(k, v)] := by
  have : plc M k = none := by
    simp only [plc, List.findIdx?_eq_none_iff, decide_eq_false_iff_not]
    intro p hp e
    exact h (List.mem_map.2 ⟨p, hp, e⟩)
  simp [upd, this]
theorem mem_take_succ {α : Type} {L : List α} {i : Nat} (h : i < L.length) {x : α} : x ∈ L.take (i + 1) ↔ x ∈ L.take i ∨ x = L[i] := by
  rw [List.take_succ_eq_append_getElem h, List.mem_append, List.mem_singleton]
theorem maxGen_snoc (L : List Commit) (ps : List ID) (p : ID) : maxGen L (ps ++ [p]) = max (maxGen L ps) (genAt L p) := by simp [maxGen]
theorem not_ok_of_none {G : List (Commit × List ID)} {c : Commit} {p : ID} (hp : p ∈ c.parents) (h : p ∉ cids (nodes G)) : addOk G c = false := by
  rw [← Bool.not_eq_true, addOk_iff]; exact fun h' => h (h'.1 p hp)
theorem not_ok_of_known {G : List (Commit × List ID)} {c : Commit} {p q : ID} (hp : p ∈ c.parents) (hq : q ∈ c.parents) (h : p ∈ knownBy G q) : addOk G c = false := by
  rw [← Bool.not_eq_true, addOk_iff]; exact fun h' => h'.2 p hp q hq h
theorem graph_row {R : List Row} {F : Nat → Prop} {w : World} (h : (graphA R).holds F w) {r : Row} (hr : r ∈ R) : (sl r.2.1 r.2.2.1 r.1.1.parents).holds F w ∧ (rmap r.2.2.2 (ents idV (sety r.1.2)) r.1.2.length).holds F w :=
  ⟨h r hr _ (by simp [rowA]), h r hr _ (by simp [rowA])⟩
theorem graph_snoc {R : List Row} {F : Nat → Prop} {w : World} (h : (graphA R).holds F w) {c : Commit} {S : List ID} {a : Option Addr} {k b : Nat} (h1 : (sl a k c.parents).holds F w) (h2 : (rmap b (ents idV (sety S)) S.length).holds F w) :
    (graphA (R ++ [((c, S), (a, k, b))])).holds F w := by
  intro r hr A hA
  rcases List.mem_append.1 hr with hr | hr
  · exact h r hr A hA
  · simp only [List.mem_singleton] at hr
    subst hr
    simp only [rowA, List.mem_cons, List.not_mem_nil, or_false] at hA
    rcases hA with rfl | rfl
    · exact h1
    · exact h2
theorem graph_nil {F : Nat → Prop} {w : World} : (graphA []).holds F w := fun r hr => by cases hr
theorem ofM_snoc (R : List Row) (c : Commit) (S : List ID) (a : Option Addr) (k b : Nat) : ofM (R ++ [((c, S), (a, k, b))]) = ofM R ++ [(idC c, commitV c a k)] := by simp [ofM]
theorem knM_snoc (R : List Row) (c : Commit) (S : List ID) (a : Option Addr) (k b : Nat) : knM (R ++ [((c, S), (a, k, b))]) = knM R ++ [(idC c, .map (some b))] := by simp [knM]
theorem grOf_snoc (R : List Row) (c : Commit) (S : List ID) (a : Option Addr) (k b : Nat) : grOf (R ++ [((c, S), (a, k, b))]) = grOf R ++ [(c, S)] := by simp [grOf]
end Ab
end Go.Proofs.YtdgeffphifgflaaGreat
namespace Go.Proofs.YtdgeffphifgflaaGreat
namespace Ab
open Go Go.RowKit
set_option linter.unusedVariables false
set_option linter.unusedSimpArgs false
section
variable {P : Program} {ops : Array Oper} {C : World → Prop} {R : Exit → Act → World → Prop} [Dr]
def cOp (P : Program) (ops : Array Oper) (C : World → Prop) (i : Nat) (K : Act → World → Prop) (a : Act) (w : World) : Prop :=
  match ops[i]? with
  | none => K a w
  | some o => if Region.wanted o (yielded ops a.tmps) then o.wp P a w (fun a' w' => (C w → C w') ∧ K a' w') noExit else K (a.put o.dst undef) w
def cAny (P : Program) (ops : Array Oper) (C : World → Prop) (R : Exit → Act → World → Prop) : Nat → Array Bool → Act → World → Prop
  | 0, listed, a, w => Region.ready .any ops listed = [] ∧ R .normal a w
  | fuel + 1, listed, a, w => (Region.ready .any ops listed = [] → R .normal a w) ∧ ∀ i ∈ Region.ready .any ops listed, cOp P ops C i (cAny P ops C R fuel (listed.setIfInBounds i true)) a w
end
section
variable {P : Program} {ops : Array Oper} {C : World → Prop} {R : Exit → Act → World → Prop}
theorem cOp_wp {i : Nat} {K K' : Act → World → Prop} {a : Act} {w : World} (hk : ∀ a w, K a w → K' a w) (h : cOp P ops C i K a w) : wpOp P ops R i K' a w := by
  unfold cOp at h
  unfold wpOp
  split
  · rename_i ho; simp only [ho] at h; exact hk _ _ h
  · rename_i o ho
    simp only [ho] at h
    split
    · rename_i hw; simp only [hw, if_true] at h; exact .inl (noExit_wp (fun a w h => hk a w h.2) h)
    · rename_i hw; simp only [hw] at h; exact hk _ _ h
end
section
variable {P : Program} {ops : Array Oper} {C : World → Prop} {R : Exit → Act → World → Prop} [Dr]
end
section
variable {P : Program} {ops : Array Oper} {C : World → Prop} {R : Exit → Act → World → Prop}
theorem cAny_wp : ∀ (fuel : Nat) (listed : Array Bool) (a : Act) (w : World), cAny P ops C R fuel listed a w → wpAny P .any ops R fuel listed a w
  | 0, _, _, _, h => h
  | fuel + 1, listed, a, w, h => ⟨h.1, fun i hi => cOp_wp (fun a w => cAny_wp fuel _ a w) (h.2 i hi)⟩
end
section
variable {P : Program} {ops : Array Oper} {C : World → Prop} {R : Exit → Act → World → Prop} [Dr]
def GivesC (P : Program) (ops : Array Oper) (C : World → Prop) (o : Oper) (v : Value) (a : Act) : Prop :=
  Region.wanted o (yielded ops a.tmps) = true ∧ ∀ w, C w → (execOp a.eval o).run P w = .ok (.value v) w
end
section
variable {P : Program} {ops : Array Oper} {C : World → Prop} {R : Exit → Act → World → Prop}
theorem GivesC.cOp {i : Nat} {o : Oper} {v : Value} {a : Act} (hi : ops[i]? = some o) (hy : GivesC P ops C o v a) {K : Act → World → Prop} {w : World} (hC : C w) (h : K (a.put o.dst v) w) : cOp P ops C i K a w := by
  unfold Ab.cOp
  simp only [hi]
  obtain ⟨hw, hv⟩ := hy
  simp only [hw, if_true]
  unfold Oper.wp
  rw [hv w hC]
  exact ⟨fun h => h, h⟩
end
section
variable {P : Program} {ops : Array Oper} {C : World → Prop} {R : Exit → Act → World → Prop} [Dr]
end
section
variable {P : Program} {ops : Array Oper} {C : World → Prop} {R : Exit → Act → World → Prop}
theorem GivesC.same {o : Oper} {v : Value} {a a' : Act} (hy : GivesC P ops C o v a) (he : execOp a'.eval o = execOp a.eval o)
    (hw : Region.wanted o (yielded ops a'.tmps) = Region.wanted o (yielded ops a.tmps)) : GivesC P ops C o v a' := by
  unfold GivesC at *
  rw [he, hw]
  exact hy
end
section
variable {P : Program} {ops : Array Oper} {C : World → Prop} {R : Exit → Act → World → Prop} [Dr]
end
section
variable {P : Program} {ops : Array Oper} {C : World → Prop} {R : Exit → Act → World → Prop}
theorem cOp_put {j : Nat} {oi oj : Oper} {v : Value} (hj : ops[j]? = some oj) (hap : oi.apart ops oj = true)
    (hsi : ∀ cs b, oi.op ≠ .select cs b) (hsj : ∀ cs b, oj.op ≠ .select cs b) {K : Act → World → Prop} {a : Act} {w : World}
    (hw0 : C w) (hy : GivesC P ops C oi v a) (h : cOp P ops C j K (a.put oi.dst v) w) :
    cOp P ops C j (fun a' w' => (C w' ∧ GivesC P ops C oi v a') ∧ K (a'.put oi.dst v) w') a w := by
  obtain ⟨h1, h2, h3⟩ := Oper.apart_spec hap
  have keep : ∀ u, GivesC P ops C oi v (a.put oj.dst u) := fun u => hy.same (execOp_put oi hsi a oj.dst u h3) (wanted_put oi a oj.dst u h3)
  unfold cOp at *
  simp only [hj] at *
  rw [wanted_put oj a oi.dst v h1] at h
  split
  · rename_i hw
    simp only [hw, if_true] at h
    unfold Oper.wp at *
    rw [execOp_put oj hsj a oi.dst v h1] at h
    generalize (execOp a.eval oj).run P w = r at *
    have put : ∀ u w', ((C w → C w') ∧ K ((a.put oi.dst v).put oj.dst u) w') → ((C w → C w') ∧ (C w' ∧ GivesC P ops C oi v (a.put oj.dst u)) ∧ K ((a.put oj.dst u).put oi.dst v) w') :=
      fun u w' hh => ⟨hh.1, ⟨hh.1 hw0, keep u⟩, by rw [← Act.put_comm a v u h2]; exact hh.2⟩
    cases r with
    | ok n w' =>
      cases n <;> simp only [Oper.upon] at h ⊢
      case value u => exact put u _ h
      case skip => exact put undef _ h
      case defer d =>
        have hd : GivesC P ops C oi v ({ a with defers := d :: a.defers } : Act) := hy.same rfl rfl
        refine ⟨h.1, ⟨h.1 hw0, hd.same (execOp_put oi hsi _ oj.dst undef h3) (wanted_put oi _ oj.dst undef h3)⟩, ?_⟩
        rw [← Act.put_comm _ v undef h2, ← Act.put_defers]
        exact h.2
      case enter f args =>
        refine Calls.mono h fun e w'' he => ?_
        cases e with
        | returned u => exact put u _ he
        | panicked c => exact he
        | outgrown => exact he
      case row row args => exact Rows.mono h fun u w'' he => put u _ he
    | halt x w' =>
      cases x <;> simp only [Oper.upon] at h ⊢
      case panic u => exact h
  · rename_i hw
    simp only [hw] at h
    exact ⟨⟨hw0, keep _⟩, by rw [← Act.put_comm a v undef h2]; exact h⟩
end
section
variable {P : Program} {ops : Array Oper} {C : World → Prop} {R : Exit → Act → World → Prop} [Dr]
end
section
variable {P : Program} {ops : Array Oper} {C : World → Prop} {R : Exit → Act → World → Prop}
theorem cOp_mono {i : Nat} {K K' : Act → World → Prop} {a : Act} {w : World} (hk : ∀ a w, K a w → K' a w) (h : cOp P ops C i K a w) : cOp P ops C i K' a w := by
  unfold cOp at *
  split
  · rename_i ho; simp only [ho] at h; exact hk _ _ h
  · rename_i o ho
    simp only [ho] at h
    split
    · rename_i hw; simp only [hw, if_true] at h; exact Oper.wp_mono (fun a w h => ⟨h.1, hk _ _ h.2⟩) h
    · rename_i hw; simp only [hw] at h; exact hk _ _ h
end
section
variable {P : Program} {ops : Array Oper} {C : World → Prop} {R : Exit → Act → World → Prop} [Dr]
end
section
variable {P : Program} {ops : Array Oper} {C : World → Prop} {R : Exit → Act → World → Prop}
theorem cAny_first {i : Nat} {oi : Oper} {v : Value} (hi : ops[i]? = some oi) (hsel : ∀ (j : Nat) (o : Oper) cs b, ops[j]? = some o → o.op ≠ .select cs b) :
    ∀ (fuel : Nat) (listed : Array Bool) (a : Act) (w : World),
      (∀ j oj, ops[j]? = some oj → j ≠ i → listed.getD j true = false → (∀ e ∈ oj.after, Region.binds .any e = true → e.on ≠ i) → oi.apart ops oj = true) →
      i ∈ Region.ready .any ops listed → C w → GivesC P ops C oi v a →
      cAny P ops C R fuel (listed.setIfInBounds i true) (a.put oi.dst v) w → cAny P ops C R (fuel + 1) listed a w := by
  intro fuel
  induction fuel with
  | zero =>
    intro listed a w _ hr hw hy H
    refine ⟨fun h => (by rw [h] at hr; cases hr), fun j hj => ?_⟩
    by_cases hji : j = i
    · subst hji; exact hy.cOp hi hw H
    · have := ready_mono hj hji
      rw [H.1] at this
      cases this
  | succ fuel ih =>
    intro listed a w hfree hr hw hy H
    refine ⟨fun h => (by rw [h] at hr; cases hr), fun j hj => ?_⟩
    by_cases hji : j = i
    · subst hji; exact hy.cOp hi hw H
    · have h1 := H.2 j (ready_mono hj hji)
      obtain ⟨hjun, oj, hoj, hall⟩ := mem_ready.1 hj
      have hnot : ∀ e ∈ oj.after, Region.binds .any e = true → e.on ≠ i := fun e he hb heq => by
        have h1 := hall e he hb
        have h0 := (mem_ready.1 hr).1
        rw [heq] at h1
        rcases Nat.lt_or_ge i listed.size with h' | h'
        · simp [h'] at h0 h1; rw [h0] at h1; cases h1
        · simp [Array.getElem?_eq_none h'] at h1
      have h2 := cOp_put hoj (hfree j oj hoj hji hjun hnot) (fun cs b => hsel i oi cs b hi) (fun cs b => hsel j oj cs b hoj) hw hy h1
      have hfree' : ∀ k ok, ops[k]? = some ok → k ≠ i → (listed.setIfInBounds j true).getD k true = false →
          (∀ e ∈ ok.after, Region.binds .any e = true → e.on ≠ i) → oi.apart ops ok = true := fun k ok hk hki hun hno => by
        refine hfree k ok hk hki ?_ hno
        by_cases hjk : j = k
        · subst hjk; exact hjun
        · rw [getD_set_ne true hjk] at hun; exact hun
      refine cOp_mono (fun a' w' h3 => ih (listed.setIfInBounds j true) a' w' hfree' (ready_mono hr (Ne.symm hji)) h3.1.1 h3.1.2 ?_) h2
      rw [Array.setIfInBounds_comm _ _ hji]
      exact h3.2
end
section
variable {P : Program} {ops : Array Oper} {C : World → Prop} {R : Exit → Act → World → Prop} [Dr]
end
def JN [Dr] (P : Program) (n : Nn) (w0 : World) (F : Nat → Prop) (ops : List Oper) (Δ : List Fact) (fuel : Nat) (done : List Bool) (Q : Cont) (e : E) (Γ : List Fact) : Prop :=
  ∀ a w, Fr n e a → Hold w0 F Γ w → cAny P ⟨ops⟩ (Hold w0 F Δ) (up n w0 F Q) fuel ⟨done⟩ a w
section
variable {P : Program} {n : Nn} {w0 : World} {F : Nat → Prop} {ops : List Oper} {Δ : List Fact} {fuel i d : Nat} {done done' : List Bool} {t : TypeId} {pos : String} {aft : Array Edge} {g : Option (Nat × Bool)} {Q : Cont} {e : E} {Γ : List Fact} [Dr]
theorem JC.drawN {id : Nat} (Δ : List Fact) (hm : P.follows .mixedOrders = true) (h : JN P n w0 F ops Δ ops.length (List.replicate ops.length false) Q e Γ) : JC P n w0 F (.region id ⟨ops⟩ true) Q e Γ := by
  intro a w fr ho
  refine wp_region_any hm ?_
  have := cAny_wp _ _ _ _ (h a w.drew fr ho.drew)
  have e1 : (⟨List.replicate ops.length false⟩ : Array Bool) = Array.replicate (⟨ops⟩ : Array Oper).size false := by apply Array.ext'; simp
  rw [← e1]
  exact this
theorem JN.nil (hr : Region.ready .any ⟨ops⟩ ⟨done⟩ = []) (h : Q .normal e Γ) : JN P n w0 F ops Δ fuel done Q e Γ := by
  intro a w fr ho
  cases fuel with
  | zero => exact ⟨hr, e, Γ, h, fr, ho⟩
  | succ fuel => exact ⟨fun _ => ⟨e, Γ, h, fr, ho⟩, by rw [hr]; simp⟩
def takeOkN (ops : List Oper) (done : List Bool) (i : Nat) : Bool :=
  Region.noSelect ⟨ops⟩ && Region.free .any ⟨ops⟩ ⟨done⟩ i && (Region.ready .any ⟨ops⟩ ⟨done⟩).contains i
theorem JN.take {op : Op} {v : Value} (i : Nat) (hi : ops[i]? = some ⟨some d, op, t, pos, aft, g⟩) (hok : takeOkN ops done i = true) (hg : gtest ops e g = some true) [hs : Sub Γ Δ] (h : OpV P n w0 F ⟨some d, op, t, pos, aft, g⟩ e Δ v) (hd : Nat.blt d n.s = true)
    (hdone : done.set i true = done') (k : JN P n w0 F ops Δ fuel done' Q ((d, v) :: e) Γ) : JN P n w0 F ops Δ (fuel + 1) done Q e Γ := by
  intro a w fr ho
  simp only [takeOkN, Bool.and_eq_true] at hok
  obtain ⟨⟨h2, h3⟩, h4⟩ := hok
  have hi' : (⟨ops⟩ : Array Oper)[i]? = some ⟨some d, op, t, pos, aft, g⟩ := by simpa using hi
  refine cAny_first hi' (Region.noSelect_spec h2) fuel ⟨done⟩ a w (Region.free_spec hi' h3) (by simpa using h4) (ho.sub hs) ⟨gtest_ok (o := ⟨some d, op, t, pos, aft, g⟩) hg fr, fun w ho => h a w fr ho⟩ ?_
  have := k _ w (fr.put hd v) ho
  rw [← hdone] at this
  simpa using this
theorem JN.reslot (s : Nat) {v : Value} (u : Value) [hs : Lk e s v] (h : v = u) (k : JN P n w0 F ops Δ fuel done Q ((s, u) :: e) Γ) : JN P n w0 F ops Δ fuel done Q e Γ :=
  fun a w fr ho => k a w (fr.again (by rw [← h]; exact hs.ok)) ho
theorem JN.more {Γ' : List Fact} (h : ∀ w, Hold w0 F Γ w → Hold w0 F Γ' w) (k : JN P n w0 F ops Δ fuel done Q e Γ') : JN P n w0 F ops Δ fuel done Q e Γ :=
  fun a w fr ho => k a w fr (h w ho)
theorem opN {o : Oper} (i : Nat) (hi : ops[i]? = some o) (hg : gtest ops e o.guard = some true)
    (h : JR P n w0 F ⟨[o]⟩ 0 o [] (fun x e' Γ' => x = .normal ∧ Sub Γ' Δ ∧ JN P n w0 F ops Δ fuel (done.set i true) Q e' Γ') e Γ) (a : Act) (w : World) (fr : Fr n e a) (ho : Hold w0 F Γ w) :
    cOp P ⟨ops⟩ (Hold w0 F Δ) i (cAny P ⟨ops⟩ (Hold w0 F Δ) (up n w0 F Q) fuel ((⟨done⟩ : Array Bool).setIfInBounds i true)) a w := by
  have hi' : (⟨ops⟩ : Array Oper)[i]? = some o := by simpa using hi
  unfold cOp
  simp only [hi']
  rw [if_pos (gtest_ok hg fr)]
  have h1 := h rfl a w fr ho
  have key : ∀ (K K' : Act → World → Prop) (Q1 Q2 : Exit → Act → World → Prop), (∀ a w, K a w → K' a w) → (∀ x a w, Q1 x a w → x = .normal) → o.wp P a w K Q1 → o.wp P a w K' Q2 := by
    intro K K' Q1 Q2 hk hq hh
    have hh' := Oper.wp_mono (P := P) hk hh
    unfold Oper.wp at *
    generalize (execOp a.eval o).run P w = r at *
    cases r with
    | ok n w' =>
      cases n <;> simp only [Oper.upon] at hh' ⊢ <;> first | exact hh' | skip
      refine Calls.mono hh' fun e w'' he => ?_
      cases e with
      | returned v => exact he
      | panicked c => have := hq _ _ _ he; cases this
      | outgrown => obtain ⟨_, _, h⟩ := he; have := hq _ _ _ h; cases this
    | halt x w' => cases x <;> simp only [Oper.upon] at hh' ⊢ <;> first | exact hh' | (have := hq _ _ _ hh'; cases this)
  refine key _ _ _ _ (fun a' w' hk => ?_) ?_ h1
  · simp only [List.range'_zero, List.length_nil, wpOps] at hk
    obtain ⟨e', Γ', ⟨_, hs, hj⟩, fr', ho'⟩ := hk
    have := hj a' w' fr' ho'
    exact ⟨fun _ => ho'.sub hs, by simpa using this⟩
  · rintro x a w ⟨e', Γ', ⟨hx, _⟩, _⟩
    exact hx
theorem JN.op {o : Oper} (i : Nat) (hr : Region.ready .any ⟨ops⟩ ⟨done⟩ = [i]) (hi : ops[i]? = some o) (hg : gtest ops e o.guard = some true)
    (h : JR P n w0 F ⟨[o]⟩ 0 o [] (fun x e' Γ' => x = .normal ∧ Sub Γ' Δ ∧ JN P n w0 F ops Δ fuel (done.set i true) Q e' Γ') e Γ) : JN P n w0 F ops Δ (fuel + 1) done Q e Γ := by
  intro a w fr ho
  refine ⟨fun h0 => ?_, fun j hj => ?_⟩
  · rw [h0] at hr; cases hr
  · rw [hr] at hj
    simp only [List.mem_singleton] at hj; subst hj
    exact opN j hi hg h a w fr ho
theorem JN.both {o o' : Oper} (i j : Nat) (hr : Region.ready .any ⟨ops⟩ ⟨done⟩ = [i, j]) (hi : ops[i]? = some o) (hj : ops[j]? = some o') (hg : gtest ops e o.guard = some true) (hg' : gtest ops e o'.guard = some true)
    (h : JR P n w0 F ⟨[o]⟩ 0 o [] (fun x e' Γ' => x = .normal ∧ Sub Γ' Δ ∧ JN P n w0 F ops Δ fuel (done.set i true) Q e' Γ') e Γ)
    (h' : JR P n w0 F ⟨[o']⟩ 0 o' [] (fun x e' Γ' => x = .normal ∧ Sub Γ' Δ ∧ JN P n w0 F ops Δ fuel (done.set j true) Q e' Γ') e Γ) : JN P n w0 F ops Δ (fuel + 1) done Q e Γ := by
  intro a w fr ho
  refine ⟨fun h0 => ?_, fun k hk => ?_⟩
  · rw [h0] at hr; cases hr
  · rw [hr] at hk
    simp only [List.mem_cons, List.not_mem_nil, or_false] at hk
    rcases hk with rfl | rfl
    · exact opN k hi hg h a w fr ho
    · exact opN k hj hg' h' a w fr ho
end
end Ab
end Go.Proofs.YtdgeffphifgflaaGreat
namespace Go.Proofs.YtdgeffphifgflaaGreat
namespace Ab
open Go Go.RowKit
set_option linter.unusedVariables false
set_option linter.unusedSimpArgs false
set_option synthInstance.maxSize 4000
set_option synthInstance.maxHeartbeats 400000
attribute [local irreducible] JC JO JR JQ andThen inBlock OpV Gives retTo JM JS
attribute [local irreducible] JN
attribute [local irreducible] ents hashC graphA
abbrev AddY (R : List Row) (c : Commit) := { y : List ID × Nat × Bool // y.2.2 = (addOk (grOf R) c && addGen (grOf R) c) ∧ (y.2.2 = true → y.1.Nodup ∧ isKnown (grOf R) c y.1) }
abbrev addB (bo bk : Nat) (R : List Row) (c : Commit) (a : Option Addr) (k : Nat) (Γ : List Fact) (S : List ID) (ba : Nat) : List Fact :=
  .omap bo (ents idV (ofM (R ++ [((c, S), (a, k, ba))]))) (ofM (R ++ [((c, S), (a, k, ba))])).length :: .omap bk (ents idV (knM (R ++ [((c, S), (a, k, ba))]))) (knM (R ++ [((c, S), (a, k, ba))])).length :: .st (graphA (R ++ [((c, S), (a, k, ba))])) :: Γ
set_option maxHeartbeats 4000000 in
theorem add_graph {w0 w : World} {F : Nat → Prop} {Γ : List Fact} {bo bk : Nat} {R : List Row} {c : Commit} {a : Option Addr} {k : Nat}
    (hn : (cids (nodes (grOf R))).Nodup) (hS : ∀ r ∈ R, r.1.2.Nodup) (hnew : idC c ∉ cids (nodes (grOf R))) (hg : ∀ r ∈ R, 0 ≤ r.1.1.gen ∧ r.1.1.gen ≤ 1048576)
    (ho : Hold w0 F (.omap bo (ents idV (ofM R)) (ofM R).length :: .omap bk (ents idV (knM R)) (knM R).length :: .st (graphA R) :: .st (sl a k c.parents) :: Γ) w) :
    Calls Tryz.prog 135 ⟨[.agg ⟨[.map (some bo), .map (some bk)]⟩, .agg ⟨idc (idC c)⟩, commitV c a k]⟩ w fun x w' =>
      ∃ y : AddY R c, x = .returned (.bool y.1.2.2) ∧ Hold w0 F (if y.1.2.2 = true then addB bo bk R c a k Γ y.1.1 y.1.2.1 else Γ) w' := by
  have hpl : c.parents.length < 9223372036854775807 := by
    have h1 : (sl a k c.parents).holds _ w := ho.sat (.st (sl a k c.parents)) (by simp)
    have := h1.2.2.1; simp only [lim] at this; omega
  have hkO : ((ofM R).map (·.1)).Nodup := by rw [ofM_keys]; exact hn
  have hkK : ((knM R).map (·.1)).Nodup := by rw [knM_keys]; exact hn
  refine calls_of (v := fun y : AddY R c => .bool y.1.2.2) (B := fun y => if y.1.2.2 = true then addB bo bk R c a k Γ y.1.1 y.1.2.1 else Γ) Tryz.func135 rfl Tryz.ntmps135 rfl rfl _ ho ?_
  repeat (first|refine Wa ?_|refine Wb ?_|refine Wc ?_|refine Wd ?_|refine We rfl ?_|refine Wf (by exact Vb) rfl ?_|(refine Wh rfl ?_; intro _))
  rename_i b3 b4 b5
  refine JR.makeSet idV rfl ?_
  intro ba
  repeat (first|refine Wa ?_|refine Wb ?_|refine Wc ?_|refine Wd ?_|refine We rfl ?_|refine Wf (by first|exact Va|exact Vb|exact Vc|exact Vd|exact Vf) rfl ?_|refine Wn ?_)
  refine JC.loop3 (fun (i : Nat) (A : List ID) (g : Int) => [(3, .pointer (some ⟨b3, 0, none⟩)), (4, .pointer (some ⟨b4, 0, none⟩)), (5, .pointer (some ⟨b5, 0, none⟩)), (7, .int .i64 g), (8, .map (some ba)), (20, .slice a c.parents.length k), (21, .int .i64 (c.parents.length : Int)), (22, .int .i64 (i : Int))])
    (fun i A g => .omap bo (ents idV (ofM R)) (ofM R).length :: .omap bk (ents idV (knM R)) (knM R).length :: .own b3 101 [.map (some bo), .map (some bk)] :: .own b4 81 (idc (idC c)) :: .own b5 29 [.int .i64 c.ev.node, .int .i64 c.ev.seq, .int .i64 c.gen, .slice a c.parents.length k, .int .i64 c.op.kind, .string c.op.key, .string c.op.elem, .int .i64 c.op.n] :: .omap ba (ents idV (sety A)) A.length :: .st (graphA R) :: .st (sl a k c.parents) :: Γ)
    (fun i A g => i ≤ c.parents.length ∧ A.Nodup ∧ (∀ p ∈ c.parents.take i, p ∈ cids (nodes (grOf R))) ∧ (∀ x, x ∈ A ↔ ∃ p ∈ c.parents.take i, x ∈ knownBy (grOf R) p) ∧ g = maxGen (nodes (grOf R)) (c.parents.take i) ∧ 0 ≤ g ∧ g ≤ 1048576)
    (fun i _ _ => c.parents.length - i) 0 [] 0 ⟨Nat.zero_le _, List.nodup_nil, by simp, by simp, by simp [maxGen], by decide, by decide⟩ inferInstance ?_
  intro i A g ⟨hi, hA, hin, hmem, hmax, hg0, hg1⟩
  repeat (first|refine Wa ?_|refine Wb ?_|refine Wc ?_|refine Wd ?_|refine We rfl ?_|refine Wf (by exact Vg) rfl ?_)
  refine JC.test (fun hlt => ?_) (fun hge => ?_)
  · have hlt' : i < c.parents.length := by omega
    repeat (first|refine Wa ?_|refine Wb ?_|refine Wc ?_|refine We rfl ?_|refine Wl ?_|refine Wn ?_)
    refine JR.indexID rfl hlt' ?_
    intro bp op
    repeat (first|refine Wa ?_|refine Wb ?_|refine Wc ?_|refine Wd ?_|refine We rfl ?_|refine Wf (by first|exact Vc|exact Vd) rfl ?_|(refine Wg rfl ?_; intro _)|refine Wi ?_)
    have hpm : c.parents[i] ∈ c.parents := List.getElem_mem hlt'
    by_cases hin' : c.parents[i] ∈ cids (nodes (grOf R))
    · obtain ⟨r, hr, hre, hgo, hgk, hkn⟩ := row_of hn hin'
      have hga : genAt (nodes (grOf R)) c.parents[i] = r.1.1.gen := by
        rw [← hre]; exact genAt_of hn (by rw [nodes_gr]; exact List.mem_map.2 ⟨r, hr, rfl⟩)
      obtain ⟨hr0, hr1⟩ := hg r hr
      refine Wf (OpV.lookupOk (M := ofM R) (v := commitV r.1.1 r.2.1 r.2.2.1) (is := true) c.parents[i] hkO (by rw [hgo]; rfl) (by rw [hgo]; rfl)) rfl ?_
      repeat (first|refine Wa ?_|refine Wb ?_|refine Wc ?_|refine Wd ?_|refine We rfl ?_|refine Wf (by first|exact Va|exact Vb|exact Vc|exact Vh|exact Vq) rfl ?_|(refine Wg rfl ?_; intro _)|refine Wi ?_)
      refine Wf (OpV.setHas (L := A) c.parents[i] hA) rfl ?_
      repeat (first|refine Wa ?_|refine Wd ?_|refine We rfl ?_|refine Wf (by exact Vj) rfl ?_)
      refine JC.test (fun hy => ?_) (fun hno => ?_)
      · obtain ⟨q, hq, hqk⟩ := (hmem _).1 (by simpa using hy)
        repeat (first|refine Wa ?_|refine Wb ?_|refine Wc ?_|refine Wd ?_|refine We rfl ?_|refine Wf (by exact Vb) rfl ?_|refine Ws ?_|refine Wt ?_|refine Wu ?_)
        exact CT.done ⟨([], 0, false), by rw [not_ok_of_known hpm (List.mem_of_mem_take hq) hqk]; rfl, by simp⟩ rfl (fun w ho => (ho.ent : Hold w0 F Γ w))
      · repeat (first|refine Wa ?_|refine Wb ?_|refine Wc ?_|refine We rfl ?_|refine Wf (by first|exact Va|exact Vc|exact Vd) rfl ?_|refine Wl ?_)
        refine Wf OpV.max rfl ?_
        repeat (first|refine Wa ?_|refine Wb ?_|refine Wc ?_|refine Wd ?_|refine We rfl ?_|refine Wf (by first|exact Vb|exact Vc|exact Vd) rfl ?_)
        refine Wf (OpV.lookupNo (M := knM R) (v := .map (some r.2.2.2)) c.parents[i] hkK (by rw [hgk]; rfl)) rfl ?_
        refine JO.more (fun w1 ho => ho.add (A := rmap r.2.2.2 (ents idV (sety r.1.2)) r.1.2.length) (graph_row (ho.get (A := graphA R)) hr).2) ?_
        refine We rfl ?_
        refine JR.rangeS rfl ?_
        intro ri
        repeat (first|refine Wa ?_|refine Wd ?_|refine Wn ?_)
        refine JC.loop2 (fun (S : List Nat) (A' : List ID) => [(3, .pointer (some ⟨b3, 0, none⟩)), (4, .pointer (some ⟨b4, 0, none⟩)), (5, .pointer (some ⟨b5, 0, none⟩)), (7, .int .i64 (max g r.1.1.gen)), (8, .map (some ba)), (20, .slice a c.parents.length k), (21, .int .i64 (c.parents.length : Int)), (22, .int .i64 (i : Int)), (48, .pointer (some ⟨ri, 0, none⟩))])
          (fun S A' => .omap bo (ents idV (ofM R)) (ofM R).length :: .omap bk (ents idV (knM R)) (knM R).length :: .own b3 101 [.map (some bo), .map (some bk)] :: .own b4 81 (idc (idC c)) :: .own b5 29 [.int .i64 c.ev.node, .int .i64 c.ev.seq, .int .i64 c.gen, .slice a c.parents.length k, .int .i64 c.op.kind, .string c.op.key, .string c.op.elem, .int .i64 c.op.n] :: .omap ba (ents idV (sety A')) A'.length :: .obj ri (.mapIter (some r.2.2.2) r.1.2.length S.toArray r.1.2.length) :: .st (rmap r.2.2.2 (ents idV (sety r.1.2)) r.1.2.length) :: .st (graphA R) :: .st (sl a k c.parents) :: Γ)
          (fun S A' => S.Nodup ∧ (∀ j ∈ S, j < r.1.2.length) ∧ A'.Nodup ∧ ∀ x, x ∈ A' ↔ x ∈ A ∨ ∃ j ∈ S, r.1.2[j]? = some x)
          (fun S _ => r.1.2.length - S.length) [] A ⟨List.nodup_nil, by simp, hA, by simp⟩ inferInstance ?_
        intro S A' ⟨hS1, hS2, hA', hmem'⟩
        have hSl : S.length ≤ r.1.2.length := nodup_le hS1 hS2
        repeat (first|refine Wb ?_|refine Wc ?_|refine We rfl ?_)
        refine JR.nextS rfl hS2 (fun hall => ?_) (fun j hj hjS => ?_)
        · repeat (first|refine Wa ?_|refine Wb ?_|refine Wc ?_|refine Wd ?_|refine We rfl ?_|refine Wf (by first|exact Va|exact Vk (by omega)|exact Vq) rfl ?_|refine Wk ?_|refine Wm ?_|refine Wo ?_|refine Wp ?_|refine Wr ?_)
          refine ⟨i + 1, A', max g r.1.1.gen, ⟨by omega, hA', fun p hp => ?_, fun x => ?_, ?_, by omega, by omega⟩, by omega, inferInstance⟩
          · rcases (mem_take_succ hlt').1 hp with hp | rfl
            · exact hin p hp
            · exact hin'
          · rw [hmem', hmem]
            constructor
            · rintro (⟨q, hq, hx⟩ | ⟨j, hj, hx⟩)
              · exact ⟨q, (mem_take_succ hlt').2 (.inl hq), hx⟩
              · exact ⟨c.parents[i], (mem_take_succ hlt').2 (.inr rfl), by rw [hkn]; exact List.mem_of_getElem? hx⟩
            · rintro ⟨q, hq, hx⟩
              rcases (mem_take_succ hlt').1 hq with hq | rfl
              · exact .inl ⟨q, hq, hx⟩
              · rw [hkn] at hx
                obtain ⟨j, hj, rfl⟩ := List.getElem_of_mem hx
                exact .inr ⟨j, hall j hj, List.getElem?_eq_getElem hj⟩
          · rw [List.take_succ_eq_append_getElem hlt', maxGen_snoc, ← hmax, hga]
        · repeat (first|refine Wa ?_|refine Wb ?_|refine Wc ?_|refine Wd ?_|refine We rfl ?_|refine Wf (by exact Vq) rfl ?_|refine Wj ?_|refine Wl ?_|refine Wn ?_)
          refine Wf (OpV.entryS hj) rfl ?_
          repeat (first|refine Wa ?_|refine Wc ?_|refine Wd ?_|refine We rfl ?_|refine Wf (by first|exact Va|exact Vc|exact Vq) rfl ?_|(refine Wg rfl ?_; intro _)|refine Wi ?_)
          refine JR.setAdd r.1.2[j] hA' ?_
          have hS3 : (S ++ [j]).Nodup := List.nodup_append.2 ⟨hS1, by simp, fun x hx y hy => by simp at hy; subst hy; exact fun e => hjS (e ▸ hx)⟩
          have hS4 : ∀ i ∈ S ++ [j], i < r.1.2.length := fun i hi => by
            rcases List.mem_append.1 hi with hi | hi
            · exact hS2 i hi
            · simp at hi; subst hi; exact hj
          have hlt2 := nodup_le hS3 hS4
          repeat (first|refine Wa ?_|refine Wd ?_|refine Wr ?_)
          refine ⟨S ++ [j], addK A' r.1.2[j], ⟨hS3, hS4, addK_nodup hA' _, fun x => ?_⟩, by simp at hlt2 ⊢; omega, inferInstance⟩
          rw [mem_addK, hmem']
          constructor
          · rintro ((h | ⟨q, hq, hx⟩) | rfl)
            · exact .inl h
            · exact .inr ⟨q, by simp [hq], hx⟩
            · exact .inr ⟨j, by simp, List.getElem?_eq_getElem hj⟩
          · rintro (h | ⟨q, hq, hx⟩)
            · exact .inl (.inl h)
            · rcases List.mem_append.1 hq with hq | hq
              · exact .inl (.inr ⟨q, hq, hx⟩)
              · simp at hq; subst hq
                rw [List.getElem?_eq_getElem hj] at hx
                injection hx with hx
                exact .inr hx.symm
    · obtain ⟨hgo, hgk⟩ := row_none hin'
      refine Wf (OpV.lookupOk (M := ofM R) (v := .agg ⟨[.int .i64 0, .int .i64 0, .int .i64 0, .slice none 0 0, .int .i64 0, .string .empty, .string .empty, .int .i64 0]⟩) (is := false) c.parents[i] hkO (by rw [hgo]; rfl) (by rw [hgo]; rfl)) rfl ?_
      repeat (first|refine Wa ?_|refine Wb ?_|refine Wc ?_|refine Wd ?_|refine We rfl ?_|refine Wf (by first|exact Va|exact Vb|exact Vh|exact Vi|exact Vq) rfl ?_|(refine Wg rfl ?_; intro _)|refine Wi ?_|refine Wj ?_|refine Ws ?_|refine Wt ?_|refine Wu ?_|refine Wv rfl rfl ?_)
      exact CT.done ⟨([], 0, false), by rw [not_ok_of_none hpm hin']; rfl, by simp⟩ rfl (fun w ho => (ho.ent : Hold w0 F Γ w))
  · obtain rfl : i = c.parents.length := by omega
    rw [List.take_length] at hin hmem hmax
    repeat (first|refine Wa ?_|refine Wb ?_|refine Wc ?_|refine Wd ?_|refine We rfl ?_|refine Wf (by first|exact Va|exact Vc|exact Vd|exact Vf) rfl ?_|refine Wm ?_|refine Wn ?_|refine Wo ?_|refine Wp ?_)
    refine JC.loop1 (fun (i : Nat) => [(3, .pointer (some ⟨b3, 0, none⟩)), (4, .pointer (some ⟨b4, 0, none⟩)), (5, .pointer (some ⟨b5, 0, none⟩)), (7, .int .i64 g), (8, .map (some ba)), (57, .slice a c.parents.length k), (58, .int .i64 (c.parents.length : Int)), (59, .int .i64 (i : Int))])
      (fun i => .omap bo (ents idV (ofM R)) (ofM R).length :: .omap bk (ents idV (knM R)) (knM R).length :: .own b3 101 [.map (some bo), .map (some bk)] :: .own b4 81 (idc (idC c)) :: .own b5 29 [.int .i64 c.ev.node, .int .i64 c.ev.seq, .int .i64 c.gen, .slice a c.parents.length k, .int .i64 c.op.kind, .string c.op.key, .string c.op.elem, .int .i64 c.op.n] :: .omap ba (ents idV (sety A)) A.length :: .st (graphA R) :: .st (sl a k c.parents) :: Γ)
      (fun i => i ≤ c.parents.length ∧ ∀ p ∈ c.parents.take i, p ∉ A) (fun i => c.parents.length - i) 0 ⟨Nat.zero_le _, by simp⟩ inferInstance ?_
    intro i ⟨hi, hfree⟩
    repeat (first|refine Wa ?_|refine Wb ?_|refine Wc ?_|refine Wd ?_|refine We rfl ?_|refine Wf (by exact Vg) rfl ?_)
    refine JC.test (fun hlt => ?_) (fun hge => ?_)
    · have hlt' : i < c.parents.length := by omega
      repeat (first|refine Wa ?_|refine Wb ?_|refine Wc ?_|refine We rfl ?_|refine Wl ?_|refine Wn ?_)
      refine JR.indexID rfl hlt' ?_
      intro bp op
      repeat (first|refine Wa ?_|refine Wb ?_|refine Wc ?_|refine Wd ?_|refine We rfl ?_|refine Wf (by first|exact Va|exact Vc) rfl ?_|(refine Wg rfl ?_; intro _)|refine Wi ?_)
      refine Wf (OpV.setHas (L := A) c.parents[i] hA) rfl ?_
      repeat (first|refine Wa ?_|refine Wd ?_)
      refine JC.test (fun hy => ?_) (fun hno => ?_)
      · obtain ⟨q, hq, hqk⟩ := (hmem _).1 (by simpa using hy)
        repeat (first|refine Wa ?_|refine Wb ?_|refine Wc ?_|refine Wd ?_|refine We rfl ?_|refine Wf (by exact Vb) rfl ?_|refine Ws ?_|refine Wt ?_|refine Wu ?_)
        exact CT.done ⟨([], 0, false), by rw [not_ok_of_known (List.getElem_mem hlt') hq hqk]; rfl, by simp⟩ rfl (fun w ho => (ho.ent : Hold w0 F Γ w))
      · repeat (first|refine Wa ?_|refine Wc ?_|refine Wd ?_|refine We rfl ?_|refine Wf (by first|exact Va|exact Vk (by omega)) rfl ?_|refine Wl ?_|refine Wr ?_)
        refine ⟨i + 1, ⟨by omega, fun p hp => ?_⟩, by omega, inferInstance⟩
        rcases (mem_take_succ hlt').1 hp with hp | rfl
        · exact hfree p hp
        · simpa using hno
    · obtain rfl : i = c.parents.length := by omega
      rw [List.take_length] at hfree
      have hok : addOk (grOf R) c = true := (addOk_iff _ _).2 ⟨hin, fun p hp q hq hk => hfree p hp ((hmem p).2 ⟨q, hq, hk⟩)⟩
      repeat (first|refine Wa ?_|refine Wb ?_|refine Wc ?_|refine Wd ?_|refine We rfl ?_|refine Wf (by first|exact Va|exact Vc|exact Vd|exact Vf) rfl ?_|refine Wm ?_|refine Wn ?_|refine Wo ?_|refine Wp ?_)
      refine JC.loop2 (fun (i : Nat) (A' : List ID) => [(3, .pointer (some ⟨b3, 0, none⟩)), (4, .pointer (some ⟨b4, 0, none⟩)), (5, .pointer (some ⟨b5, 0, none⟩)), (7, .int .i64 g), (8, .map (some ba)), (68, .slice a c.parents.length k), (69, .int .i64 (c.parents.length : Int)), (70, .int .i64 (i : Int))])
        (fun i A' => .omap bo (ents idV (ofM R)) (ofM R).length :: .omap bk (ents idV (knM R)) (knM R).length :: .own b3 101 [.map (some bo), .map (some bk)] :: .own b4 81 (idc (idC c)) :: .own b5 29 [.int .i64 c.ev.node, .int .i64 c.ev.seq, .int .i64 c.gen, .slice a c.parents.length k, .int .i64 c.op.kind, .string c.op.key, .string c.op.elem, .int .i64 c.op.n] :: .omap ba (ents idV (sety A')) A'.length :: .st (graphA R) :: .st (sl a k c.parents) :: Γ)
        (fun i A' => i ≤ c.parents.length ∧ A'.Nodup ∧ ∀ x, x ∈ A' ↔ x ∈ A ∨ x ∈ c.parents.take i) (fun i _ => c.parents.length - i) 0 A ⟨Nat.zero_le _, hA, by simp⟩ inferInstance ?_
      intro i A' ⟨hi, hA', hmem'⟩
      repeat (first|refine Wa ?_|refine Wb ?_|refine Wc ?_|refine Wd ?_|refine We rfl ?_|refine Wf (by exact Vg) rfl ?_)
      refine JC.test (fun hlt => ?_) (fun hge => ?_)
      · have hlt' : i < c.parents.length := by omega
        repeat (first|refine Wa ?_|refine Wb ?_|refine Wc ?_|refine We rfl ?_|refine Wl ?_|refine Wn ?_)
        refine JR.indexID rfl hlt' ?_
        intro bp op
        repeat (first|refine Wa ?_|refine Wc ?_|refine Wd ?_|refine We rfl ?_|refine Wf (by first|exact Va|exact Vc) rfl ?_|(refine Wg rfl ?_; intro _)|refine Wi ?_)
        refine JR.setAdd c.parents[i] hA' ?_
        repeat (first|refine Wa ?_|refine Wc ?_|refine Wd ?_|refine We rfl ?_|refine Wf (by first|exact Va|exact Vk (by omega)) rfl ?_|refine Wr ?_)
        refine ⟨i + 1, addK A' c.parents[i], ⟨by omega, addK_nodup hA' _, fun x => ?_⟩, by omega, inferInstance⟩
        rw [mem_addK, hmem', mem_take_succ hlt', or_assoc]
      · obtain rfl : i = c.parents.length := by omega
        rw [List.take_length] at hmem'
        repeat (first|refine Wa ?_|refine Wb ?_|refine Wm ?_|refine Wo ?_|refine Wp ?_)
        have hkn : isKnown (grOf R) c A' := fun x => by
          rw [hmem', hmem]
          constructor
          · rintro (⟨q, hq, hx⟩ | h)
            · exact ⟨q, hq, .inr hx⟩
            · exact ⟨x, h, .inl rfl⟩
          · rintro ⟨q, hq, (rfl | hx)⟩
            · exact .inr hq
            · exact .inl ⟨q, hq, hx⟩
        have eO : upd (ofM R) (idC c) (.agg ⟨[.int .i64 c.ev.node, .int .i64 c.ev.seq, .int .i64 c.gen, .slice a c.parents.length k, .int .i64 c.op.kind, .string c.op.key, .string c.op.elem, .int .i64 c.op.n]⟩) = ofM (R ++ [((c, A'), (a, k, ba))]) := by
          rw [upd_new _ (by rw [ofM_keys]; exact hnew), ofM_snoc]
        have eK : upd (knM R) (idC c) (.map (some ba)) = knM (R ++ [((c, A'), (a, k, ba))]) := by
          rw [upd_new _ (by rw [knM_keys]; exact hnew), knM_snoc]
        refine JC.drawN [.own b3 101 [.map (some bo), .map (some bk)], .own b4 81 (idc (idC c)), .own b5 29 [.int .i64 c.ev.node, .int .i64 c.ev.seq, .int .i64 c.gen, .slice a c.parents.length k, .int .i64 c.op.kind, .string c.op.key, .string c.op.elem, .int .i64 c.op.n]] mixed ?_
        refine JN.take 0 rfl (by kernel_rfl) rfl Vd rfl rfl ?_
        refine JN.take 1 rfl (by kernel_rfl) rfl Vc rfl rfl ?_
        refine JN.take 2 rfl (by kernel_rfl) rfl Vc rfl rfl ?_
        refine JN.take 3 rfl (by kernel_rfl) rfl Vd rfl rfl ?_
        refine JN.take 4 rfl (by kernel_rfl) rfl Vc rfl rfl ?_
        refine JN.take 5 rfl (by kernel_rfl) rfl Vc rfl rfl ?_
        refine JN.take 6 rfl (by kernel_rfl) rfl Vc rfl rfl ?_
        refine JN.take 7 rfl (by kernel_rfl) rfl Va rfl rfl ?_
        refine JN.op 8 (by kernel_rfl) rfl rfl (JR.mapUpdate_ (M := ofM R) (k := idC c) (.inl rfl) hkO (Wd ⟨rfl, inferInstance, ?_⟩))
        refine JN.op 9 (by kernel_rfl) rfl rfl (JR.mapUpdate_ (M := knM R) (k := idC c) (.inl rfl) hkK (Wd ⟨rfl, inferInstance, ?_⟩))
        refine JN.nil (by kernel_rfl) ?_
        rw [eO, eK]
        repeat (first|refine Wa ?_|refine Wb ?_|refine Wc ?_|refine Wd ?_|refine We rfl ?_|refine Wf (by first|exact Va|exact Vb|exact Vc|exact Vd|exact Vl|exact Vt (by omega)) rfl ?_|refine Ws ?_)
        refine CT.done ⟨(A', ba, decide (c.gen = g + 1)), by rw [hok, hmax]; rfl, fun _ => ⟨hA', hkn⟩⟩ rfl (fun w ho => ?_)
        have h1 : Hold _ _ (.omap ba (ents idV (sety A')) A'.length :: .omap bo (ents idV (ofM (R ++ [((c, A'), (a, k, ba))]))) (ofM (R ++ [((c, A'), (a, k, ba))])).length :: .omap bk (ents idV (knM (R ++ [((c, A'), (a, k, ba))]))) (knM (R ++ [((c, A'), (a, k, ba))])).length :: .st (graphA R) :: .st (sl a k c.parents) :: Γ) w := ho.ent
        have h2 := h1.pubMap
        have h3 := h2.add (graph_snoc (S := A') (h2.get (A := graphA R)) (h2.get (A := sl a k c.parents)) (h2.get (A := rmap ba (ents idV (sety A')) A'.length)))
        by_cases hb : c.gen = g + 1
        · rw [if_pos (by simpa using hb)]; exact h3.ent
        · rw [if_neg (by simpa using hb)]; exact h3.ent
end Ab
end Go.Proofs.YtdgeffphifgflaaGreat
namespace Go.Proofs.YtdgeffphifgflaaGreat
namespace Ab
open Go Go.RowKit
set_option linter.unusedVariables false
set_option linter.unusedSimpArgs false
set_option synthInstance.maxSize 4000
set_option synthInstance.maxHeartbeats 400000
attribute [local irreducible] JC JO JR JQ andThen inBlock OpV Gives retTo JM JS
attribute [local irreducible] ents hashC graphA
def evBad (r s : Row) : Bool := decide (idC r.1.1 ≠ idC s.1.1) && decide (r.1.1.ev.node = s.1.1.ev.node) && (decide (r.1.1.ev.seq = s.1.1.ev.seq) || (decide (s.1.1.ev.seq < r.1.1.ev.seq) && decide (idC s.1.1 ∉ r.1.2)))
def evG (R : List Row) : Bool := R.all fun r => R.all fun s => !evBad r s
theorem ofM_get (R : List Row) (j : Nat) (h : j < (ofM R).length) : (ofM R)[j] = (idC (R[j]'(by simpa [ofM] using h)).1.1, commitV (R[j]'(by simpa [ofM] using h)).1.1 (R[j]'(by simpa [ofM] using h)).2.1 (R[j]'(by simpa [ofM] using h)).2.2.1) := by simp [ofM]
theorem ofM_length (R : List Row) : (ofM R).length = R.length := by simp [ofM]
theorem evG_false {R : List Row} {r s : Row} (hr : r ∈ R) (hs : s ∈ R) (h : evBad r s = true) : evG R = false := by
  rw [← Bool.not_eq_true]
  intro he
  have := List.all_eq_true.1 (List.all_eq_true.1 he r hr) s hs
  rw [h] at this; cases this
set_option maxHeartbeats 4000000 in
theorem events_graph (w : World) (F : Nat → Prop) (bo bk : Nat) (R : List Row) (hn : (cids (nodes (grOf R))).Nodup) (hS : ∀ r ∈ R, r.1.2.Nodup)
    (h1 : (rmap bo (ents idV (ofM R)) (ofM R).length).holds F w) (h2 : (rmap bk (ents idV (knM R)) (knM R).length).holds F w) (h3 : (graphA R).holds F w) :
    GivesV Tryz.prog 136 [.agg ⟨[.map (some bo), .map (some bk)]⟩] w F (.bool (evG R)) := by
  have hkK : ((knM R).map (·.1)).Nodup := by rw [knM_keys]; exact hn
  refine gives_of Tryz.func136 rfl Tryz.ntmps136 rfl rfl [.st (rmap bo (ents idV (ofM R)) (ofM R).length), .st (rmap bk (ents idV (knM R)) (knM R).length), .st (graphA R)] (.start3 h1 h2 h3) ?_
  repeat (first|refine Wa ?_|refine Wb ?_|refine Wc ?_|refine Wd ?_|refine We rfl ?_|refine Wf (by first|exact Vb|exact Vc|exact Vd) rfl ?_|(refine Wh rfl ?_; intro _))
  rename_i bg
  refine JR.range (M := ofM R) rfl ?_
  intro r1
  repeat (first|refine Wa ?_|refine Wd ?_|refine Wn ?_)
  refine JC.loop1 (fun (S : List Nat) => [(1, .pointer (some ⟨bg, 0, none⟩)), (9, .pointer (some ⟨r1, 0, none⟩))])
    (fun S => [.obj r1 (.mapIter (some bo) (ofM R).length S.toArray (ofM R).length), .own bg 101 [.map (some bo), .map (some bk)], .st (rmap bo (ents idV (ofM R)) (ofM R).length), .st (rmap bk (ents idV (knM R)) (knM R).length), .st (graphA R)])
    (fun S => S.Nodup ∧ (∀ j ∈ S, j < (ofM R).length) ∧ ∀ j ∈ S, ∀ hj : j < R.length, ∀ s ∈ R, evBad R[j] s = false) (fun S => (ofM R).length - S.length) [] ⟨List.nodup_nil, by simp, by simp⟩ inferInstance ?_
  intro S ⟨hS1, hS2, hok⟩
  repeat (first|refine Wb ?_|refine Wc ?_|refine We rfl ?_)
  refine JR.next (M := ofM R) rfl hS2 (fun hall => ?_) (fun j hj hjS => ?_)
  · have e1 : evG R = true := by
      refine List.all_eq_true.2 fun r hr => List.all_eq_true.2 fun s hs => ?_
      obtain ⟨j, hj, rfl⟩ := List.getElem_of_mem hr
      rw [hok j (hall j (by rw [ofM_length]; exact hj)) hj s hs]; rfl
    rw [e1]
    repeat (first|refine Wa ?_|refine Wb ?_|refine Wc ?_|refine Wd ?_|refine We rfl ?_|refine Wf (by first|exact Vb|exact Vq) rfl ?_|refine Wk ?_|refine Wm ?_|refine Wo ?_|refine Wp ?_|refine Ws ?_)
    exact CT.done () rfl (fun w ho => ho.ent)
  · have hjR : j < R.length := by rw [ofM_length] at hj; exact hj
    obtain ⟨r, hr⟩ : ∃ r, r = R[j] := ⟨_, rfl⟩
    have hrm : r ∈ R := by rw [hr]; exact List.getElem_mem hjR
    have eg := ofM_get R j hj
    rw [← hr] at eg
    have hS3 : (S ++ [j]).Nodup := List.nodup_append.2 ⟨hS1, by simp, fun x hx y hy => by simp at hy; subst hy; exact fun e => hjS (e ▸ hx)⟩
    have hS4 : ∀ i ∈ S ++ [j], i < (ofM R).length := fun i hi => by
      rcases List.mem_append.1 hi with hi | hi
      · exact hS2 i hi
      · simp at hi; subst hi; exact hj
    have hlt2 := nodup_le hS3 hS4
    repeat (first|refine Wa ?_|refine Wb ?_|refine Wc ?_|refine Wd ?_|refine We rfl ?_|refine Wf (by exact Vq) rfl ?_|refine Wj ?_|refine Wl ?_|refine Wn ?_)
    refine Wf (OpV.entry (M := ofM R) hj) rfl ?_
    refine JO.reslot 12 (.tuple ⟨[idV (idC r.1.1), commitV r.1.1 r.2.1 r.2.2.1]⟩) (by rw [eg]) ?_
    refine JO.more (fun w1 ho => (ho.add (A := sl r.2.1 r.2.2.1 r.1.1.parents) (graph_row (ho.get (A := graphA R)) hrm).1).add (A := rmap r.2.2.2 (ents idV (sety r.1.2)) r.1.2.length) (graph_row (ho.add (A := sl r.2.1 r.2.2.1 r.1.1.parents) (graph_row (ho.get (A := graphA R)) hrm).1 |>.get (A := graphA R)) hrm).2) ?_
    repeat (first|refine Wa ?_|refine Wb ?_|refine Wc ?_|refine Wd ?_|refine We rfl ?_|refine Wf (by first|exact Vc|exact Vd|exact Vq) rfl ?_|(refine Wg rfl ?_; intro _)|refine Wi ?_)
    rename_i b3 b4
    refine JR.range (M := ofM R) rfl ?_
    intro r2
    repeat (first|refine Wa ?_|refine Wd ?_|refine Wn ?_)
    refine JC.loop1 (fun (S2 : List Nat) => [(1, .pointer (some ⟨bg, 0, none⟩)), (9, .pointer (some ⟨r1, 0, none⟩)), (3, .pointer (some ⟨b3, 0, none⟩)), (4, .pointer (some ⟨b4, 0, none⟩)), (17, .pointer (some ⟨r2, 0, none⟩))])
      (fun S2 => [.obj r2 (.mapIter (some bo) (ofM R).length S2.toArray (ofM R).length), .own b3 81 (idc (idC r.1.1)), .own b4 29 [.int .i64 r.1.1.ev.node, .int .i64 r.1.1.ev.seq, .int .i64 r.1.1.gen, .slice r.2.1 r.1.1.parents.length r.2.2.1, .int .i64 r.1.1.op.kind, .string r.1.1.op.key, .string r.1.1.op.elem, .int .i64 r.1.1.op.n],
        .obj r1 (.mapIter (some bo) (ofM R).length (S ++ [j]).toArray (ofM R).length), .own bg 101 [.map (some bo), .map (some bk)], .st (rmap r.2.2.2 (ents idV (sety r.1.2)) r.1.2.length), .st (rmap bo (ents idV (ofM R)) (ofM R).length), .st (rmap bk (ents idV (knM R)) (knM R).length), .st (graphA R)])
      (fun S2 => S2.Nodup ∧ (∀ j ∈ S2, j < (ofM R).length) ∧ ∀ j ∈ S2, ∀ hj : j < R.length, evBad r R[j] = false) (fun S2 => (ofM R).length - S2.length) [] ⟨List.nodup_nil, by simp, by simp⟩ inferInstance ?_
    intro S2 ⟨hT1, hT2, hok2⟩
    repeat (first|refine Wb ?_|refine Wc ?_|refine We rfl ?_)
    refine JR.next (M := ofM R) rfl hT2 (fun hall => ?_) (fun i hi hiS => ?_)
    · repeat (first|refine Wa ?_|refine Wb ?_|refine Wd ?_|refine We rfl ?_|refine Wf (by exact Vq) rfl ?_|refine Wk ?_|refine Wm ?_|refine Wo ?_|refine Wp ?_|refine Wr ?_)
      refine ⟨S ++ [j], ⟨hS3, hS4, fun x hx hxR s hs => ?_⟩, by simp at hlt2 ⊢; omega, inferInstance⟩
      rcases List.mem_append.1 hx with hx | hx
      · exact hok x hx hxR s hs
      · simp only [List.mem_singleton] at hx
        subst hx
        obtain ⟨y, hy, rfl⟩ := List.getElem_of_mem hs
        rw [← hr]
        exact hok2 y (hall y (by rw [ofM_length]; exact hy)) hy
    · have hiR : i < R.length := by rw [ofM_length] at hi; exact hi
      obtain ⟨s, hs⟩ : ∃ s, s = R[i] := ⟨_, rfl⟩
      have hsm : s ∈ R := by rw [hs]; exact List.getElem_mem hiR
      have eg2 := ofM_get R i hi
      rw [← hs] at eg2
      have hT3 : (S2 ++ [i]).Nodup := List.nodup_append.2 ⟨hT1, by simp, fun x hx y hy => by simp at hy; subst hy; exact fun e => hiS (e ▸ hx)⟩
      have hT4 : ∀ x ∈ S2 ++ [i], x < (ofM R).length := fun x hx => by
        rcases List.mem_append.1 hx with hx | hx
        · exact hT2 x hx
        · simp at hx; subst hx; exact hi
      have hlt3 := nodup_le hT3 hT4
      have next : evBad r s = false → ∀ x ∈ S2 ++ [i], ∀ hx : x < R.length, evBad r R[x] = false := fun hb x hx hxR => by
        rcases List.mem_append.1 hx with hx | hx
        · exact hok2 x hx hxR
        · simp only [List.mem_singleton] at hx; subst hx; rw [← hs]; exact hb
      repeat (first|refine Wa ?_|refine Wb ?_|refine Wc ?_|refine Wd ?_|refine We rfl ?_|refine Wf (by exact Vq) rfl ?_|refine Wj ?_|refine Wl ?_|refine Wn ?_)
      refine Wf (OpV.entry (M := ofM R) hi) rfl ?_
      refine JO.reslot 20 (.tuple ⟨[idV (idC s.1.1), commitV s.1.1 s.2.1 s.2.2.1]⟩) (by rw [eg2]) ?_
      refine JO.more (fun w1 ho => ho.add (A := sl s.2.1 s.2.2.1 s.1.1.parents) (graph_row (ho.get (A := graphA R)) hsm).1) ?_
      repeat (first|refine Wa ?_|refine Wb ?_|refine Wc ?_|refine Wd ?_|refine We rfl ?_|refine Wf (by first|exact Va|exact Vc|exact Vq|exact Vx) rfl ?_|(refine Wg rfl ?_; intro _)|refine Wi ?_)
      refine JO.test 26 (fun he => ?_) (fun he => ?_)
      · have hb : evBad r s = false := by simp [evBad, he]
        repeat (first|refine Wa ?_|refine Wd ?_|refine We rfl ?_|refine Wf (by exact Vi) rfl ?_|refine Wj ?_|refine Wm ?_|refine Wo ?_|refine Wp ?_|refine Wv rfl rfl ?_)
        exact ⟨S2 ++ [i], ⟨hT3, hT4, next hb⟩, by simp at hlt3 ⊢; omega, inferInstance⟩
      repeat (first|refine Wa ?_|refine Wd ?_|refine We rfl ?_|refine Wf (by first|exact Vc|exact Vd|exact Vj|exact Vm) rfl ?_)
      refine JC.test (fun hnd => ?_) (fun hnd => ?_)
      · have hb : evBad r s = false := by simp only [ne_eq] at hnd; simp [evBad, hnd]
        repeat (first|refine Wa ?_|refine Wm ?_|refine Wo ?_|refine Wp ?_)
        exact ⟨S2 ++ [i], ⟨hT3, hT4, next hb⟩, by simp at hlt3 ⊢; omega, inferInstance⟩
      have hnd' : r.1.1.ev.node = s.1.1.ev.node := by simpa using hnd
      repeat (first|refine Wa ?_|refine Wb ?_|refine Wl ?_)
      have hgk : gotten (knM R) (idC r.1.1) = some (.map (some r.2.2.2)) := by
        obtain ⟨q, hq, hqe, _, hqk, _⟩ := row_of hn (p := idC r.1.1) (by rw [ids_gr]; exact List.mem_map.2 ⟨r, hrm, rfl⟩)
        have : q = r := by
          obtain ⟨x, hx, hxq⟩ := List.getElem_of_mem hq
          obtain ⟨y, hy, hyr⟩ := List.getElem_of_mem hrm
          rw [ids_gr] at hn
          rcases Nat.lt_trichotomy x y with h | h | h
          · have := List.pairwise_iff_getElem.1 hn x y (by simpa using hx) (by simpa using hy) h
            simp [hxq, hyr, hqe] at this
          · subst h; rw [← hxq, ← hyr]
          · have := List.pairwise_iff_getElem.1 hn y x (by simpa using hy) (by simpa using hx) h
            simp [hxq, hyr, hqe] at this
        rw [← this]; rw [this] at hqk ⊢; exact hqk
      refine JC.quiet mixed (by kernel_rfl) ?_
      repeat (refine Wy rfl (by first|exact Va|exact Vc|exact Vd|exact Vl) rfl ?_)
      by_cases hsq : r.1.1.ev.seq = s.1.1.ev.seq
      · have hb : evBad r s = true := by simp [evBad, he, hnd', hsq]
        refine JQ.reslot 42 (.bool true) (by simp [hsq]) ?_
        repeat (first|refine Wy rfl (by first|exact Va|exact Vc|exact Vd|exact Vi) rfl ?_|refine Wz rfl rfl ?_|refine WA rfl rfl ?_|refine WB ?_)
        repeat (first|refine Wa ?_|refine Wb ?_|refine Wc ?_|refine Wd ?_|refine We rfl ?_|refine Wf (by exact Vb) rfl ?_|refine Wj ?_|refine Ws ?_|refine Wt ?_|refine Wu ?_)
        rw [evG_false hrm hsm hb]
        exact CT.done () rfl (fun w ho => ho.ent)
      refine JQ.reslot 42 (.bool false) (by simp [hsq]) ?_
      repeat (refine Wy rfl (by first|exact Va|exact Vc|exact Vd|exact Vo) rfl ?_)
      by_cases hlt : s.1.1.ev.seq < r.1.1.ev.seq
      · refine JQ.reslot 50 (.bool true) (by simp [hlt]) ?_
        repeat (refine Wy rfl (by first|exact Vc|exact Vd) rfl ?_)
        refine Wy rfl (OpV.lookupNo (M := knM R) (v := .map (some r.2.2.2)) (idC r.1.1) hkK (by rw [hgk]; rfl)) rfl ?_
        repeat (refine Wy rfl (by exact Vc) rfl ?_)
        refine Wy rfl (OpV.setHas (L := r.1.2) (idC s.1.1) (hS r hrm)) rfl ?_
        repeat (first|refine Wy rfl (by first|exact Vh|exact Vi|exact Vj) rfl ?_|refine WB ?_)
        repeat (refine Wa ?_)
        refine JC.test (fun hk => ?_) (fun hk => ?_)
        · have hb : evBad r s = true := by
            have hk' : idC s.1.1 ∉ r.1.2 := by simpa using hk
            simp [evBad, he, hnd', hlt, hk']
          repeat (first|refine Wa ?_|refine Wb ?_|refine Wc ?_|refine Wd ?_|refine We rfl ?_|refine Wf (by exact Vb) rfl ?_|refine Ws ?_|refine Wt ?_|refine Wu ?_)
          rw [evG_false hrm hsm hb]
          exact CT.done () rfl (fun w ho => ho.ent)
        · have hb : evBad r s = false := by
            have hk' : idC s.1.1 ∈ r.1.2 := by simpa using hk
            simp [evBad, hsq, hk']
          repeat (first|refine Wa ?_|refine Wl ?_|refine Wr ?_)
          exact ⟨S2 ++ [i], ⟨hT3, hT4, next hb⟩, by simp at hlt3 ⊢; omega, inferInstance⟩
      · have hb : evBad r s = false := by simp [evBad, hsq, hlt]
        refine JQ.reslot 50 (.bool false) (by simp [hlt]) ?_
        repeat (first|refine Wy rfl (by first|exact Vc|exact Vd|exact Vj) rfl ?_|refine Wz rfl rfl ?_|refine WB ?_)
        repeat (first|refine Wa ?_|refine Wk ?_|refine Wl ?_|refine Wr ?_)
        exact ⟨S2 ++ [i], ⟨hT3, hT4, next hb⟩, by simp at hlt3 ⊢; omega, inferInstance⟩
end Ab
end Go.Proofs.YtdgeffphifgflaaGreat
namespace Go.Proofs.YtdgeffphifgflaaGreat
namespace Ab
open Go Go.RowKit
set_option linter.unusedVariables false
set_option linter.unusedSimpArgs false
set_option synthInstance.maxSize 4000
set_option synthInstance.maxHeartbeats 400000
attribute [local irreducible] JC JO JR JQ andThen inBlock OpV Gives retTo JM JS
def cmpI (a b : Int) : Int := if a < b then -1 else if b < a then 1 else 0
theorem nan_int [Dr] (w : World) (F : Nat → Prop) (a : Int) : GivesV Tryz.prog 139 [.int .i64 a] w F (.bool false) := by
  refine gives_of Tryz.func139 rfl Tryz.ntmps139 rfl rfl [] (.start w F) ?_
  repeat (first|refine Wa ?_|refine Wb ?_|refine Wc ?_|refine Wd ?_|refine We rfl ?_|refine Wf (by first|exact Va|exact Vb|exact Vm) rfl ?_|refine Ws ?_)
  exact CT.done () (by simp [packed]) (fun w ho => ho.ent)
theorem compare_int [Dr] (w : World) (F : Nat → Prop) (a b : Int) : GivesV Tryz.prog 72 [.int .i64 a, .int .i64 b] w F (.int .i64 (cmpI a b)) := by
  refine gives_of Tryz.func72 rfl Tryz.ntmps72 rfl rfl [] (.start w F) ?_
  repeat (first|refine Wa ?_|refine Wb ?_|refine Wc ?_|refine Wd ?_|refine We rfl ?_|refine Wf (by first|exact Va|exact Vb) rfl ?_)
  refine JR.callV rfl (fun w1 hw => nan_int w1 _ a) ?_
  repeat (first|refine Wa ?_|refine Wb ?_|refine Wc ?_|refine Wd ?_|refine We rfl ?_|refine Wf (by first|exact Va|exact Vb) rfl ?_)
  refine JR.callV rfl (fun w1 hw => nan_int w1 _ b) ?_
  repeat (first|refine Wa ?_|refine Wb ?_|refine Wc ?_|refine Wd ?_|refine We rfl ?_|refine Wf (by first|exact Va|exact Vb|exact Vg) rfl ?_|refine Wk ?_|refine Wl ?_)
  refine JC.test (fun h => ?_) (fun h => ?_)
  · have e1 : cmpI a b = -1 := by simp [cmpI, h]
    rw [e1]
    repeat (first|refine Wa ?_|refine Wb ?_|refine Wc ?_|refine Wd ?_|refine We rfl ?_|refine Wf (by exact Vb) rfl ?_|refine Ws ?_|refine Wt ?_)
    exact CT.done () rfl (fun w ho => ho.ent)
  repeat (first|refine Wa ?_|refine Wb ?_|refine Wc ?_|refine Wd ?_|refine We rfl ?_|refine Wf (by first|exact Va|exact Vo) rfl ?_|refine Wl ?_)
  refine JC.test (fun h' => ?_) (fun h' => ?_)
  · have e1 : cmpI a b = 1 := by simp [cmpI, h, h']
    rw [e1]
    repeat (first|refine Wa ?_|refine Wb ?_|refine Wc ?_|refine Wd ?_|refine We rfl ?_|refine Wf (by exact Vb) rfl ?_|refine Ws ?_|refine Wt ?_)
    exact CT.done () rfl (fun w ho => ho.ent)
  · have e1 : cmpI a b = 0 := by simp [cmpI, h, h']
    rw [e1]
    repeat (first|refine Wa ?_|refine Wb ?_|refine Wc ?_|refine Wd ?_|refine We rfl ?_|refine Wf (by exact Vb) rfl ?_|refine Wl ?_|refine Ws ?_)
    exact CT.done () rfl (fun w ho => ho.ent)
theorem of1_dag [Dr] (w : World) (F : Nat → Prop) (a : Option Addr) (k bl : Nat) (L : List Commit) (i j : Nat) (hi : i < L.length) (hj : j < L.length) (h : (sl a k L).holds F w) (hb : (ro bl 0 [.slice a L.length k]).holds F w) :
    GivesV Tryz.prog 134 [.int .i64 (i : Int), .int .i64 (j : Int), .pointer (some ⟨bl, 0, none⟩)] w F (.int .i64 (cmpI L[i].gen L[j].gen)) := by
  refine gives_of Tryz.func134 rfl Tryz.ntmps134 rfl rfl [.st (sl a k L), .st (ro bl 0 [.slice a L.length k])] (.start2 h hb) ?_
  repeat (first|refine Wa ?_|refine Wb ?_|refine Wc ?_|refine Wd ?_|refine We rfl ?_|refine Wf (by exact Vb) rfl ?_)
  refine JC.openCommit (L := L) (.slice a L.length k) i hi ?_
  intro b1 o1 p1 q1
  refine JC.openCommit (L := L) (.slice a L.length k) j hj ?_
  intro b2 o2 p2 q2
  refine JC.quiet mixed (by kernel_rfl) ?_
  repeat (refine Wy rfl (by first|exact Va|exact Vc|exact Vd|exact Ve) rfl ?_)
  refine JQ.call rfl rfl (fun w1 hw => compare_int w1 _ (L[i]).gen (L[j]).gen) ?_
  repeat (first|refine Wy rfl (by exact Vb) rfl ?_|refine WB ?_)
  repeat (first|refine Wa ?_|refine Ws ?_)
  exact CT.done () rfl (fun w ho => ho.ent)
end Ab
end Go.Proofs.YtdgeffphifgflaaGreat
namespace Go.Proofs.YtdgeffphifgflaaGreat
namespace Ab
open Go Go.RowKit Go.Sort Go.Shelf
set_option linter.unusedVariables false
set_option linter.unusedSimpArgs false
theorem grow_of_bel [dr : Dr] (hdr : Dr.on) {w w' : World} (h : Bel w.heap.size w w') : ∃ q os, w' = grow (w.drewN q) os := by
  refine ⟨w'.drawn - w.drawn, w'.heap.extract w.heap.size, ?_⟩
  have h1 := h.drawn hdr
  have h2 := h.os; have h3 := h.tape; have h4 := h.output
  have hh : w.heap ++ w'.heap.extract w.heap.size = w'.heap := by
    apply Array.ext_getElem?
    intro i
    by_cases hi : i < w.heap.size
    · rw [Array.getElem?_append_left hi]; exact (h.block i hi).symm
    · rw [Array.getElem?_append_right (by omega), Array.getElem?_extract]
      have := h.size
      by_cases hi' : i < w'.heap.size
      · rw [if_pos (by omega)]; congr 1; omega
      · rw [if_neg (by omega), Array.getElem?_eq_none (by omega)]
  cases w; cases w'
  simp only [World.drewN, grow] at *
  subst h2 h3 h4
  simp only [hh]
  congr 1
  omega
abbrev Sorted2 {m : Nat} (cf : Fin (m + 1) → Fin (m + 1) → Int) := { O : List (Fin (m + 1)) // O.Perm (List.finRange (m + 1)) ∧ O.Pairwise (fun i j => Go.Proofs.ltOf cf j i = false) }
theorem sort_places [Dr] {P : Program} {ρ : Ren} (Ly : Go.Proofs.SlLaysF.n6 P ρ) {m : Nat} (cf : Fin (m + 1) → Fin (m + 1) → Int) (hO : SWO (Go.Proofs.ltOf cf)) (g : FuncId) (caps : List Value) [eg : Body P g] {w0 w : World} {F : Nat → Prop} {Γ : List Fact} {b c : Nat} {el : TypeId}
    (hm : m < 1000000) (ho : Hold w0 F (.own b el ((List.range (m + 1)).map natV) :: Γ) w)
    (hc : ∀ W : World, (∀ A : Asn, A.holds (fp w0 F (.own b el ((List.range (m + 1)).map natV) :: Γ)) w → A.holds (fp w0 F (.own b el ((List.range (m + 1)).map natV) :: Γ)) W) →
      ∀ x y : Fin (m + 1), @GivesV ⟨True⟩ P g ([natV x.1, natV y.1] ++ caps) W (fp w0 F (.own b el ((List.range (m + 1)).map natV) :: Γ)) (.int .i64 (cf x y))) :
    Calls P (ρ.f 6) ⟨[.slice (some ⟨b, 0, none⟩) (m + 1) c, .func (.func g) ⟨[]⟩ ⟨caps⟩]⟩ w fun x w' => ∃ O : Sorted2 cf, x = .returned (.tuple ⟨[]⟩) ∧ Hold w0 F (.own b el (O.1.map fun i => natV i.1) :: Γ) w' := by
  have hw : w.heap[b]? = some (.cells ((List.range (m + 1)).map natV).toArray el (0, 0)) := ho.sat (.own b el _) (by simp)
  have hlt : b < w.heap.size := (Array.getElem?_eq_some_iff.1 hw).1
  obtain ⟨enc, henc⟩ : ∃ enc : Fin (m + 1) → Value, enc = fun i => natV i.1 := ⟨_, rfl⟩
  obtain ⟨d, hd⟩ : ∃ d : Array (Fin (m + 1)), d = (List.finRange (m + 1)).toArray := ⟨_, rfl⟩
  have hds : d.size = m + 1 := by rw [hd]; simp
  have hdg : ∀ j, j < m + 1 → enc d[j]! = natV j := by
    intro j hj
    rw [henc, hd]
    simp [hj]
  have hH : Holds enc w b 0 d := by
    intro j hj
    rw [hds] at hj
    rw [hdg j hj]
    constructor
    · rw [Nat.zero_add, cell_of_row w b j _ el _ hw]
      simp [hj]
    · simp [World.frozen?, hw]
  have h1 : Go.Proofs.OneCell enc := fun x => by rw [henc]; rfl
  have hcmp : Go.Proofs.CmpLays1 P g ⟨caps⟩ enc cf b 0 d.size w := by
    intro q os dk hdk x y
    have hold : ∀ k, k < w.heap.size → k ≠ b → (Go.Proofs.sortWorld enc w b 0 q dk os).heap[k]? = w.heap[k]? := by
      intro k hk hkb
      unfold Go.Proofs.sortWorld
      rw [heap_grow_old]
      · simp [Go.Sort.putRow, Go.Sort.mapBlock, Array.getElem?_modify, Ne.symm hkb, Go.Sort.ahead]
      · simp [Go.Sort.putRow, Go.Sort.mapBlock, Go.Sort.ahead]; exact hk
    have hx := hc (Go.Proofs.sortWorld enc w b 0 q dk os) (fun A hA => by
      have hA2 := A.within _ _ hA
      refine A.mono _ _ _ (fun k hk => hk.1) (A.frame _ _ _ (fun k hk => ?_) hA2)
      exact hold k hk.2 (fun e => hk.1.2 (.own b el ((List.range (m + 1)).map natV)) (by simp) e)) x y
    have e1 : (#[enc x, enc y] ++ (⟨caps⟩ : Array Value)) = ⟨[natV x.1, natV y.1] ++ caps⟩ := by rw [henc]; apply Array.ext'; simp
    rw [e1]
    refine Calls.mono hx ?_
    rintro e w' ⟨_, he, hb, _⟩
    exact ⟨he, grow_of_bel (dr := ⟨True⟩) trivial hb⟩
  have hs := Go.Proofs.Any.slices_SortFunc Ly enc h1 cf hO g ⟨caps⟩ b 0 c d w eg.ok hcmp hH hlt (by rw [hds]; omega)
  rw [hds] at hs
  refine Calls.mono hs ?_
  rintro x w' ⟨hx, d', q, os, hp, hsrt, rfl⟩
  obtain ⟨hp1, _, hp3⟩ := hp
  have hd's : d'.size = m + 1 := by rw [hp1, hds]
  have hperm : d'.toList.Perm (List.finRange (m + 1)) := by
    have e1 : (d'.extract 0 (m + 1)).toList = d'.toList := by rw [Array.extract_eq_self_of_le (by omega)]
    have e2 : (d.extract 0 (m + 1)).toList = d.toList := by rw [Array.extract_eq_self_of_le (by omega)]
    rw [e1, e2] at hp3
    rw [hd] at hp3
    exact hp3
  have hpair : d'.toList.Pairwise (fun i j => Go.Proofs.ltOf cf j i = false) := by
    rw [List.pairwise_iff_getElem]
    intro i j hi hj hij
    have hi' : i < d'.size := by simpa using hi
    have hj' : j < d'.size := by simpa using hj
    have := hsrt i j (Nat.zero_le _) hij (by omega)
    rw [getElem!_pos d' j hj', getElem!_pos d' i hi'] at this
    simpa using this
  refine ⟨⟨d'.toList, hperm, hpair⟩, hx, ?_⟩
  have hrow : (Go.Sort.putRow enc (Go.Sort.ahead w q) b 0 d').heap[b]? = some (.cells (d'.toList.map fun i => natV i.1).toArray el (0, 0)) := by
    have : (Go.Sort.ahead w q).heap[b]? = some (.cells ((List.range (m + 1)).map natV).toArray el (0, 0)) := hw
    simp only [Go.Sort.putRow, Go.Sort.mapBlock, Array.getElem?_modify, this]
    simp only [if_true, Option.map_some, Go.Sort.onCells]
    congr 2
    apply Array.ext_getElem?
    intro k
    simp only [Go.Sort.putCells, Array.getElem?_mapIdx]
    by_cases hk : k < m + 1
    · have hk' : k < d'.size := by omega
      simp [hk, hk', henc]
    · have hk' : ¬ k < d'.size := by omega
      simp [hk, hk']
  have h2 : Hold w0 F (.own b el (d'.toList.map fun i => natV i.1) :: Γ) (Go.Sort.putRow enc (Go.Sort.ahead w q) b 0 d') :=
    ho.swap (b := b) (fun _ => Iff.rfl) (fun _ => Iff.rfl) rfl rfl rfl (by simp [Go.Sort.putRow, Go.Sort.mapBlock, Go.Sort.ahead])
      (fun k hk => by simp [Go.Sort.putRow, Go.Sort.mapBlock, Array.getElem?_modify, Ne.symm hk, Go.Sort.ahead]) hrow (hdr := Nat.le_add_right _ _)
  exact h2.of_below ⟨rfl, rfl, rfl, by simp [Go.Proofs.sortWorld, grow, Go.Sort.putRow, Go.Sort.mapBlock, Go.Sort.ahead], fun k hk => heap_grow_old _ _ hk, fun _ => Nat.le_refl _⟩
abbrev Order (cf : Nat → Nat → Int) (n : Nat) := { O : List Nat // O.Perm (List.range n) ∧ O.Pairwise (fun i j => ¬ cf j i < 0) }
theorem sort_order [Dr] {P : Program} {ρ : Ren} (Ly : Go.Proofs.SlLaysF.n6 P ρ) (cf : Nat → Nat → Int) (hO : SWO (Go.Proofs.ltOf cf)) (g : FuncId) (caps : List Value) [eg : Body P g] {w0 w : World} {F : Nat → Prop} {Γ : List Fact} {b c n : Nat} {el : TypeId}
    (hm : n ≤ 1000000) (ho : Hold w0 F (.own b el ((List.range n).map natV) :: Γ) w)
    (hc : ∀ W : World, (∀ A : Asn, A.holds (fp w0 F (.own b el ((List.range n).map natV) :: Γ)) w → A.holds (fp w0 F (.own b el ((List.range n).map natV) :: Γ)) W) →
      ∀ x y : Nat, x < n → y < n → @GivesV ⟨True⟩ P g ([natV x, natV y] ++ caps) W (fp w0 F (.own b el ((List.range n).map natV) :: Γ)) (.int .i64 (cf x y))) :
    Calls P (ρ.f 6) ⟨[.slice (some ⟨b, 0, none⟩) n c, .func (.func g) ⟨[]⟩ ⟨caps⟩]⟩ w fun x w' => ∃ O : Order cf n, x = .returned (.tuple ⟨[]⟩) ∧ Hold w0 F (.own b el (O.1.map natV) :: Γ) w' := by
  cases n with
  | zero =>
    refine Calls.mono (Go.Proofs.AnyF.slices_SortFunc_none (P := P) (ρ := ρ) { Ly with } (some ⟨b, 0, none⟩) c _ w) ?_
    rintro x w' ⟨hx, rfl⟩
    exact ⟨⟨[], by simp, by simp⟩, hx, ho⟩
  | succ m =>
    have := sort_places Ly (m := m) (c := c) (fun x y => cf x.1 y.1) ⟨fun x => hO.irrefl x.1, fun x y z h1 h2 => hO.trans x.1 y.1 z.1 h1 h2, fun x y z h1 h2 => hO.ntrans x.1 y.1 z.1 h1 h2⟩ g caps (by omega) ho (fun W hW x y => hc W hW x.1 y.1 x.2 y.2)
    refine Calls.mono this ?_
    rintro x w' ⟨O, hx, hO'⟩
    refine ⟨⟨O.1.map (·.1), ?_, ?_⟩, hx, by rw [List.map_map]; exact hO'⟩
    · have := O.2.1.map (·.1)
      have e : (List.finRange (m + 1)).map (fun x => x.1) = List.range (m + 1) := by
        apply List.ext_getElem
        · simp
        · intro i h1 h2; simp
      rwa [e] at this
    · rw [List.pairwise_map]
      refine O.2.2.imp ?_
      intro i j h
      simpa [Go.Proofs.ltOf] using h
end Ab
end Go.Proofs.YtdgeffphifgflaaGreat
namespace Go.Proofs.YtdgeffphifgflaaGreat
namespace Ab
open Go
def sortInt_ren : Go.Shelf.Ren := ⟨fun | 6 => 69 | 14 => 137 | 15 => 138 | 20 => 189 | 21 => 190 | 22 => 191 | 23 => 192 | 24 => 193 | 25 => 194 | 26 => 195 | 27 => 196 | 28 => 197 | 29 => 198 | 46 => 238 | 47 => 239 | 48 => 240 | 49 => 241 | 50 => 242 | 57 => 258 | n => n, fun | 22 => 45 | 24 => 3 | 25 => 106 | 39 => 166 | 45 => 211 | 46 => 212 | 50 => 119 | 53 => 62 | 55 => 144 | 66 => 237 | 70 => 240 | 76 => 253 | 77 => 254 | n => n, fun | n => n⟩
open Go.Shelf Go.Proofs in
theorem sortInt : SlLaysF.n6 Tryz.prog sortInt_ren where
  mixed := by kernel_rfl
  f6 := ⟨ "slices.SortFunc[[]int,int]", by decide, Tryz.func69.trans (congrArg some (by kernel_rfl))⟩
  f14 := ⟨ "slices.pdqsortCmpFunc[int]", by decide, Tryz.func137.trans (congrArg some (by kernel_rfl))⟩
  f15 := Tryz.func138.trans (congrArg some (by kernel_rfl))
  f20 := ⟨ "slices.insertionSortCmpFunc[int]", by decide, Tryz.func189.trans (congrArg some (by kernel_rfl))⟩
  f21 := ⟨ "slices.heapSortCmpFunc[int]", by decide, Tryz.func190.trans (congrArg some (by kernel_rfl))⟩
  f22 := ⟨ "slices.breakPatternsCmpFunc[int]", by decide, Tryz.func191.trans (congrArg some (by kernel_rfl))⟩
  f23 := ⟨ "slices.choosePivotCmpFunc[int]", by decide, Tryz.func192.trans (congrArg some (by kernel_rfl))⟩
  f24 := ⟨ "slices.reverseRangeCmpFunc[int]", by decide, Tryz.func193.trans (congrArg some (by kernel_rfl))⟩
  f25 := ⟨ "slices.partialInsertionSortCmpFunc[int]", by decide, Tryz.func194.trans (congrArg some (by kernel_rfl))⟩
  f26 := ⟨ "slices.partitionEqualCmpFunc[int]", by decide, Tryz.func195.trans (congrArg some (by kernel_rfl))⟩
  f27 := ⟨ "slices.partitionCmpFunc[int]", by decide, Tryz.func196.trans (congrArg some (by kernel_rfl))⟩
  f28 := Tryz.func197.trans (congrArg some (by kernel_rfl))
  f29 := Tryz.func198.trans (congrArg some (by kernel_rfl))
  f46 := ⟨ "slices.siftDownCmpFunc[int]", by decide, Tryz.func238.trans (congrArg some (by kernel_rfl))⟩
  f47 := Tryz.func239.trans (congrArg some (by kernel_rfl))
  f48 := Tryz.func240.trans (congrArg some (by kernel_rfl))
  f49 := ⟨ "slices.medianAdjacentCmpFunc[int]", by decide, Tryz.func241.trans (congrArg some (by kernel_rfl))⟩
  f50 := ⟨ "slices.medianCmpFunc[int]", by decide, Tryz.func242.trans (congrArg some (by kernel_rfl))⟩
  f57 := ⟨ "slices.order2CmpFunc[int]", by decide, Tryz.func258.trans (congrArg some (by kernel_rfl))⟩
  t0 := Tryz.underlying0
  a0 := Tryz.isAgg0
  z0 := Tryz.sizeOf0
  v0 := Tryz.zeroValue0
  t3 := Tryz.underlying3
  a3 := Tryz.isAgg3
  z3 := Tryz.sizeOf3
  v3 := Tryz.zeroValue3
  t4 := Tryz.underlying4
  a4 := Tryz.isAgg4
  z4 := Tryz.sizeOf4
  v4 := Tryz.zeroValue4
  t5 := Tryz.underlying5
  a5 := Tryz.isAgg5
  z5 := Tryz.sizeOf5
  v5 := Tryz.zeroValue5
  t9 := Tryz.underlying9
  a9 := Tryz.isAgg9
  z9 := Tryz.sizeOf9
  v9 := Tryz.zeroValue9
  t22 := Tryz.underlying45
  a22 := Tryz.isAgg45
  z22 := Tryz.sizeOf45
  v22 := Tryz.zeroValue45
  a24 := Tryz.isAgg3
  z24 := Tryz.sizeOf3
  t25 := Tryz.underlying106
  a25 := Tryz.isAgg106
  z25 := Tryz.sizeOf106
  v25 := Tryz.zeroValue106
  t39 := Tryz.underlying166
  a39 := Tryz.isAgg166
  z39 := Tryz.sizeOf166
  v39 := Tryz.zeroValue166
  t45 := Tryz.underlying211
  a45 := Tryz.isAgg211
  z45 := Tryz.sizeOf211
  v45 := Tryz.zeroValue211
  t46 := Tryz.underlying212
  a46 := Tryz.isAgg212
  z46 := Tryz.sizeOf212
  v46 := Tryz.zeroValue212
  t50 := Tryz.underlying119
  a50 := Tryz.isAgg119
  z50 := Tryz.sizeOf119
  v50 := Tryz.zeroValue119
  t53 := Tryz.underlying62
  a53 := Tryz.isAgg62
  z53 := Tryz.sizeOf62
  v53 := Tryz.zeroValue62
  t55 := Tryz.underlying144
  a55 := Tryz.isAgg144
  z55 := Tryz.sizeOf144
  v55 := Tryz.zeroValue144
  t66 := Tryz.underlying237
  a66 := Tryz.isAgg237
  z66 := Tryz.sizeOf237
  v66 := Tryz.zeroValue237
  t70 := Tryz.underlying240
  a70 := Tryz.isAgg240
  z70 := Tryz.sizeOf240
  v70 := Tryz.zeroValue240
  t76 := Tryz.underlying253
  a76 := Tryz.isAgg253
  z76 := Tryz.sizeOf253
  v76 := Tryz.zeroValue253
  t77 := Tryz.underlying254
  a77 := Tryz.isAgg254
  z77 := Tryz.sizeOf254
  v77 := Tryz.zeroValue254
end Ab
end Go.Proofs.YtdgeffphifgflaaGreat
namespace Go.Proofs.YtdgeffphifgflaaGreat
namespace Ab
open Go Go.RowKit
set_option linter.unusedVariables false
set_option linter.unusedSimpArgs false
set_option synthInstance.maxSize 4000
set_option synthInstance.maxHeartbeats 400000
attribute [local irreducible] JC JO JR JQ andThen inBlock OpV Gives retTo JM JS
attribute [local irreducible] ents hashC graphA
theorem evG_iff {R : List Row} (hb : BuiltR (grOf R)) : evG R = true ↔ ∀ c ∈ nodes (grOf R), ∀ d ∈ nodes (grOf R), evOk (nodes (grOf R)) c d := by
  have hk : ∀ r ∈ R, ∀ x, x ∈ r.1.2 ↔ knows (nodes (grOf R)) (idC r.1.1) x := by
    intro r hr x
    have hg : r.1 ∈ grOf R := List.mem_map.2 ⟨r, hr, rfl⟩
    have h1 := knownBy_of hb.nodup hg
    rw [← h1]
    exact hb.known _ (mem_cids.2 ⟨r.1.1, by rw [nodes_gr]; exact List.mem_map.2 ⟨r, hr, rfl⟩, rfl⟩) x
  have hn : ∀ c, c ∈ nodes (grOf R) ↔ ∃ r ∈ R, r.1.1 = c := fun c => by rw [nodes_gr]; exact List.mem_map
  have key : ∀ r ∈ R, ∀ s ∈ R, evBad r s = false ↔ evOk (nodes (grOf R)) r.1.1 s.1.1 := by
    intro r hr s hs
    unfold evBad evOk
    have := hk r hr (idC s.1.1)
    rw [← this]
    by_cases h1 : idC r.1.1 = idC s.1.1
    · simp [h1]
    by_cases h2 : r.1.1.ev.node = s.1.1.ev.node
    · simp [h1, h2]
    · simp [h2]
  rw [evG, List.all_eq_true]
  simp only [List.all_eq_true, Bool.not_eq_true']
  constructor
  · intro h c hc d hd
    obtain ⟨r, hr, rfl⟩ := (hn c).1 hc
    obtain ⟨s, hs, rfl⟩ := (hn d).1 hd
    exact (key r hr s hs).1 (h r hr s hs)
  · intro h r hr s hs
    exact (key r hr s hs).2 (h _ ((hn _).2 ⟨r, hr, rfl⟩) _ ((hn _).2 ⟨s, hs, rfl⟩))
structure OfR where
  bo : Nat
  bk : Nat
  R : List Row
  I : List ID
  p : Option Addr
  q : Nat
  b : Bool
structure OfOk (L : List Commit) (y : OfR) : Prop where
  iff : y.b = true ↔ Closed L
  len : y.I.length ≤ L.length
  ids : y.b = true → y.I = cids L
  built : y.b = true → Built (grOf y.R)
  perm : y.b = true → (nodes (grOf y.R)).Perm L
  nodup : y.b = true → ∀ r ∈ y.R, r.1.2.Nodup
abbrev OfY (L : List Commit) := { y : OfR // OfOk L y }
abbrev ofV {L : List Commit} (y : OfY L) : Value := .tuple ⟨[.agg ⟨[.map (some y.1.bo), .map (some y.1.bk)]⟩, .slice y.1.p y.1.I.length y.1.q, .bool y.1.b]⟩
abbrev ofB {L : List Commit} (y : OfY L) : List Fact := if y.1.b = true then [.st (rmap y.1.bo (ents idV (ofM y.1.R)) (ofM y.1.R).length), .st (rmap y.1.bk (ents idV (knM y.1.R)) (knM y.1.R).length), .st (graphA y.1.R), .st (sl y.1.p y.1.q y.1.I)] else [.st (sl y.1.p y.1.q y.1.I)]
theorem ofOk_no {L : List Commit} {bo bk q : Nat} {R : List Row} {I : List ID} {p : Option Addr} (h : ¬ Closed L) (hl : I.length ≤ L.length) : OfOk L ⟨bo, bk, R, I, p, q, false⟩ :=
  ⟨⟨fun h => Bool.noConfusion h, fun h' => (h h').elim⟩, hl, fun h => Bool.noConfusion h, fun h => Bool.noConfusion h, fun h => Bool.noConfusion h, fun h => Bool.noConfusion h⟩
def genC (L : List Commit) (i : Nat) : Int := (L.getD i commit0).gen
def byO (L : List Commit) (O : List Nat) : List Commit := O.map fun i => L.getD i commit0
theorem byO_perm {L : List Commit} {O : List Nat} (h : O.Perm (List.range L.length)) : (byO L O).Perm L := by
  have h1 := h.map (fun i => L.getD i commit0)
  have e : (List.range L.length).map (fun i => L.getD i commit0) = L := by
    apply List.ext_getElem
    · simp
    · intro i h1 h2; simp [List.getD_eq_getElem?_getD, h2]
  rwa [e] at h1
theorem cmpI_lt (a b : Int) : cmpI a b < 0 ↔ a < b := by
  unfold cmpI
  split
  · simp [*]
  · split <;> simp [*]
theorem swo_gen (L : List Commit) : Go.Sort.SWO (Go.Proofs.ltOf fun i j => cmpI (genC L i) (genC L j)) := by
  have h : ∀ i j, Go.Proofs.ltOf (fun i j => cmpI (genC L i) (genC L j)) i j = decide (genC L i < genC L j) := fun i j => by
    simp only [Go.Proofs.ltOf, cmpI_lt]
  refine ⟨fun x => ?_, fun x y z => ?_, fun x y z => ?_⟩
  · rw [h]; simp
  · rw [h, h, h]; simp only [decide_eq_true_eq]; omega
  · rw [h, h, h]; simp only [decide_eq_false_iff_not]; omega
theorem sortFunc_gen {w0 w : World} {F : Nat → Prop} {Γ : List Fact} {b c el bl k : Nat} {a : Option Addr} {L : List Commit} (hl : L.length ≤ 1000000)
    (ho : Hold w0 F (.own b el ((List.range L.length).map natV) :: .st (ro bl 0 [.slice a L.length k]) :: .st (sl a k L) :: Γ) w) :
    Calls Tryz.prog 69 ⟨[.slice (some ⟨b, 0, none⟩) L.length c, .func (.func 134) ⟨[]⟩ ⟨[.pointer (some ⟨bl, 0, none⟩)]⟩]⟩ w fun x w' =>
      ∃ O : Order (fun i j => cmpI (genC L i) (genC L j)) L.length, x = .returned (.tuple ⟨[]⟩) ∧ Hold w0 F (.own b el (O.1.map natV) :: .st (ro bl 0 [.slice a L.length k]) :: .st (sl a k L) :: Γ) w' := by
  refine sort_order sortInt _ (swo_gen L) _ _ hl ho (fun W hW x y hx hy => ?_)
  have h1 := hW (sl a k L) (ho.get (A := sl a k L))
  have h2 := hW (ro bl 0 [.slice a L.length k]) (ho.get (A := ro bl 0 [.slice a L.length k]))
  have := @of1_dag ⟨True⟩ W _ a k bl L x y hx hy h1 h2
  simpa [genC, List.getD_eq_getElem?_getD, hx, hy] using this
theorem may_gen {c : Commit} (h : may c = true) : 1 ≤ c.gen ∧ c.gen ≤ 1048576 := by
  unfold may at h
  split at h
  · cases h
  · rename_i hn
    simp only [Bool.or_eq_true, Bool.not_eq_true', not_or, Bool.not_eq_false, inB, Bool.and_eq_true, decide_eq_true_eq] at hn
    exact hn.1.1.1
end Ab
end Go.Proofs.YtdgeffphifgflaaGreat
namespace Go.Proofs.YtdgeffphifgflaaGreat
namespace Ab
open Go Go.RowKit
set_option linter.unusedVariables false
set_option linter.unusedSimpArgs false
set_option synthInstance.maxSize 4000
set_option synthInstance.maxHeartbeats 400000
attribute [local irreducible] JC JO JR JQ andThen inBlock OpV Gives retTo JM JS
attribute [local irreducible] JN
attribute [local irreducible] ents hashC graphA
set_option maxHeartbeats 4000000 in
theorem of_dag (w : World) (F : Nat → Prop) (a : Option Addr) (k : Nat) (L : List Commit) (h : (sl a k L).holds F w) (hl : L.length ≤ 1000000) (hf : ∀ x ∈ L, fine x) :
    Gives Tryz.prog 68 [.slice a L.length k] w F (fun y : OfY L => ofV y) (fun y => ofB y) := by
  refine gives_of Tryz.func68 rfl Tryz.ntmps68 rfl rfl [.st (sl a k L)] (.start1 h) ?_
  repeat (first|refine Wa ?_|refine Wb ?_|refine Wc ?_|refine Wd ?_|refine We rfl ?_|refine Wf (by exact Vb) rfl ?_|(refine Wg rfl ?_; intro _)|(refine Wh rfl ?_; intro _))
  rename_i b1 b2
  refine JR.makeMap idV rfl ?_
  intro bo
  refine We rfl ?_
  refine JR.makeMap idV rfl ?_
  intro bk
  refine We rfl ?_
  refine Wf (OpV.build [.map (some bo), .map (some bk)] (by kernel_rfl)) rfl ?_
  repeat (first|refine Wa ?_|refine Wb ?_|refine Wc ?_|refine Wd ?_|refine We rfl ?_|refine Wf (by exact Vc) rfl ?_|(refine Wg rfl ?_; intro _)|refine Wi ?_)
  rename_i b5
  refine JR.pubOwn b1 ?_
  refine JR.callSl rfl (fun w1 hw => ids_dag w1 _ a k L hw.get (by omega) hf) ?_
  intro p q
  repeat (first|refine Wa ?_|refine Wb ?_|refine Wc ?_|refine Wd ?_|refine We rfl ?_|refine Wf (by first|exact Va|exact Vb|exact Vc|exact Vf|exact Vm) rfl ?_)
  refine JC.test (fun hne => ?_) (fun heq => ?_)
  · have hno : ¬ Closed L := fun hc => hne (by rw [idsP_all hc.may]; simp [cids])
    repeat (first|refine Wa ?_|refine Wb ?_|refine Wc ?_|refine Wd ?_|refine We rfl ?_|refine Wf (by first|exact Vb|exact Vc) rfl ?_|refine Wi ?_|refine Ws ?_|refine Wt ?_)
    exact CT.done (Y := OfY L) ⟨⟨bo, bk, [], [], none, 0, false⟩, ofOk_no hno (Nat.zero_le _)⟩ rfl (fun w ho => (Hold.add (A := sl (α := ID) none 0 []) (ho.ent : Hold _ _ [] w) sl_nil))
  · have hmay : ∀ c ∈ L, may c = true := by
      intro c hc
      rw [← Bool.not_eq_false]
      intro hn
      have h1 : (idsP L).length = L.length := by omega
      rw [idsP_not hc hn, List.length_nil] at h1
      have := List.length_pos_of_mem hc
      omega
    have hids := idsP_all hmay
    have hcl : (cids L).length = L.length := cids_length L
    repeat (first|refine Wa ?_|refine Wb ?_|refine Wc ?_|refine We rfl ?_|refine Wf (by first|exact Vc|exact Vf) rfl ?_|refine Wl ?_)
    refine JR.makeInts rfl rfl (by omega) ?_
    intro bO
    repeat (first|refine Wa ?_|refine Wb ?_|refine Wc ?_|refine Wd ?_|refine We rfl ?_|refine Wf (by first|exact Va|exact Vb|exact Vf) rfl ?_|refine Wn ?_)
    rw [hids]
    refine JC.more (Γ' := .own bO 3 ((List.replicate L.length 0).map natV) :: .own b2 101 [.map none, .map none] :: .own b5 101 [.map (some bo), .map (some bk)] :: .omap bo (ents idV ([] : List (ID × Value))) ([] : List (ID × Value)).length :: .omap bk (ents idV ([] : List (ID × Value))) ([] : List (ID × Value)).length :: .st (graphA []) :: .st (ro b1 0 [.slice a L.length k]) :: .st (sl a k L) :: .st (sl p q (cids L)) :: []) (fun w1 ho => (ho.add (A := graphA []) graph_nil).ent) ?_
    refine JC.loop1 (fun (i : Nat) => [(1, .pointer (some ⟨b1, 0, none⟩)), (2, .pointer (some ⟨b2, 0, none⟩)), (5, .pointer (some ⟨b5, 0, none⟩)), (6, .slice p (cids L).length q), (7, .slice (some ⟨bO, 0, none⟩) L.length L.length), (28, .int .i64 (L.length : Int)), (29, .int .i64 (i : Int))])
      (fun i => .own bO 3 ((List.range i ++ List.replicate (L.length - i) 0).map natV) :: .own b2 101 [.map none, .map none] :: .own b5 101 [.map (some bo), .map (some bk)] :: .omap bo (ents idV ([] : List (ID × Value))) ([] : List (ID × Value)).length :: .omap bk (ents idV ([] : List (ID × Value))) ([] : List (ID × Value)).length :: .st (graphA []) :: .st (ro b1 0 [.slice a L.length k]) :: .st (sl a k L) :: .st (sl p q (cids L)) :: [])
      (fun i => i ≤ L.length) (fun i => L.length - i) 0 (Nat.zero_le _) (by rw [List.range_zero, List.nil_append, Nat.sub_zero]; infer_instance) ?_
    intro i hi
    repeat (first|refine Wa ?_|refine Wb ?_|refine Wc ?_|refine Wd ?_|refine We rfl ?_|refine Wf (by exact Vg) rfl ?_)
    refine JC.test (fun hlt => ?_) (fun hge => ?_)
    · have hlt' : i < L.length := by omega
      have e : (List.range i ++ List.replicate (L.length - i) 0).set i i = List.range (i + 1) ++ List.replicate (L.length - (i + 1)) 0 := by
        obtain ⟨m, hm⟩ : ∃ m, L.length - i = m + 1 := ⟨L.length - i - 1, by omega⟩
        rw [hm, List.replicate_succ, List.set_append_right _ _ (by simp), List.length_range, Nat.sub_self, List.set_cons_zero, List.range_succ, List.append_assoc, show L.length - (i + 1) = m by omega]
        rfl
      repeat (first|refine Wa ?_|refine Wb ?_|refine Wc ?_|refine Wd ?_|refine We rfl ?_|refine Wf (by first|exact Va|exact Vb) rfl ?_|refine Wl ?_|refine Wn ?_)
      refine Wf (OpV.indexBuf (k := i) hlt') rfl ?_
      refine We rfl ?_
      refine JR.setW (f := natV) i i (by simp; omega) (by omega) rfl ?_
      rw [e]
      repeat (first|refine Wa ?_|refine Wc ?_|refine Wd ?_|refine We rfl ?_|refine Wf (by first|exact Va|exact Vk (by omega)) rfl ?_|refine Wr ?_)
      exact ⟨i + 1, by omega, by omega, inferInstance⟩
    obtain rfl : i = L.length := by omega
    rw [show List.range L.length ++ List.replicate (L.length - L.length) 0 = List.range L.length by simp]
    repeat (first|refine Wa ?_|refine Wb ?_|refine Wc ?_|refine We rfl ?_|refine Wf (by first|exact Va|exact Vr) rfl ?_|refine Wm ?_|refine Wo ?_|refine Wp ?_)
    refine JR.callW (v := fun _ : Order (fun i j => cmpI (genC L i) (genC L j)) L.length => .tuple ⟨[]⟩) rfl (fun w1 hw => sortFunc_gen (el := 3) (a := a) (k := k) (bl := b1) (Γ := .own b2 101 [.map none, .map none] :: .own b5 101 [.map (some bo), .map (some bk)] :: .omap bo (ents idV ([] : List (ID × Value))) ([] : List (ID × Value)).length :: .omap bk (ents idV ([] : List (ID × Value))) ([] : List (ID × Value)).length :: .st (graphA []) :: .st (sl p q (cids L)) :: []) hl hw.ent) ?_
    rintro ⟨O, hO1, hO2⟩
    dsimp only
    have hOl : O.length = L.length := by rw [hO1.length_eq, List.length_range]
    obtain ⟨Lo, hLo⟩ : ∃ Lo, Lo = byO L O := ⟨_, rfl⟩
    have hLp : Lo.Perm L := hLo ▸ byO_perm hO1
    have hLl : Lo.length = L.length := hLp.length_eq
    have hLs : Lo.Pairwise (fun c d => c.gen ≤ d.gen) := by
      rw [hLo, byO, List.pairwise_map]
      refine hO2.imp ?_
      intro i j hij
      rw [cmpI_lt] at hij
      simp only [genC] at hij
      omega
    repeat (first|refine Wa ?_|refine Wb ?_|refine Wc ?_|refine Wd ?_|refine We rfl ?_|refine Wf (by first|exact Va|exact Vf) rfl ?_|refine Wn ?_)
    refine JC.loop2 (fun (i : Nat) (R : List Row) => [(1, .pointer (some ⟨b1, 0, none⟩)), (2, .pointer (some ⟨b2, 0, none⟩)), (5, .pointer (some ⟨b5, 0, none⟩)), (6, .slice p (cids L).length q), (40, .slice (some ⟨bO, 0, none⟩) L.length L.length), (41, .int .i64 (L.length : Int)), (42, .int .i64 (i : Int))])
      (fun i R => .own bO 3 (O.map natV) :: .own b2 101 [.map none, .map none] :: .own b5 101 [.map (some bo), .map (some bk)] :: .omap bo (ents idV (ofM R)) (ofM R).length :: .omap bk (ents idV (knM R)) (knM R).length :: .st (graphA R) :: .st (ro b1 0 [.slice a L.length k]) :: .st (sl a k L) :: .st (sl p q (cids L)) :: [])
      (fun i R => i ≤ L.length ∧ Built (grOf R) ∧ nodes (grOf R) = Lo.take i ∧ ∀ r ∈ R, r.1.2.Nodup) (fun i _ => L.length - i) 0 [] ⟨Nat.zero_le _, .nil, rfl, by simp⟩ (by rw [show ofM [] = [] from rfl, show knM [] = [] from rfl]; infer_instance) ?_
    intro i R ⟨hi, hB, hnd, hS⟩
    have hR := hB.right
    have hgen : ∀ r ∈ R, 0 ≤ r.1.1.gen ∧ r.1.1.gen ≤ 1048576 := fun r hr => by
      have h1 : r.1.1 ∈ nodes (grOf R) := by rw [nodes_gr]; exact List.mem_map.2 ⟨r, hr, rfl⟩
      rw [hnd] at h1
      have h2 := may_gen (hmay _ (hLp.mem_iff.1 (List.mem_of_mem_take h1)))
      omega
    repeat (first|refine Wa ?_|refine Wb ?_|refine Wc ?_|refine Wd ?_|refine We rfl ?_|refine Wf (by exact Vg) rfl ?_)
    refine JC.test (fun hlt => ?_) (fun hge => ?_)
    · have hlt' : i < L.length := by omega
      have hiO : i < O.length := by omega
      obtain ⟨j, hj⟩ : ∃ j, j = O[i] := ⟨_, rfl⟩
      have hjn : j < L.length := by rw [hj]; exact List.mem_range.1 (hO1.mem_iff.1 (List.getElem_mem hiO))
      have hLi : i < Lo.length := by omega
      have hLoi : Lo[i] = L[j] := by
        subst hLo
        simp [byO, ← hj, List.getD_eq_getElem?_getD, hjn]
      have hjm : L[j] ∈ L := List.getElem_mem hjn
      have hxe : (cids L)[j]'(by omega) = idC L[j] := cids_get L j (by omega)
      have hstep : Closed L → idC L[j] ∉ cids (nodes (grOf R)) ∧ merge L[j] = false ∧ addOk (grOf R) L[j] = true ∧ addGen (grOf R) L[j] = true := fun hc => by
        have := (Closed.perm hLp.symm hc).step hLs hB hLi hnd
        rwa [hLoi] at this
      have hkO : ((ofM R).map (·.1)).Nodup := by rw [ofM_keys]; exact hR.nodup
      repeat (first|refine Wa ?_|refine Wb ?_|refine Wc ?_|refine We rfl ?_|refine Wl ?_|refine Wn ?_)
      refine Wf (OpV.indexBuf (k := i) (by omega)) rfl ?_
      refine We rfl ?_
      refine Wf (OpV.getW (f := natV) i (by omega) (by omega) rfl) rfl ?_
      refine JO.reslot 45 (natV j) (by rw [hj]) ?_
      repeat (first|refine Wa ?_|refine Wb ?_|refine Wd ?_|refine We rfl ?_|refine Wf (by exact Vb) rfl ?_)
      refine JC.openID (L := cids L) (.slice p (cids L).length q) j (by omega) ?_
      intro bi oi
      rw [hxe]
      by_cases hd : idC L[j] ∈ cids (nodes (grOf R))
      · have hno : ¬ Closed L := fun hc => (hstep hc).1 hd
        obtain ⟨r, hr, hre, hgo, hgk, hkn⟩ := row_of hR.nodup hd
        refine JC.drawN [.own b5 101 [.map (some bo), .map (some bk)], .omap bo (ents idV (ofM R)) (ofM R).length, .st (elA (.slice p (cids L).length q) j 32 bi oi), .st (ro bi oi (idc (idC L[j])))] mixed ?_
        refine JN.take 0 rfl (by kernel_rfl) rfl Vd rfl rfl ?_
        refine JN.take 1 rfl (by kernel_rfl) rfl Vc rfl rfl ?_
        refine JN.take 2 rfl (by kernel_rfl) rfl Va rfl rfl ?_
        refine JN.take 3 rfl (by kernel_rfl) rfl Va rfl rfl ?_
        refine JN.take 4 rfl (by kernel_rfl) rfl Ve rfl rfl ?_
        refine JN.take 5 rfl (by kernel_rfl) rfl Vc rfl rfl ?_
        refine JN.take 6 rfl (by kernel_rfl) rfl (OpV.lookupOk (M := ofM R) (v := commitV r.1.1 r.2.1 r.2.2.1) (is := true) (idC L[j]) hkO (by rw [hgo]; rfl) (by rw [hgo]; rfl)) rfl rfl ?_
        refine JN.take 7 rfl (by kernel_rfl) rfl Va rfl rfl ?_
        refine JN.take 8 rfl (by kernel_rfl) rfl Vq rfl rfl ?_
        refine JN.take 9 rfl (by kernel_rfl) rfl Vq rfl rfl ?_
        refine JN.op 10 (by kernel_rfl) rfl rfl (Wg rfl (fun b11 => Wd ⟨rfl, inferInstance, ?_⟩))
        refine JN.op 11 (by kernel_rfl) rfl rfl (Wi (Wd ⟨rfl, inferInstance, ?_⟩))
        refine JN.op 12 (by kernel_rfl) rfl rfl (Wf Vb rfl (Wd ⟨rfl, inferInstance, ?_⟩))
        refine JN.nil (by kernel_rfl) ?_
        repeat (first|refine Wa ?_|refine Wb ?_)
        refine JC.quiet mixed (by kernel_rfl) ?_
        repeat (first|refine Wy rfl (by first|exact Va|exact Vc|exact Vi) rfl ?_|refine Wz rfl rfl ?_|refine WB ?_)
        repeat (first|refine Wa ?_|refine Wb ?_|refine Wc ?_|refine Wd ?_|refine We rfl ?_|refine Wf (by first|exact Vb|exact Vc) rfl ?_|refine Wi ?_|refine Wj ?_|refine Ws ?_|refine Wt ?_|refine Wu ?_)
        exact CT.done (Y := OfY L) ⟨⟨bo, bk, [], [], none, 0, false⟩, ofOk_no hno (Nat.zero_le _)⟩ rfl (fun w ho => (Hold.add (A := sl (α := ID) none 0 []) (ho.ent : Hold _ _ [] w) sl_nil))
      · obtain ⟨hgo, hgk⟩ := row_none hd
        refine JC.drawN [.own b5 101 [.map (some bo), .map (some bk)], .omap bo (ents idV (ofM R)) (ofM R).length, .st (elA (.slice p (cids L).length q) j 32 bi oi), .st (ro bi oi (idc (idC L[j])))] mixed ?_
        refine JN.take 0 rfl (by kernel_rfl) rfl Vd rfl rfl ?_
        refine JN.take 1 rfl (by kernel_rfl) rfl Vc rfl rfl ?_
        refine JN.take 2 rfl (by kernel_rfl) rfl Va rfl rfl ?_
        refine JN.take 3 rfl (by kernel_rfl) rfl Va rfl rfl ?_
        refine JN.take 4 rfl (by kernel_rfl) rfl Ve rfl rfl ?_
        refine JN.take 5 rfl (by kernel_rfl) rfl Vc rfl rfl ?_
        refine JN.take 6 rfl (by kernel_rfl) rfl (OpV.lookupOk (M := ofM R) (v := .agg ⟨[.int .i64 0, .int .i64 0, .int .i64 0, .slice none 0 0, .int .i64 0, .string .empty, .string .empty, .int .i64 0]⟩) (is := false) (idC L[j]) hkO (by rw [hgo]; rfl) (by rw [hgo]; rfl)) rfl rfl ?_
        refine JN.take 7 rfl (by kernel_rfl) rfl Va rfl rfl ?_
        refine JN.take 8 rfl (by kernel_rfl) rfl Vq rfl rfl ?_
        refine JN.take 9 rfl (by kernel_rfl) rfl Vq rfl rfl ?_
        refine JN.op 10 (by kernel_rfl) rfl rfl (Wg rfl (fun b11 => Wd ⟨rfl, inferInstance, ?_⟩))
        refine JN.op 11 (by kernel_rfl) rfl rfl (Wi (Wd ⟨rfl, inferInstance, ?_⟩))
        refine JN.op 12 (by kernel_rfl) rfl rfl (Wf Vb rfl (Wd ⟨rfl, inferInstance, ?_⟩))
        refine JN.nil (by kernel_rfl) ?_
        repeat (first|refine Wa ?_|refine Wb ?_)
        refine JC.openCommit (L := L) (.slice a L.length k) j hjn ?_
        intro bc oc pc qc
        have hfx := hf _ hjm
        cases hmer : merge L[j] with
        | true =>
          have hno : ¬ Closed L := fun hc => by have := (hstep hc).2.1; rw [hmer] at this; cases this
          refine JC.quiet mixed (by kernel_rfl) ?_
          repeat (refine Wy rfl (by first|exact Va|exact Vc|exact Ve) rfl ?_)
          refine JQ.call rfl rfl (fun w1 hw => merge_commit w1 _ (L[j]) pc qc hw.get hfx.1) ?_
          refine JQ.reslot 62 (.bool true) (by rw [hmer]) ?_
          repeat (first|refine Wy rfl (by first|exact Va|exact Vc|exact Vi|exact Vj) rfl ?_|refine Wz rfl rfl ?_|refine WB ?_)
          repeat (first|refine Wa ?_|refine Wb ?_|refine Wc ?_|refine Wd ?_|refine We rfl ?_|refine Wf (by first|exact Vb|exact Vc) rfl ?_|refine Wi ?_|refine Wj ?_|refine Ws ?_|refine Wt ?_|refine Wu ?_)
          exact CT.done (Y := OfY L) ⟨⟨bo, bk, [], [], none, 0, false⟩, ofOk_no hno (Nat.zero_le _)⟩ rfl (fun w ho => (Hold.add (A := sl (α := ID) none 0 []) (ho.ent : Hold _ _ [] w) sl_nil))
        | false =>
          refine JC.draw 18 mixed ?_
          refine JM.take 0 rfl (by kernel_rfl) rfl Va rfl rfl ?_
          refine JM.take 1 rfl (by kernel_rfl) rfl Va rfl rfl ?_
          refine JM.take 2 rfl (by kernel_rfl) rfl Vc rfl rfl ?_
          refine JM.take 3 rfl (by kernel_rfl) rfl Va rfl rfl ?_
          refine JM.take 4 rfl (by kernel_rfl) rfl Ve rfl rfl ?_
          refine JM.take 5 rfl (by kernel_rfl) rfl Vc rfl rfl ?_
          refine JM.takeCall 6 rfl (by kernel_rfl) rfl (fun w1 hw => merge_commit w1 _ (L[j]) pc qc hw.get hfx.1) rfl rfl ?_
          refine JM.reslot 62 (.bool false) (by rw [hmer]) ?_
          refine JM.take 7 rfl (by kernel_rfl) rfl Vj rfl rfl ?_
          refine JM.take 8 rfl (by kernel_rfl) rfl Va rfl rfl ?_
          refine JM.take 9 rfl (by kernel_rfl) rfl Vc rfl rfl ?_
          refine JM.take 10 rfl (by kernel_rfl) rfl Va rfl rfl ?_
          refine JM.take 11 rfl (by kernel_rfl) rfl Va rfl rfl ?_
          refine JM.take 12 rfl (by kernel_rfl) rfl Ve rfl rfl ?_
          refine JM.take 13 rfl (by kernel_rfl) rfl Vc rfl rfl ?_
          refine JM.take 14 rfl (by kernel_rfl) rfl Vc rfl rfl ?_
          refine JM.take 15 rfl (by kernel_rfl) rfl Va rfl rfl ?_
          refine JM.take 16 rfl (by kernel_rfl) rfl Ve rfl rfl ?_
          refine JM.take 17 rfl (by kernel_rfl) rfl Vc rfl rfl ?_
          refine JM.last 18 (by kernel_rfl) rfl rfl rfl (JR.callW (v := fun y : AddY R L[j] => .bool y.1.2.2) rfl (fun w1 hw => add_graph (a := pc) (k := qc) (Γ := .own bO 3 (O.map natV) :: .own b2 101 [.map none, .map none] :: .own b5 101 [.map (some bo), .map (some bk)] :: .st (ro b1 0 [.slice a L.length k]) :: .st (sl a k L) :: .st (sl p q (cids L)) :: []) hR.nodup hS hd hgen hw.ent) (fun y => ?_))
          rcases y with ⟨⟨S, ba, ok⟩, hy1, hy2⟩
          dsimp only at hy1 hy2 ⊢
          cases ok with
          | false =>
            have hno : ¬ Closed L := fun hc => by
              have := hstep hc
              rw [this.2.2.1, this.2.2.2] at hy1; cases hy1
            rw [if_neg (by simp)]
            refine Wd ⟨rfl, ?_⟩
            refine JM.last 19 (by kernel_rfl) rfl rfl rfl (Wf Vh rfl (Wd ⟨rfl, ?_⟩))
            refine JM.last 20 (by kernel_rfl) rfl rfl rfl (Wf Vj rfl (Wd ⟨rfl, ?_⟩))
            refine JM.nil (by kernel_rfl) ?_
            repeat (first|refine Wa ?_|refine Wb ?_|refine Wc ?_|refine Wd ?_|refine We rfl ?_|refine Wf (by first|exact Vb|exact Vc) rfl ?_|refine Wi ?_|refine Wj ?_|refine Ws ?_|refine Wt ?_|refine Wu ?_)
            exact CT.done (Y := OfY L) ⟨⟨bo, bk, [], [], none, 0, false⟩, ofOk_no hno (Nat.zero_le _)⟩ rfl (fun w ho => (Hold.add (A := sl (α := ID) none 0 []) (ho.ent : Hold _ _ [] w) sl_nil))
          | true =>
            obtain ⟨hSn, hSk⟩ := hy2 rfl
            have hy1' := hy1.symm
            rw [Bool.and_eq_true] at hy1'
            rw [if_pos rfl]
            refine Wd ⟨rfl, ?_⟩
            refine JM.last 19 (by kernel_rfl) rfl rfl rfl (Wf Vh rfl (Wd ⟨rfl, ?_⟩))
            refine JM.last 20 (by kernel_rfl) rfl rfl rfl (Wf Vj rfl (Wd ⟨rfl, ?_⟩))
            refine JM.nil (by kernel_rfl) ?_
            repeat (first|refine Wa ?_|refine Wc ?_|refine Wd ?_|refine We rfl ?_|refine Wf (by first|exact Va|exact Vk (by omega)) rfl ?_|refine Wk ?_|refine Wl ?_|refine Wr ?_)
            refine ⟨i + 1, R ++ [((L[j], S), (pc, qc, ba))], ⟨by omega, ?_, ?_, fun r hr => ?_⟩, by omega, inferInstance⟩
            · rw [grOf_snoc]; exact .snoc hB hd hmer hy1'.1 hy1'.2 hSk
            · rw [grOf_snoc, nodes_snoc, hnd, List.take_succ_eq_append_getElem hLi, hLoi]
            · rcases List.mem_append.1 hr with hr | hr
              · exact hS r hr
              · simp only [List.mem_singleton] at hr; subst hr; exact hSn
    · obtain rfl : i = L.length := by omega
      rw [List.take_of_length_le (by omega)] at hnd
      have hfin : Closed L ↔ evG R = true := by
        rw [evG_iff hR]
        constructor
        · intro hc c hcm d hdm
          rw [hnd] at hcm hdm ⊢
          exact (Closed.perm hLp.symm hc).ev c hcm d hdm
        · intro he
          have := hB.closed (fun c hc => hmay c (by rw [hnd] at hc; exact hLp.mem_iff.1 hc)) he
          rw [hnd] at this
          exact Closed.perm hLp this
      refine JC.more (Γ' := .st (rmap bo (ents idV (ofM R)) (ofM R).length) :: .st (rmap bk (ents idV (knM R)) (knM R).length) :: .st (graphA R) :: .own b2 101 [.map none, .map none] :: .own b5 101 [.map (some bo), .map (some bk)] :: .st (ro b1 0 [.slice a L.length k]) :: .st (sl a k L) :: .st (sl p q (cids L)) :: []) (fun w1 ho => ?_) ?_
      · have h1 : Hold _ _ (.omap bo (ents idV (ofM R)) (ofM R).length :: .omap bk (ents idV (knM R)) (knM R).length :: .st (graphA R) :: .own b2 101 [.map none, .map none] :: .own b5 101 [.map (some bo), .map (some bk)] :: .st (ro b1 0 [.slice a L.length k]) :: .st (sl a k L) :: .st (sl p q (cids L)) :: []) w1 := ho.ent
        have h2 : Hold _ _ (.omap bk (ents idV (knM R)) (knM R).length :: .st (rmap bo (ents idV (ofM R)) (ofM R).length) :: .st (graphA R) :: .own b2 101 [.map none, .map none] :: .own b5 101 [.map (some bo), .map (some bk)] :: .st (ro b1 0 [.slice a L.length k]) :: .st (sl a k L) :: .st (sl p q (cids L)) :: []) w1 := (h1.pubMap).ent
        exact (h2.pubMap).ent
      repeat (first|refine Wa ?_|refine Wb ?_|refine Wm ?_|refine Wo ?_|refine Wp ?_)
      refine JC.drawN [.own b5 101 [.map (some bo), .map (some bk)]] mixed ?_
      refine JN.take 0 rfl (by kernel_rfl) rfl Vc rfl rfl ?_
      refine JN.take 1 rfl (by kernel_rfl) rfl Va rfl rfl ?_
      refine JN.take 2 rfl (by kernel_rfl) rfl Vc rfl rfl ?_
      refine JN.op 3 (by kernel_rfl) rfl rfl (JR.callV rfl (fun w1 hw => events_graph w1 _ bo bk R hR.nodup hS hw.get hw.get hw.get) (Wd ⟨rfl, inferInstance, ?_⟩))
      refine JN.op 4 (by kernel_rfl) rfl rfl (Wi (Wd ⟨rfl, inferInstance, ?_⟩))
      refine JN.op 5 (by kernel_rfl) rfl rfl (Wf Vb rfl (Wd ⟨rfl, inferInstance, ?_⟩))
      refine JN.op 6 (by kernel_rfl) rfl rfl (Wf Vb rfl (Wd ⟨rfl, inferInstance, ?_⟩))
      refine JN.nil (by kernel_rfl) ?_
      repeat (first|refine Wa ?_|refine Ws ?_)
      refine CT.done (Y := OfY L) ⟨⟨bo, bk, R, cids L, p, q, evG R⟩, ⟨hfin.symm, by show (cids L).length ≤ _; omega, fun _ => rfl, fun _ => hB, fun _ => by rw [hnd]; exact hLp, fun _ => hS⟩⟩ rfl (fun w ho => ?_)
      by_cases hev : evG R = true
      · rw [ofB, if_pos hev]; exact ho.ent
      · rw [ofB, if_neg hev]; exact ho.ent
end Ab
end Go.Proofs.YtdgeffphifgflaaGreat
namespace Go.Proofs.YtdgeffphifgflaaGreat
namespace Ab
open Go Go.RowKit
set_option linter.unusedVariables false
set_option linter.unusedSimpArgs false
set_option synthInstance.maxSize 4000
set_option synthInstance.maxHeartbeats 400000
attribute [local irreducible] JC JO JR JQ andThen inBlock OpV Gives retTo JM JS
attribute [local irreducible] ents hashC graphA
abbrev IsClosed (L : List Commit) := { b : Bool // b = true ↔ Closed L }
theorem closed_dag (w : World) (F : Nat → Prop) (a : Option Addr) (k : Nat) (L : List Commit) (h : (sl a k L).holds F w) (hl : L.length ≤ 1000000) (hf : ∀ x ∈ L, fine x) :
    Gives Tryz.prog 25 [.slice a L.length k] w F (fun y : IsClosed L => .bool y.1) (fun _ => []) := by
  refine gives_of Tryz.func25 rfl Tryz.ntmps25 rfl rfl [.st (sl a k L)] (.start1 h) ?_
  repeat (first|refine Wa ?_|refine Wb ?_|refine Wc ?_|refine Wd ?_|refine We rfl ?_|refine Wf (by first|exact Va|exact Vb) rfl ?_)
  refine JR.call (v := fun y : OfY L => ofV y) rfl (fun w1 hw => of_dag w1 _ a k L hw.get hl hf) ?_
  rintro ⟨⟨bo, bk, R, I, p, q, b⟩, hy⟩
  dsimp only [ofV]
  refine JO.more (Γ' := []) (fun w1 ho => ho.ent) ?_
  repeat (first|refine Wa ?_|refine Wb ?_|refine Wc ?_|refine Wd ?_|refine We rfl ?_|refine Wf (by first|exact Va|exact Vb|exact Vq) rfl ?_|(refine Wg rfl ?_; intro _)|refine Wi ?_|refine Ws ?_)
  exact CT.done (Y := IsClosed L) ⟨b, hy.iff⟩ rfl (fun w ho => ho.ent)
def inAnc (L : List Commit) (A : List ID) (x : ID) : Prop := x ∈ cids L ∧ (x ∈ A ∨ ∃ y ∈ A, knows L y x)
structure AncR (L : List Commit) (A M : List ID) : Prop where
  sorted : M.Pairwise (fun x y => idLt y x = false)
  nodup : M.Nodup
  mem : Closed L → ∀ x, x ∈ M ↔ inAnc L A x
  not : ¬ Closed L → M = []
structure PartR (L : List Commit) (A : List ID) (M : List Commit) : Prop where
  part : Closed L → M = L.filter (fun c => decide (idC c ∈ A))
  not : ¬ Closed L → M = []
def leS (c d : Commit) : Prop := c.gen < d.gen ∨ (c.gen = d.gen ∧ idLt (idC d) (idC c) = false)
structure SortedR (L M : List Commit) : Prop where
  perm : Closed L → M.Perm L
  sorted : Closed L → M.Pairwise leS
  not : ¬ Closed L → M = []
end Ab
end Go.Proofs.YtdgeffphifgflaaGreat
namespace Go.Proofs.YtdgeffphifgflaaGreat
namespace Ab
open Go Go.RowKit
set_option linter.unusedVariables false
set_option linter.unusedSimpArgs false
set_option synthInstance.maxSize 4000
set_option synthInstance.maxHeartbeats 400000
attribute [local irreducible] JC JO JR JQ andThen inBlock OpV Gives retTo JM JS
attribute [local irreducible] hashC
def keyA : ByteArray := ⟨#[97]⟩
def l0 : Commit := ⟨⟨0, 1⟩, 1, [], ⟨0, keyA, .empty, 1⟩⟩
def idA : ID := (hashC l0).1
def l1 : Commit := ⟨⟨0, 2⟩, 2, [idA], ⟨0, keyA, .empty, 2⟩⟩
theorem some_law (w : World) (F : Nat → Prop) : GivesV Tryz.prog 56 [] w F (commitV l0 none 0) := by
  refine gives_of Tryz.func56 rfl Tryz.ntmps56 rfl rfl [] (.start w F) ?_
  repeat (first|refine Wa ?_|refine Wb ?_|refine Wc ?_|refine Wd ?_|refine We rfl ?_|(refine Wg rfl ?_; intro _))
  refine Wf (OpV.build [.int .i64 0, .int .i64 1] (by kernel_rfl)) rfl ?_
  repeat (refine We rfl ?_)
  refine Wf (OpV.build [.int .i64 0, .string keyA, .string .empty, .int .i64 1] (by kernel_rfl)) rfl ?_
  repeat (refine We rfl ?_)
  refine Wf (OpV.build [.int .i64 0, .int .i64 1, .int .i64 1, .slice none 0 0, .int .i64 0, .string keyA, .string .empty, .int .i64 1] (by kernel_rfl)) rfl ?_
  repeat (first|refine Wa ?_|refine Wd ?_|refine We rfl ?_|refine Wi ?_|refine Ws ?_)
  exact CT.done () rfl (fun w ho => ho.ent)
end Ab
end Go.Proofs.YtdgeffphifgflaaGreat
namespace Go.Proofs.YtdgeffphifgflaaGreat
namespace Ab
open Go Go.RowKit
set_option linter.unusedVariables false
set_option linter.unusedSimpArgs false
set_option synthInstance.maxSize 4000
set_option synthInstance.maxHeartbeats 400000
attribute [local irreducible] JC JO JR JQ andThen inBlock OpV Gives retTo JM JS
theorem may_l0 : may l0 = true := by decide +kernel
theorem idA_eq : idA = sumI (commitPut l0) := by simp only [idA, hashC, may_l0, if_true]
set_option maxRecDepth 100000 in
theorem may_l1 : may l1 = true := by decide +kernel
def idB : ID := (hashC l1).1
set_option maxRecDepth 100000 in
theorem sums_differ : sumL (commitPut l0) ≠ sumL (commitPut l1) := by decide +kernel
theorem idA_ne : idA ≠ idB := by
  intro h
  have h1 : idB = sumI (commitPut l1) := by simp only [idB, hashC, may_l1, if_true]
  rw [idA_eq, h1] at h
  exact sums_differ (congrArg (·.1) h)
attribute [local irreducible] hashC idA l0 l1
end Ab
end Go.Proofs.YtdgeffphifgflaaGreat
namespace Go.Proofs.YtdgeffphifgflaaGreat
namespace Ab
open Go Go.RowKit
set_option linter.unusedVariables false
set_option linter.unusedSimpArgs false
set_option synthInstance.maxSize 4000
set_option synthInstance.maxHeartbeats 400000
attribute [local irreducible] JC JO JR JQ andThen inBlock OpV Gives retTo JM JS
attribute [local irreducible] hashC
theorem closed_yes (w : World) (F : Nat → Prop) (a : Option Addr) (k : Nat) (L : List Commit) (h : (sl a k L).holds F w) (hl : L.length ≤ 1000000) (hf : ∀ x ∈ L, fine x) (hc : Closed L) :
    GivesV Tryz.prog 25 [.slice a L.length k] w F (.bool true) := by
  have h0 := closed_dag w F a k L h hl hf
  unfold Gives at h0
  unfold GivesV Gives
  refine Calls.mono h0 ?_
  rintro e w' ⟨y, rfl, hb, hB⟩
  exact ⟨(), by dsimp only; rw [y.2.2 hc], hb, hB⟩
theorem closed_no (w : World) (F : Nat → Prop) (a : Option Addr) (k : Nat) (L : List Commit) (h : (sl a k L).holds F w) (hl : L.length ≤ 1000000) (hf : ∀ x ∈ L, fine x) (hc : ¬ Closed L) :
    GivesV Tryz.prog 25 [.slice a L.length k] w F (.bool false) := by
  have h0 := closed_dag w F a k L h hl hf
  unfold Gives at h0
  unfold GivesV Gives
  refine Calls.mono h0 ?_
  rintro e w' ⟨y, rfl, hb, hB⟩
  refine ⟨(), ?_, hb, hB⟩
  have : y.1 = false := by rw [← Bool.not_eq_true]; exact fun h => hc (y.2.1 h)
  dsimp only
  rw [this]
theorem anc_ex (L : List Commit) (A : List ID) : ∃ M, AncR L A M := by
  by_cases hc : Closed L
  · refine ⟨sortL ((cids L).filter fun x => @decide (inAnc L A x) (Classical.propDecidable _)), sortL_pairwise _, (sortL_perm' _).nodup_iff.2 (hc.nodup.sublist List.filter_sublist), fun _ x => ?_, fun h => (h hc).elim⟩
    rw [mem_sortL, List.mem_filter]
    constructor
    · rintro ⟨_, h⟩; exact @of_decide_eq_true _ (Classical.propDecidable _) h
    · intro h; exact ⟨h.1, @decide_eq_true _ (Classical.propDecidable _) h⟩
  · exact ⟨[], List.Pairwise.nil, List.nodup_nil, fun h => (hc h).elim, fun _ => rfl⟩
theorem cids_two : cids [l0, l1] = [idA, idB] := rfl
theorem par_two {x y : ID} : par [l0, l1] x y ↔ x = idB ∧ y = idA := by
  constructor
  · rintro ⟨c, hc, rfl, hy, _⟩
    simp only [List.mem_cons, List.not_mem_nil, or_false] at hc
    rcases hc with rfl | rfl
    · simp [l0] at hy
    · exact ⟨rfl, by simpa [l1] using hy⟩
  · rintro ⟨rfl, rfl⟩
    exact ⟨l1, by simp, rfl, by simp [l1], by rw [cids_two]; simp⟩
theorem knows_two {x y : ID} : knows [l0, l1] x y ↔ x = idB ∧ y = idA := by
  constructor
  · intro h
    induction h with
    | single h1 => exact par_two.1 h1
    | tail _ h1 ih =>
      have := par_two.1 h1
      exact absurd (ih.2.symm.trans this.1) (by exact fun e => idA_ne e)
  · intro h; exact .single (par_two.2 h)
theorem closed_two : Closed [l0, l1] := by
  have hn : (cids [l0, l1]).Nodup := by rw [cids_two]; simp [idA_ne]
  refine ⟨by simp [may_l0, may_l1], hn, fun c hc => ?_, fun c hc d hd hne hnode => ?_⟩
  · simp only [List.mem_cons, List.not_mem_nil, or_false] at hc
    rcases hc with rfl | rfl
    · exact ⟨by simp [merge, l0], by simp [l0], by simp [l0], by simp [l0, maxGen]⟩
    · refine ⟨by simp [merge, l1], ?_, ?_, ?_⟩
      · rw [cids_two]; simp [l1]
      · intro p hp q hq hk
        have h1 := knows_two.1 hk
        have h2 : p = idA := by simpa [l1] using hp
        exact idA_ne (h2.symm.trans h1.1)
      · have : genAt [l0, l1] idA = l0.gen := genAt_of hn (c := l0) (by simp)
        show l1.gen = maxGen [l0, l1] [idA] + 1
        rw [maxGen, List.foldl_cons, List.foldl_nil, this]; rfl
  · simp only [List.mem_cons, List.not_mem_nil, or_false] at hc hd
    rcases hc with rfl | rfl <;> rcases hd with rfl | rfl
    · exact (hne rfl).elim
    · exact ⟨by simp [l0, l1], fun h => by simp [l0, l1] at h⟩
    · exact ⟨by simp [l0, l1], fun _ => knows_two.2 ⟨rfl, rfl⟩⟩
    · exact (hne rfl).elim
theorem fine_few {c : Commit} (h : fewC c = true) : fine c := by
  simp only [fewC, Bool.and_eq_true, decide_eq_true_eq] at h
  exact ⟨⟨by omega, by omega⟩, by omega⟩
instance : Cell (List ID) where
  Ix := Option Addr × Nat
  sz := 1
  cells l y := [.slice y.1 l.length y.2]
  facts l y := [sl y.1 y.2 l]
  len _ _ := rfl
  one l y := by simp [Value.oneCell']
  pos := by decide
section
variable {P : Program} {n : Nn} {w0 : World} {F : Nat → Prop} {ops : Array Oper} {i d : Nat} {t : TypeId} {pos : String} {aft : Array Edge} {g : Option (Nat × Bool)} {os : List Oper} {Q : Cont} {e : E} {Γ : List Fact} [Dr]
end
end Ab
end Go.Proofs.YtdgeffphifgflaaGreat
namespace Go.Proofs.YtdgeffphifgflaaGreat
namespace Ab
open Go Go.RowKit
set_option linter.unusedVariables false
set_option linter.unusedSimpArgs false
set_option synthInstance.maxSize 4000
set_option synthInstance.maxHeartbeats 400000
attribute [local irreducible] JC JO JR JQ andThen inBlock OpV Gives retTo JM JS
attribute [local irreducible] hashC idA l0 l1 ents
open Classical in
noncomputable def closedB (L : List Commit) : Bool := decide (Closed L)
theorem closedB_iff {L : List Commit} : closedB L = true ↔ Closed L := by simp [closedB]
noncomputable def ancF (L : List Commit) (A : List ID) : List ID := Classical.choose (anc_ex L A)
noncomputable def partF (L : List Commit) (A : List ID) : List Commit := if closedB L then L.filter (fun c => decide (idC c ∈ A)) else []
noncomputable def frontF (L : List Commit) : List ID := if closedB L then someIds (cids L) (parentsL L) false else []
def topL (L : List Commit) : Int := L.foldl (fun g c => max g c.gen) 0
def headC (g : Int) (f : List ID) : Commit := ⟨⟨-1, 0⟩, g, f, op0⟩
def mergeR (g : Int) (f : List ID) : Commit × Bool := if merge (headC g f) then (headC g f, true) else (commit0, false)
noncomputable def joinF (L : List Commit) (A : List ID) : Commit × Bool :=
  match frontF (partF L (ancF L A)) with
  | [] => (commit0, false)
  | [x] => findR L x
  | f => mergeR (topL (partF L f) + 1) f
noncomputable def headF (L : List Commit) : Commit × Bool := joinF L (idsP L)
noncomputable def baseF (L : List Commit) (A B : List ID) : List ID := someIds (ancF L A) (ancF L B) true
noncomputable def nextC (L : List Commit) (ev : Ev_) (o : Op_) : Commit := ⟨ev, topL L + 1, frontF L, o⟩
noncomputable def nextF (L : List Commit) (ev : Ev_) (o : Op_) : Commit × Bool :=
  if closedB L && may (nextC L ev o) && closedB (L ++ [nextC L ev o]) then (nextC L ev o, true) else (commit0, false)
end Ab
end Go.Proofs.YtdgeffphifgflaaGreat
namespace Go.Proofs.YtdgeffphifgflaaGreat
namespace Ab
open Go Go.RowKit
set_option linter.unusedVariables false
set_option linter.unusedSimpArgs false
set_option synthInstance.maxSize 4000
set_option synthInstance.maxHeartbeats 400000
attribute [local irreducible] JC JO JR JQ andThen inBlock OpV Gives retTo JM JS
theorem sub_and (b c : UInt32) : b - (c &&& b) = b &&& ~~~c := by
  have h : (c &&& b) + (b &&& ~~~c) = b := by
    apply UInt32.toBitVec_inj.1
    simp only [UInt32.toBitVec_add, UInt32.toBitVec_and, UInt32.toBitVec_not]
    rw [BitVec.add_eq_or_of_and_eq_zero]
    · ext i hi
      simp
      cases c.toBitVec[i] <;> simp
    · ext i hi
      simp
      cases c.toBitVec[i] <;> simp
  have h2 : b - (c &&& b) = (c &&& b) + (b &&& ~~~c) - (c &&& b) := by rw [h]
  rw [h2, UInt32.add_comm, UInt32.add_sub_cancel]
theorem pick_ref (w : World) (F : Nat → Prop) (c a b : UInt32) : GivesV Tryz.prog 236 [w32 c, w32 a, w32 b] w F (w32 (pick32 c a b)) := by
  refine gives_of Tryz.func236 rfl Tryz.ntmps236 rfl rfl [] (.start w F) ?_
  repeat (first | refine Wa ?_ | refine Wb ?_ | refine Wc ?_ | refine Wd ?_ | refine We rfl ?_ | refine Wf (by first | exact Va | exact Vb | exact OpV.and32 | exact OpV.or32 | exact OpV.xor32 | exact OpV.andNot32 | exact OpV.add32 | exact OpV.sub32 | exact OpV.mul32) rfl ?_ | refine Ws ?_ | refine Wt ?_)
  exact CT.done () (by simp only [packed, pick32, sub_and]) (fun w ho => ho.ent)
theorem most_or (a b c : UInt32) : ((a &&& b) ||| (a &&& c)) ||| (b &&& c) = most32 a b c := by
  apply UInt32.toBitVec_inj.1
  simp only [most32, UInt32.toBitVec_or, UInt32.toBitVec_and, UInt32.toBitVec_xor]
  ext i hi
  simp
  cases a.toBitVec[i] <;> cases b.toBitVec[i] <;> cases c.toBitVec[i] <;> rfl
theorem most_ref (w : World) (F : Nat → Prop) (a b c : UInt32) : GivesV Tryz.prog 237 [w32 a, w32 b, w32 c] w F (w32 (most32 a b c)) := by
  refine gives_of Tryz.func237 rfl Tryz.ntmps237 rfl rfl [] (.start w F) ?_
  repeat (first | refine Wa ?_ | refine Wb ?_ | refine Wc ?_ | refine Wd ?_ | refine We rfl ?_ | refine Wf (by first | exact Va | exact Vb | exact OpV.and32 | exact OpV.or32 | exact OpV.xor32 | exact OpV.andNot32 | exact OpV.add32 | exact OpV.sub32 | exact OpV.mul32) rfl ?_ | refine Ws ?_ | refine Wt ?_)
  exact CT.done () (by simp only [packed, most_or]) (fun w ho => ho.ent)
theorem right_ref (w : World) (F : Nat → Prop) (x : UInt32) (k : Nat) (hk : 1 ≤ k ∧ k ≤ 31) : GivesV Tryz.prog 235 [w32 x, .int .i64 (k : Int)] w F (w32 (rotR x k)) := by
  refine gives_of Tryz.func235 rfl Tryz.ntmps235 rfl rfl [] (.start w F) ?_
  repeat (first | refine Wa ?_ | refine Wb ?_ | refine Wc ?_ | refine Wd ?_ | refine We rfl ?_ | refine Wf (by first | exact Va | exact Vb | exact OpV.and32 | exact OpV.or32 | exact OpV.xor32 | exact OpV.andNot32 | exact OpV.add32 | exact OpV.sub32 | exact OpV.mul32) rfl ?_ | refine Ws ?_ | refine Wt ?_)
  refine Wf (OpV.rem (by decide)) rfl ?_
  refine JO.reslot 6 (.int .i64 (k : Int)) (by congr 1; rw [Int.tmod_eq_emod_of_nonneg (by omega)]; omega) ?_
  repeat (first | refine Wa ?_ | refine Wb ?_ | refine Wc ?_ | refine Wd ?_ | refine We rfl ?_ | refine Wf (by first | exact Va | exact Vb | exact OpV.and32 | exact OpV.or32 | exact OpV.xor32 | exact OpV.andNot32 | exact OpV.add32 | exact OpV.sub32 | exact OpV.mul32) rfl ?_ | refine Ws ?_ | refine Wt ?_)
  repeat (first|refine Wa ?_|refine Wb ?_|refine Wc ?_|refine Wd ?_|refine We rfl ?_|refine Wf (by first|exact Va|exact Vg) rfl ?_|refine Wk ?_|refine Wl ?_)
  refine Wf (OpV.convIn (by rw [wrap64]; omega)) rfl ?_
  refine We rfl ?_
  refine Wf (OpV.shr32 (k := k) (by omega)) rfl ?_
  repeat (first|refine We rfl ?_|refine Wf (by first|exact Va|exact Vu (by omega)) rfl ?_)
  refine Wf (OpV.convIn (by rw [wrap64]; omega)) rfl ?_
  refine We rfl ?_
  refine Wf (OpV.shl32 (k := 32 - k) (by omega)) rfl ?_
  repeat (first | refine Wa ?_ | refine Wb ?_ | refine Wc ?_ | refine Wd ?_ | refine We rfl ?_ | refine Wf (by first | exact Va | exact Vb | exact OpV.and32 | exact OpV.or32 | exact OpV.xor32 | exact OpV.andNot32 | exact OpV.add32 | exact OpV.sub32 | exact OpV.mul32) rfl ?_ | refine Ws ?_ | refine Wt ?_)
  exact CT.done () rfl (fun w ho => ho.ent)
set_option maxRecDepth 20000 in
theorem word4_nat (a b c d : UInt8) : word4 a b c d = 16777216 * a.toUInt32 + 65536 * b.toUInt32 + 256 * c.toUInt32 + d.toUInt32 := by
  have ha := a.toNat_lt
  have hb := b.toNat_lt
  have hc := c.toNat_lt
  have hd := d.toNat_lt
  have e1 := Nat.shiftLeft_add_eq_or_of_lt (i := 8) (by omega : d.toNat < 2 ^ 8) c.toNat
  have e2 := Nat.shiftLeft_add_eq_or_of_lt (i := 16) (by omega : c.toNat * 256 + d.toNat < 2 ^ 16) b.toNat
  have e3 := Nat.shiftLeft_add_eq_or_of_lt (i := 24) (by omega : b.toNat * 65536 + (c.toNat * 256 + d.toNat) < 2 ^ 24) a.toNat
  simp only [Nat.shiftLeft_eq] at e1 e2 e3
  apply UInt32.toNat_inj.1
  simp only [word4, shlN32, UInt32.toNat_or, UInt32.toNat_ofNat', UInt8.toNat_toUInt32, UInt32.toNat_add, UInt32.toNat_mul]
  rw [Nat.mod_eq_of_lt (by omega : a.toNat * 2 ^ 24 < 2 ^ 32), Nat.mod_eq_of_lt (by omega : b.toNat * 2 ^ 16 < 2 ^ 32), Nat.mod_eq_of_lt (by omega : c.toNat * 2 ^ 8 < 2 ^ 32)]
  rw [Nat.or_assoc, Nat.or_assoc, ← e1, ← e2, ← e3]
  have l1 : (16777216 : UInt32).toNat = 16777216 := by decide
  have l2 : (65536 : UInt32).toNat = 65536 := by decide
  have l3 : (256 : UInt32).toNat = 256 := by decide
  rw [l1, l2, l3, Nat.mod_eq_of_lt (a := 16777216 * a.toNat) (by omega), Nat.mod_eq_of_lt (a := 65536 * b.toNat) (by omega), Nat.mod_eq_of_lt (a := 256 * c.toNat) (by omega), Nat.mod_eq_of_lt (a := 16777216 * a.toNat + 65536 * b.toNat) (by omega), Nat.mod_eq_of_lt (a := 16777216 * a.toNat + 65536 * b.toNat + 256 * c.toNat) (by omega), Nat.mod_eq_of_lt (by omega)]
  clear e1 e2 e3 l1 l2 l3
  omega
theorem convAt {L : List UInt8} {j : Nat} (h : j < L.length) : Value.int .u32 (IntKind.u32.wrap ((L[j]).toNat : Int)) = w32 (L.getD j 0).toUInt32 := by
  rw [conv832]; simp [List.getD_eq_getElem?_getD, h]
theorem word_ref (w : World) (F : Nat → Prop) (a : Option Addr) (c : Nat) (L : List UInt8) (k : Nat) (h : (sl a c L).holds F w) (hk : k + 4 ≤ L.length) :
    GivesV Tryz.prog 257 [.slice a L.length c, .int .i64 (k : Int)] w F (.tuple ⟨[w32 (wordAt L k), .bool true]⟩) := by
  have hL : L.length < 9223372036854775800 := by have := h.2.2.1; simp only [lim] at this; omega
  refine gives_of Tryz.func257 rfl Tryz.ntmps257 rfl rfl [.st (sl a c L)] (.start1 h) ?_
  repeat (first|refine Wa ?_|refine Wb ?_|refine Wc ?_|refine Wd ?_|refine We rfl ?_|refine Wf (by first|exact Va|exact Vb|exact Vf|exact Vg|exact Vj|exact Vo|exact Vu (by omega)) rfl ?_)
  refine JC.reslot 14 (.bool false) (by congr 1; simp only [decide_eq_false_iff_not]; omega) ?_
  repeat (first|refine Wa ?_|refine Wb ?_|refine Wk ?_|refine Wl ?_)
  refine JC.openByte (.slice a L.length c) k (by omega) ?_
  intro b0 o0
  refine JC.openByte (.slice a L.length c) (k + 1) (by omega) ?_
  intro b1 o1
  refine JC.openByte (.slice a L.length c) (k + 2) (by omega) ?_
  intro b2 o2
  refine JC.openByte (.slice a L.length c) (k + 3) (by omega) ?_
  intro b3 o3
  refine JC.quiet mixed (by kernel_rfl) ?_
  refine Wy rfl Va rfl ?_
  refine Wy rfl Va rfl ?_
  refine Wy rfl Ve rfl ?_
  refine Wy rfl Vc rfl ?_
  refine Wy rfl OpV.conv rfl ?_
  refine JQ.reslot 19 (w32 (L.getD k 0).toUInt32) (convAt _) ?_
  refine Wy rfl OpV.mul32 rfl ?_
  refine Wy rfl Va rfl ?_
  refine Wy rfl Va rfl ?_
  refine Wy rfl (Vs (by omega)) rfl ?_
  refine Wy rfl Ve rfl ?_
  refine Wy rfl Vc rfl ?_
  refine Wy rfl OpV.conv rfl ?_
  refine JQ.reslot 26 (w32 (L.getD (k + 1) 0).toUInt32) (convAt _) ?_
  refine Wy rfl OpV.mul32 rfl ?_
  refine Wy rfl OpV.add32 rfl ?_
  refine Wy rfl Va rfl ?_
  refine Wy rfl Va rfl ?_
  refine Wy rfl (Vs (by omega)) rfl ?_
  refine Wy rfl Ve rfl ?_
  refine Wy rfl Vc rfl ?_
  refine Wy rfl OpV.conv rfl ?_
  refine JQ.reslot 34 (w32 (L.getD (k + 2) 0).toUInt32) (convAt _) ?_
  refine Wy rfl OpV.mul32 rfl ?_
  refine Wy rfl OpV.add32 rfl ?_
  refine Wy rfl Va rfl ?_
  refine Wy rfl Va rfl ?_
  refine Wy rfl (Vs (by omega)) rfl ?_
  refine Wy rfl Ve rfl ?_
  refine Wy rfl Vc rfl ?_
  refine Wy rfl OpV.conv rfl ?_
  refine JQ.reslot 42 (w32 (L.getD (k + 3) 0).toUInt32) (convAt _) ?_
  refine Wy rfl OpV.add32 rfl ?_
  refine Wy rfl Vb rfl ?_
  refine Wy rfl Vb rfl ?_
  refine WB ?_
  repeat (first|refine Wa ?_|refine Ws ?_)
  exact CT.done () (by simp only [packed, wordAt, word4_nat]) (fun w ho => ho.ent)
theorem conv8 (n : Nat) : Value.int .u8 (IntKind.u8.wrap (n : Int)) = byteV (UInt8.ofNat n) :=
  congrArg (Value.int .u8) (by rw [wrap8, UInt8.toNat_ofNat'])
theorem twist_ref (w : World) (F : Nat → Prop) (a b c : UInt32) : GivesV Tryz.prog 234 [w32 a, w32 b, w32 c] w F (w32 ((a ^^^ b) ^^^ c)) := by
  refine gives_of Tryz.func234 rfl Tryz.ntmps234 rfl rfl [] (.start w F) ?_
  repeat (first | refine Wa ?_ | refine Wb ?_ | refine Wc ?_ | refine Wd ?_ | refine We rfl ?_ | refine Wf (by first | exact Va | exact Vb | exact OpV.and32 | exact OpV.or32 | exact OpV.xor32 | exact OpV.andNot32 | exact OpV.add32 | exact OpV.sub32 | exact OpV.mul32 | exact OpV.quo32 (by decide) | exact OpV.rem32 (by decide) | exact OpV.quo64 (by decide) | exact OpV.rem64 (by decide)) rfl ?_ | refine Ws ?_ | refine Wt ?_)
  exact CT.done () rfl (fun w ho => ho.ent)
theorem start_ref (w : World) (F : Nat → Prop) : GivesV Tryz.prog 186 [] w F (.agg ⟨shaSV.1.map w32⟩) := by
  refine gives_of Tryz.func186 rfl Tryz.ntmps186 rfl rfl [] (.start w F) ?_
  repeat (first|refine Wa ?_|refine Wb ?_|refine Wc ?_|refine Wd ?_|refine We rfl ?_|(refine Wg rfl ?_; intro _))
  refine Wf (OpV.build [.int .u32 1779033703, .int .u32 3144134277, .int .u32 1013904242, .int .u32 2773480762, .int .u32 1359893119, .int .u32 2600822924, .int .u32 528734635, .int .u32 1541459225] (by kernel_rfl)) rfl ?_
  repeat (first|refine Wa ?_|refine Wd ?_|refine We rfl ?_|refine Wi ?_|refine Ws ?_)
  refine CT.done () ?_ (fun w ho => ho.ent)
  exact congrArg (fun l => Value.agg ⟨l⟩) (show _ = shaS.map w32 by kernel_rfl)
set_option maxRecDepth 4000 in
theorem constants_ref (w : World) (F : Nat → Prop) : GivesV Tryz.prog 232 [] w F (.agg ⟨shaKV.1.map w32⟩) := by
  show GivesV Tryz.prog 232 [] w F (.agg ⟨shaK.map w32⟩)
  refine gives_of Tryz.func232 rfl Tryz.ntmps232 rfl rfl [] (.start w F) ?_
  repeat (first|refine Wa ?_|refine Wb ?_|refine Wc ?_|refine Wd ?_|refine We rfl ?_|(refine Wg rfl ?_; intro _))
  refine Wf (OpV.build [.int .u32 1116352408, .int .u32 1899447441, .int .u32 3049323471, .int .u32 3921009573, .int .u32 961987163, .int .u32 1508970993, .int .u32 2453635748, .int .u32 2870763221, .int .u32 3624381080, .int .u32 310598401, .int .u32 607225278, .int .u32 1426881987, .int .u32 1925078388, .int .u32 2162078206, .int .u32 2614888103, .int .u32 3248222580, .int .u32 3835390401, .int .u32 4022224774, .int .u32 264347078, .int .u32 604807628, .int .u32 770255983, .int .u32 1249150122, .int .u32 1555081692, .int .u32 1996064986, .int .u32 2554220882, .int .u32 2821834349, .int .u32 2952996808, .int .u32 3210313671, .int .u32 3336571891, .int .u32 3584528711, .int .u32 113926993, .int .u32 338241895, .int .u32 666307205, .int .u32 773529912, .int .u32 1294757372, .int .u32 1396182291, .int .u32 1695183700, .int .u32 1986661051, .int .u32 2177026350, .int .u32 2456956037, .int .u32 2730485921, .int .u32 2820302411, .int .u32 3259730800, .int .u32 3345764771, .int .u32 3516065817, .int .u32 3600352804, .int .u32 4094571909, .int .u32 275423344, .int .u32 430227734, .int .u32 506948616, .int .u32 659060556, .int .u32 883997877, .int .u32 958139571, .int .u32 1322822218, .int .u32 1537002063, .int .u32 1747873779, .int .u32 1955562222, .int .u32 2024104815, .int .u32 2227730452, .int .u32 2361852424, .int .u32 2428436474, .int .u32 2756734187, .int .u32 3204031479, .int .u32 3329325298] (by kernel_rfl)) rfl ?_
  repeat (first|refine Wa ?_|refine Wd ?_|refine We rfl ?_|refine Wi ?_|refine Ws ?_)
  refine CT.done () ?_ (fun w ho => ho.ent)
  exact congrArg (fun l => Value.agg ⟨l⟩) (show _ = shaK.map w32 by kernel_rfl)
theorem four_0 (x : UInt32) : UInt8.ofNat (x / 16777216).toNat = fourB x 0 := by
  rw [fourB, UInt32.toNat_div]; rfl
theorem four_1 (x : UInt32) : UInt8.ofNat (x / 65536 % 256).toNat = fourB x 1 := by
  rw [fourB, UInt32.toNat_mod, UInt32.toNat_div]
  apply UInt8.toNat_inj.1
  rw [UInt8.toNat_ofNat', UInt8.toNat_ofNat', show (65536 : UInt32).toNat = 65536 by decide, show (256 : UInt32).toNat = 256 by decide]
  omega
theorem four_2 (x : UInt32) : UInt8.ofNat (x / 256 % 256).toNat = fourB x 2 := by
  rw [fourB, UInt32.toNat_mod, UInt32.toNat_div]
  apply UInt8.toNat_inj.1
  rw [UInt8.toNat_ofNat', UInt8.toNat_ofNat', show (256 : UInt32).toNat = 256 by decide]
  omega
theorem four_3 (x : UInt32) : UInt8.ofNat (x % 256).toNat = fourB x 3 := by
  rw [fourB, UInt32.toNat_mod]
  apply UInt8.toNat_inj.1
  rw [UInt8.toNat_ofNat', UInt8.toNat_ofNat', show (256 : UInt32).toNat = 256 by decide]
  omega
theorem four_ref (w : World) (F : Nat → Prop) (x : UInt32) : GivesV Tryz.prog 188 [w32 x] w F (.agg ⟨(fourL x).map byteV⟩) := by
  refine gives_of Tryz.func188 rfl Tryz.ntmps188 rfl rfl [] (.start w F) ?_
  repeat (first|refine Wa ?_|refine Wb ?_|refine Wc ?_|refine Wd ?_|refine We rfl ?_|refine Wf (by exact Va) rfl ?_|(refine Wg rfl ?_; intro _))
  repeat (first | refine Wa ?_ | refine Wb ?_ | refine Wc ?_ | refine Wd ?_ | refine We rfl ?_ | refine Wf (by first | exact Va | exact Vb | exact OpV.and32 | exact OpV.or32 | exact OpV.xor32 | exact OpV.andNot32 | exact OpV.add32 | exact OpV.sub32 | exact OpV.mul32 | exact OpV.quo32 (by decide) | exact OpV.rem32 (by decide) | exact OpV.quo64 (by decide) | exact OpV.rem64 (by decide)) rfl ?_ | refine Ws ?_ | refine Wt ?_)
  refine Wf OpV.conv rfl ?_
  refine JO.reslot 5 (byteV (fourB x 0)) (by rw [conv8, four_0]) ?_
  repeat (first | refine Wa ?_ | refine Wb ?_ | refine Wc ?_ | refine Wd ?_ | refine We rfl ?_ | refine Wf (by first | exact Va | exact Vb | exact OpV.and32 | exact OpV.or32 | exact OpV.xor32 | exact OpV.andNot32 | exact OpV.add32 | exact OpV.sub32 | exact OpV.mul32 | exact OpV.quo32 (by decide) | exact OpV.rem32 (by decide) | exact OpV.quo64 (by decide) | exact OpV.rem64 (by decide)) rfl ?_ | refine Ws ?_ | refine Wt ?_)
  refine Wf OpV.conv rfl ?_
  refine JO.reslot 9 (byteV (fourB x 1)) (by rw [conv8, four_1]) ?_
  repeat (first | refine Wa ?_ | refine Wb ?_ | refine Wc ?_ | refine Wd ?_ | refine We rfl ?_ | refine Wf (by first | exact Va | exact Vb | exact OpV.and32 | exact OpV.or32 | exact OpV.xor32 | exact OpV.andNot32 | exact OpV.add32 | exact OpV.sub32 | exact OpV.mul32 | exact OpV.quo32 (by decide) | exact OpV.rem32 (by decide) | exact OpV.quo64 (by decide) | exact OpV.rem64 (by decide)) rfl ?_ | refine Ws ?_ | refine Wt ?_)
  refine Wf OpV.conv rfl ?_
  refine JO.reslot 13 (byteV (fourB x 2)) (by rw [conv8, four_2]) ?_
  repeat (first | refine Wa ?_ | refine Wb ?_ | refine Wc ?_ | refine Wd ?_ | refine We rfl ?_ | refine Wf (by first | exact Va | exact Vb | exact OpV.and32 | exact OpV.or32 | exact OpV.xor32 | exact OpV.andNot32 | exact OpV.add32 | exact OpV.sub32 | exact OpV.mul32 | exact OpV.quo32 (by decide) | exact OpV.rem32 (by decide) | exact OpV.quo64 (by decide) | exact OpV.rem64 (by decide)) rfl ?_ | refine Ws ?_ | refine Wt ?_)
  refine Wf OpV.conv rfl ?_
  refine JO.reslot 16 (byteV (fourB x 3)) (by rw [conv8, four_3]) ?_
  refine We rfl ?_
  refine Wf (OpV.build [byteV (fourB x 0), byteV (fourB x 1), byteV (fourB x 2), byteV (fourB x 3)] (by kernel_rfl)) rfl ?_
  repeat (first|refine Wa ?_|refine Wd ?_|refine We rfl ?_|refine Wi ?_|refine Ws ?_)
  exact CT.done () rfl (fun w ho => ho.ent)
theorem longB_ref (x : UInt64) (k : Nat) (hk : k < 8) : UInt8.ofNat (shrN64 x (8 * k) % 256).toNat = longB x k := by
  have h1 : (shrN64 x (8 * k)).toNat = x.toNat / 2 ^ (8 * k) := by
    rw [shrN64, UInt64.toNat_ofNat', Nat.mod_eq_of_lt (Nat.lt_of_le_of_lt (Nat.div_le_self _ _) x.toNat_lt)]
  rw [longB, UInt64.toNat_mod, h1]
  apply UInt8.toNat_inj.1
  rw [UInt8.toNat_ofNat', UInt8.toNat_ofNat', show (256 : UInt64).toNat = 256 by decide]
  omega
theorem long_next (x : UInt64) (k : Nat) : shrN64 x (8 * k) / 256 = shrN64 x (8 * (k + 1)) := by
  have h1 : ∀ k, (shrN64 x k).toNat = x.toNat / 2 ^ k := fun k => by
    rw [shrN64, UInt64.toNat_ofNat', Nat.mod_eq_of_lt (Nat.lt_of_le_of_lt (Nat.div_le_self _ _) x.toNat_lt)]
  apply UInt64.toNat_inj.1
  rw [UInt64.toNat_div, h1, h1, Nat.div_div_eq_div_mul, show (256 : UInt64).toNat = 2 ^ 8 by decide, ← Nat.pow_add]; rfl
theorem long_ref (w : World) (F : Nat → Prop) (x : UInt64) : GivesV Tryz.prog 231 [w64 x] w F (.agg ⟨(longL x).map byteV⟩) := by
  refine gives_of Tryz.func231 rfl Tryz.ntmps231 rfl rfl [] (.start w F) ?_
  repeat (first|refine Wa ?_|refine Wb ?_|refine Wc ?_|refine Wd ?_|refine We rfl ?_|(refine Wg rfl ?_; intro _))
  refine Wf (OpV.build ((longK x 0).1.map byteV) (by kernel_rfl)) rfl ?_
  repeat (first|refine Wa ?_|refine Wb ?_|refine Wc ?_|refine Wd ?_|refine We rfl ?_|refine Wf (by exact Vb) rfl ?_|(refine Wg rfl ?_; intro _)|refine Wi ?_|refine Wn ?_)
  rename_i bo br
  refine JC.reslot 4 (.int .i64 (7 - ((0 : Nat) : Int))) (by rfl) ?_
  refine JC.loop1 (fun k : Nat => [(0, w64 (shrN64 x (8 * k))), (2, .pointer (some ⟨bo, 0, none⟩)), (3, .pointer (some ⟨br, 0, none⟩)), (4, .int .i64 (7 - (k : Int)))]) (fun k => [.own br 224 ((longK x k).1.map byteV), .own bo 224 [.int .u8 0, .int .u8 0, .int .u8 0, .int .u8 0, .int .u8 0, .int .u8 0, .int .u8 0, .int .u8 0]])
    (fun k => k ≤ 8) (fun k => 8 - k) 0 (Nat.zero_le _) (by rw [show shrN64 x (8 * 0) = x by simp [shrN64]]; infer_instance) ?_
  intro k hk
  repeat (first|refine Wa ?_|refine Wb ?_|refine Wc ?_|refine Wd ?_|refine We rfl ?_|refine Wf (by first|exact Va|exact Vp) rfl ?_)
  refine JC.test (fun hlt => ?_) (fun hge => ?_)
  · have hlt' : k < 8 := by omega
    refine JC.reslot 4 (.int .i64 ((7 - k : Nat) : Int)) (by congr 1; omega) ?_
    repeat (first|refine Wa ?_|refine Wb ?_|refine Wc ?_|refine We rfl ?_|refine Wf (by exact Va) rfl ?_|refine Wl ?_|refine Wn ?_)
    repeat (first | refine Wa ?_ | refine Wb ?_ | refine Wc ?_ | refine Wd ?_ | refine We rfl ?_ | refine Wf (by first | exact Va | exact Vb | exact OpV.and32 | exact OpV.or32 | exact OpV.xor32 | exact OpV.andNot32 | exact OpV.add32 | exact OpV.sub32 | exact OpV.mul32 | exact OpV.quo32 (by decide) | exact OpV.rem32 (by decide) | exact OpV.quo64 (by decide) | exact OpV.rem64 (by decide)) rfl ?_ | refine Ws ?_ | refine Wt ?_)
    refine Wf OpV.conv rfl ?_
    refine JO.reslot 13 (byteV (longB x k)) (by rw [conv8, longB_ref x k hlt']) ?_
    refine We rfl ?_
    refine Wf (OpV.indexArr (k := 7 - k) (by omega)) rfl ?_
    refine We rfl ?_
    refine JR.setW (7 - k) (longB x k) (by rw [(longK x k).2]; omega) (by omega) rfl ?_
    rw [longK_set x k hlt']
    repeat (first | refine Wa ?_ | refine Wb ?_ | refine Wc ?_ | refine Wd ?_ | refine We rfl ?_ | refine Wf (by first | exact Va | exact Vb | exact OpV.and32 | exact OpV.or32 | exact OpV.xor32 | exact OpV.andNot32 | exact OpV.add32 | exact OpV.sub32 | exact OpV.mul32 | exact OpV.quo32 (by decide) | exact OpV.rem32 (by decide) | exact OpV.quo64 (by decide) | exact OpV.rem64 (by decide)) rfl ?_ | refine Ws ?_ | refine Wt ?_)
    repeat (first|refine Wa ?_|refine Wc ?_|refine Wd ?_|refine We rfl ?_|refine Wf (by first|exact Va|exact Vb|exact Vv (by omega)) rfl ?_|refine Wr ?_)
    exact ⟨k + 1, by omega, by omega, by rw [← long_next, show 7 - ((k + 1 : Nat) : Int) = ((7 - k : Nat) : Int) - 1 by omega]; infer_instance⟩
  · obtain rfl : k = 8 := by omega
    repeat (first|refine Wa ?_|refine Wb ?_|refine Wc ?_|refine Wd ?_|refine We rfl ?_|refine Wf (by exact Vc) rfl ?_|refine Wi ?_|refine Wm ?_|refine Wo ?_|refine Wp ?_|refine Ws ?_)
    exact CT.done () rfl (fun w ho => ho.ent)
end Ab
end Go.Proofs.YtdgeffphifgflaaGreat
namespace Go.Proofs.YtdgeffphifgflaaGreat
namespace Ab
open Go Go.RowKit
set_option linter.unusedVariables false
set_option linter.unusedSimpArgs false
set_option synthInstance.maxSize 4000
set_option synthInstance.maxHeartbeats 400000
attribute [local irreducible] JC JO JR JQ andThen inBlock OpV Gives retTo JM JS
attribute [local irreducible] spreadK
set_option maxHeartbeats 1000000 in
theorem pad_ref (w : World) (F : Nat → Prop) (a : Option Addr) (c : Nat) (L : List UInt8) (h : (sl a c L).holds F w) (hL : L.length ≤ 1048576) :
    GivesBuf Tryz.prog 185 [.slice a L.length c] w F 5 (padL L) := by
  refine gives_of Tryz.func185 rfl Tryz.ntmps185 rfl rfl [.st (sl a c L)] (.start1 h) ?_
  repeat (first|refine Wa ?_|refine Wb ?_|refine Wc ?_|refine Wd ?_|refine We rfl ?_|refine Wf (by first|exact Va|exact Vb) rfl ?_)
  refine JR.appendNil (L' := L) rfl (by exact ⟨rfl, rfl, by decide⟩) (by omega) ?_
  intro a1 c1
  repeat (first|refine Wa ?_|refine Wb ?_|refine Wc ?_|refine Wd ?_|refine We rfl ?_|refine Wf (by first|exact Va|exact Vb) rfl ?_|(refine Ww rfl ⟨rfl, by decide, by decide, by decide⟩ ?_; intro _))
  refine JR.append1 rfl (by exact ⟨rfl, rfl, by decide⟩) (by omega) ?_
  intro a2 c2
  repeat (first|refine Wa ?_|refine Wb ?_|refine Wd ?_|refine We rfl ?_|refine Wf (by exact Vb) rfl ?_|refine Wn ?_)
  have hz : padZ L.length < 64 := Nat.mod_lt _ (by decide)
  refine JC.loop3 (fun (k : Nat) p q => [(0, .slice a L.length c), (3, .slice p ((L ++ [128]) ++ List.replicate k (0 : UInt8)).length q)]) (fun k p q => [.res (buf p q 5 ((L ++ [128]) ++ List.replicate k (0 : UInt8)))])
    (fun k _ _ => k ≤ padZ L.length) (fun k _ _ => padZ L.length - k) 0 a2 c2 (Nat.zero_le _) (by rw [List.replicate_zero, List.append_nil]; infer_instance) ?_
  intro k p q hk
  repeat (first|refine Wb ?_|refine Wc ?_|refine We rfl ?_|refine Wf (by first|exact Va|exact Vf) rfl ?_)
  have hlen : ((L ++ [128]) ++ List.replicate k (0 : UInt8)).length = L.length + 1 + k := by simp; omega
  refine Wf (OpV.rem (by decide)) rfl ?_
  refine JO.reslot 12 (.int .i64 (((L.length + 1 + k) % 64 : Nat) : Int)) (by rw [hlen, Int.tmod_eq_emod_of_nonneg (by omega)]; congr 1) ?_
  repeat (first|refine Wa ?_|refine Wd ?_|refine We rfl ?_|refine Wf (by exact Vm) rfl ?_)
  refine JC.test (fun h1 => ?_) (fun h1 => ?_)
  · have h2 : k < padZ L.length := by simp only [padZ] at hk ⊢; omega
    repeat (first|refine Wa ?_|refine Wc ?_|refine We rfl ?_|refine Wf (by exact Va) rfl ?_|refine Wl ?_|refine Wn ?_|(refine Ww rfl ⟨rfl, by decide, by decide, by decide⟩ ?_; intro _))
    refine JR.append1 rfl (by exact ⟨rfl, rfl, by decide⟩) (by rw [hlen]; omega) ?_
    intro a3 c3
    repeat (first|refine Wa ?_|refine Wd ?_|refine We rfl ?_|refine Wf (by exact Vb) rfl ?_|refine Wr ?_)
    have hs : (L ++ [128]) ++ List.replicate (k + 1) (0 : UInt8) = (L ++ [128]) ++ List.replicate k (0 : UInt8) ++ [0] := by rw [List.replicate_succ', ← List.append_assoc]
    exact ⟨k + 1, a3, c3, by omega, by omega, by rw [hs]; infer_instance⟩
  · have h2 : k = padZ L.length := by simp only [padZ] at hk ⊢; omega
    subst h2
    repeat (first|refine Wa ?_|refine Wb ?_|refine Wc ?_|refine We rfl ?_|refine Wf (by first|exact Va|exact Vf) rfl ?_|refine Wm ?_|refine Wo ?_|refine Wp ?_)
    refine Wf OpV.conv rfl ?_
    refine JO.reslot 19 (w64 (UInt64.ofNat L.length)) (congrArg (Value.int .u64) (by rw [wrap64, UInt64.toNat_ofNat'])) ?_
    repeat (first | refine Wa ?_ | refine Wb ?_ | refine Wc ?_ | refine Wd ?_ | refine We rfl ?_ | refine Wf (by first | exact Va | exact Vb | exact OpV.and32 | exact OpV.or32 | exact OpV.xor32 | exact OpV.andNot32 | exact OpV.add32 | exact OpV.sub32 | exact OpV.mul32 | exact OpV.quo32 (by decide) | exact OpV.rem32 (by decide) | exact OpV.quo64 (by decide) | exact OpV.rem64 (by decide) | exact OpV.mul64) rfl ?_ | refine Ws ?_ | refine Wt ?_)
    refine JR.reslot 20 (w64 (UInt64.ofNat (L.length * 8))) (by rw [UInt64.ofNat_mul, UInt64.mul_comm]; rfl) ?_
    refine JR.callV rfl (fun w1 hw => long_ref w1 _ _) ?_
    repeat (first|refine Wa ?_|refine Wb ?_|refine Wc ?_|refine Wd ?_|refine We rfl ?_|refine Wf (by exact Va) rfl ?_|(refine Wg rfl ?_; intro _)|refine Wi ?_)
    rename_i bn
    refine JR.reown bn [byteV (longB (UInt64.ofNat (L.length * 8)) 7), byteV (longB (UInt64.ofNat (L.length * 8)) 6), byteV (longB (UInt64.ofNat (L.length * 8)) 5), byteV (longB (UInt64.ofNat (L.length * 8)) 4), byteV (longB (UInt64.ofNat (L.length * 8)) 3), byteV (longB (UInt64.ofNat (L.length * 8)) 2), byteV (longB (UInt64.ofNat (L.length * 8)) 1), byteV (longB (UInt64.ofNat (L.length * 8)) 0)] rfl ?_
    repeat (refine Wf (OpV.indexArr (by decide)) rfl ?_; refine We rfl ?_; refine Wf Vc rfl ?_; refine We rfl ?_)
    refine Ww rfl ⟨rfl, by decide, by decide, by decide⟩ ?_
    intro bl
    refine We rfl ?_
    refine JR.appendBytes (M := longL (UInt64.ofNat (L.length * 8))) rfl rfl rfl (by simp [longL]) (by exact ⟨rfl, rfl, by decide⟩) (by rw [hlen]; omega) ?_
    intro a3 c3
    repeat (first|refine Wa ?_|refine Wd ?_|refine We rfl ?_|refine Wf (by exact Vb) rfl ?_|refine Ws ?_)
    exact CT.done (a3, c3) rfl (fun w ho => (ho.ent : Hold _ _ [.res (buf a3 c3 5 ((L ++ [128]) ++ List.replicate (padZ L.length) (0 : UInt8) ++ longL (UInt64.ofNat (L.length * 8))))] w))
theorem shr_div (x : UInt32) : x / 8 = shrN32 x 3 := by
  apply UInt32.toNat_inj.1
  rw [UInt32.toNat_div, shrN32, UInt32.toNat_ofNat', Nat.mod_eq_of_lt (Nat.lt_of_le_of_lt (Nat.div_le_self _ _) x.toNat_lt)]; rfl
theorem shr_div10 (x : UInt32) : x / 1024 = shrN32 x 10 := by
  apply UInt32.toNat_inj.1
  rw [UInt32.toNat_div, shrN32, UInt32.toNat_ofNat', Nat.mod_eq_of_lt (Nat.lt_of_le_of_lt (Nat.div_le_self _ _) x.toNat_lt)]; rfl
set_option maxHeartbeats 1000000 in
theorem words_ref (w : World) (F : Nat → Prop) (a : Option Addr) (c : Nat) (L : List UInt8) (h : (sl a c L).holds F w) (hL : L.length = 64) :
    GivesV Tryz.prog 233 [.slice a L.length c] w F (.agg ⟨(spreadV L 64).1.map w32⟩) := by
  refine gives_of Tryz.func233 rfl Tryz.ntmps233 rfl rfl [.st (sl a c L)] (.start1 h) ?_
  repeat (first|refine Wa ?_|refine Wb ?_|refine Wc ?_|refine Wd ?_|refine We rfl ?_|(refine Wg rfl ?_; intro _))
  refine Wf (OpV.build ((spreadV L 0).1.map w32) (by kernel_rfl)) rfl ?_
  repeat (first|refine Wa ?_|refine Wb ?_|refine Wc ?_|refine Wd ?_|refine We rfl ?_|refine Wf (by exact Vb) rfl ?_|(refine Wg rfl ?_; intro _)|refine Wi ?_|refine Wn ?_)
  rename_i bo br
  refine JC.reown bo ((spreadV L 0).1.map w32) (by rw [spreadV_zero, List.map_replicate]; rfl) ?_
  refine JC.loop1 (fun k : Nat => [(0, .slice a L.length c), (2, .pointer (some ⟨bo, 0, none⟩)), (3, .pointer (some ⟨br, 0, none⟩)), (4, .int .i64 (k : Int))]) (fun k => [.own br 226 ((spreadV L k).1.map w32), .own bo 226 ((spreadV L 0).1.map w32), .st (sl a c L)])
    (fun k => k ≤ 64) (fun k => 64 - k) 0 (Nat.zero_le _) inferInstance ?_
  intro k hk
  repeat (first|refine Wa ?_|refine Wb ?_|refine Wc ?_|refine Wd ?_|refine We rfl ?_|refine Wf (by first|exact Va|exact Vg) rfl ?_)
  refine JC.test (fun hlt => ?_) (fun hge => ?_)
  · have hlt' : k < 64 := by omega
    have hv := (spreadV L k).2
    repeat (first|refine Wa ?_|refine Wb ?_|refine Wc ?_|refine Wd ?_|refine We rfl ?_|refine Wf (by first|exact Va|exact Vg) rfl ?_|refine Wl ?_|refine Wn ?_)
    refine JC.test (fun h16 => ?_) (fun h16 => ?_)
    · have h16' : k < 16 := by omega
      repeat (first|refine Wb ?_|refine Wc ?_|refine We rfl ?_|refine Wf (by exact Va) rfl ?_)
      refine Wf (OpV.mul (by omega)) rfl ?_
      refine JO.reslot 21 (.int .i64 ((4 * k : Nat) : Int)) (by congr 1) ?_
      refine We rfl ?_
      refine JR.callV rfl (fun w1 hw => word_ref w1 _ a c L (4 * k) hw.get (by omega)) ?_
      repeat (first|refine Wa ?_|refine Wb ?_|refine Wc ?_|refine Wd ?_|refine We rfl ?_|refine Wf (by first|exact Va|exact Vb|exact Vq) rfl ?_)
      refine Wf (OpV.indexArr hlt') rfl ?_
      refine We rfl ?_
      refine JR.setW k (wordAt L (4 * k)) (by omega) (by omega) rfl ?_
      refine JO.reown br ((spreadV L (k + 1)).1.map w32) (by rw [spreadV_succ, wordK, if_pos h16']) ?_
      repeat (first|refine Wa ?_|refine Wc ?_|refine Wd ?_|refine We rfl ?_|refine Wf (by first|exact Va|exact Vb|exact Vk (by omega)) rfl ?_|refine Wm ?_|refine Wo ?_|refine Wp ?_)
      exact ⟨k + 1, by omega, by omega, inferInstance⟩
    · have h16' : ¬ k < 16 := by omega
      repeat (first|refine Wa ?_|refine Wb ?_|refine Wc ?_|refine We rfl ?_|refine Wf (by first|exact Va|exact Vu (by omega)) rfl ?_|refine Wl ?_)
      refine Wf (OpV.indexArr (k := k - 15) (by omega)) rfl ?_
      refine We rfl ?_
      refine Wf (OpV.getW (k - 15) (by omega) (by omega) rfl) rfl ?_
      repeat (first|refine Wa ?_|refine Wb ?_|refine Wc ?_|refine Wd ?_|refine We rfl ?_|refine Wf (by first|exact Va|exact Vb|exact Vu (by omega)) rfl ?_)
      refine Wf (OpV.indexArr (k := k - 2) (by omega)) rfl ?_
      refine We rfl ?_
      refine Wf (OpV.getW (k - 2) (by omega) (by omega) rfl) rfl ?_
      repeat (first|refine Wa ?_|refine Wb ?_|refine Wc ?_|refine Wd ?_|refine We rfl ?_|refine Wf (by first|exact Va|exact Vb) rfl ?_)
      refine JR.callV rfl (fun w1 hw => right_ref w1 _ _ 7 (by decide)) ?_
      repeat (first|refine We rfl ?_|refine Wf (by exact Va) rfl ?_)
      refine JR.callV rfl (fun w1 hw => right_ref w1 _ _ 18 (by decide)) ?_
      repeat (first | refine Wa ?_ | refine Wb ?_ | refine Wc ?_ | refine Wd ?_ | refine We rfl ?_ | refine Wf (by first | exact Va | exact Vb | exact OpV.and32 | exact OpV.or32 | exact OpV.xor32 | exact OpV.andNot32 | exact OpV.add32 | exact OpV.sub32 | exact OpV.mul32 | exact OpV.quo32 (by decide) | exact OpV.rem32 (by decide) | exact OpV.quo64 (by decide) | exact OpV.rem64 (by decide) | exact OpV.mul64) rfl ?_ | refine Ws ?_ | refine Wt ?_)
      refine JR.callV rfl (fun w1 hw => twist_ref w1 _ _ _ _) ?_
      repeat (first|refine Wa ?_|refine Wb ?_|refine Wc ?_|refine Wd ?_|refine We rfl ?_|refine Wf (by first|exact Va|exact Vb) rfl ?_)
      refine JR.callV rfl (fun w1 hw => right_ref w1 _ _ 17 (by decide)) ?_
      repeat (first|refine We rfl ?_|refine Wf (by exact Va) rfl ?_)
      refine JR.callV rfl (fun w1 hw => right_ref w1 _ _ 19 (by decide)) ?_
      repeat (first | refine Wa ?_ | refine Wb ?_ | refine Wc ?_ | refine Wd ?_ | refine We rfl ?_ | refine Wf (by first | exact Va | exact Vb | exact OpV.and32 | exact OpV.or32 | exact OpV.xor32 | exact OpV.andNot32 | exact OpV.add32 | exact OpV.sub32 | exact OpV.mul32 | exact OpV.quo32 (by decide) | exact OpV.rem32 (by decide) | exact OpV.quo64 (by decide) | exact OpV.rem64 (by decide) | exact OpV.mul64) rfl ?_ | refine Ws ?_ | refine Wt ?_)
      refine JR.callV rfl (fun w1 hw => twist_ref w1 _ _ _ _) ?_
      repeat (first|refine Wa ?_|refine Wd ?_|refine We rfl ?_|refine Wf (by exact Vb) rfl ?_)
      refine JC.draw 15 mixed ?_
      refine JM.take 0 rfl (by kernel_rfl) rfl Va rfl rfl ?_
      refine JM.take 1 rfl (by kernel_rfl) rfl Va rfl rfl ?_
      refine JM.take 2 rfl (by kernel_rfl) rfl (Vv (by omega)) rfl rfl ?_
      refine JM.reslot 52 (.int .i64 ((k - 16 : Nat) : Int)) (by congr 1 <;> omega) ?_
      refine JM.take 3 rfl (by kernel_rfl) rfl (OpV.indexArr (k := k - 16) (by omega)) rfl rfl ?_
      refine JM.take 4 rfl (by kernel_rfl) rfl (OpV.getW (k - 16) (by omega) (by omega) rfl) rfl rfl ?_
      refine JM.take 5 rfl (by kernel_rfl) rfl Va rfl rfl ?_
      refine JM.take 6 rfl (by kernel_rfl) rfl (Vv (by omega)) rfl rfl ?_
      refine JM.reslot 56 (.int .i64 ((k - 7 : Nat) : Int)) (by congr 1 <;> omega) ?_
      refine JM.take 7 rfl (by kernel_rfl) rfl (OpV.indexArr (k := k - 7) (by omega)) rfl rfl ?_
      refine JM.take 8 rfl (by kernel_rfl) rfl (OpV.getW (k - 7) (by omega) (by omega) rfl) rfl rfl ?_
      refine JM.take 9 rfl (by kernel_rfl) rfl OpV.add32 rfl rfl ?_
      refine JM.take 10 rfl (by kernel_rfl) rfl Va rfl rfl ?_
      refine JM.take 11 rfl (by kernel_rfl) rfl OpV.add32 rfl rfl ?_
      refine JM.take 12 rfl (by kernel_rfl) rfl Va rfl rfl ?_
      refine JM.take 13 rfl (by kernel_rfl) rfl OpV.add32 rfl rfl ?_
      refine JM.take 14 rfl (by kernel_rfl) rfl (OpV.indexArr hlt') rfl rfl ?_
      refine JM.reslot 63 (w32 (wordK L (spreadV L k).1 k)) (by rw [wordK, if_neg h16', getD_at, getD_at, getD_at, getD_at, shr_div, shr_div10]; rfl) ?_
      refine JM.last 15 (by kernel_rfl) rfl rfl rfl (JR.setW k (wordK L (spreadV L k).1 k) (by omega) (by omega) rfl (JO.reown br ((spreadV L (k + 1)).1.map w32) (by rw [spreadV_succ]) (Wd ⟨rfl, ?_⟩)))
      refine JM.nil (by kernel_rfl) ?_
      repeat (first|refine Wa ?_|refine Wc ?_|refine Wd ?_|refine We rfl ?_|refine Wf (by first|exact Va|exact Vb|exact Vk (by omega)) rfl ?_|refine Wr ?_)
      exact ⟨k + 1, by omega, by omega, inferInstance⟩
  · obtain rfl : k = 64 := by omega
    repeat (first|refine Wa ?_|refine Wb ?_|refine Wc ?_|refine Wd ?_|refine We rfl ?_|refine Wf (by exact Vc) rfl ?_|refine Wi ?_|refine Wm ?_|refine Wo ?_|refine Wp ?_|refine Ws ?_)
    exact CT.done () rfl (fun w ho => ho.ent)
end Ab
end Go.Proofs.YtdgeffphifgflaaGreat
namespace Go.Proofs.YtdgeffphifgflaaGreat
namespace Ab
open Go Go.RowKit
set_option linter.unusedVariables false
set_option linter.unusedSimpArgs false
set_option synthInstance.maxSize 4000
set_option synthInstance.maxHeartbeats 400000
attribute [local irreducible] JC JO JR JQ andThen inBlock OpV Gives retTo JM JS
attribute [local irreducible] spreadK shaKV spreadV turnV plusV
set_option maxHeartbeats 2000000 in
theorem block_ref (w : World) (F : Nat → Prop) (a : Option Addr) (c : Nat) (L : List UInt8) (h : Vec UInt32 8) (hs : (sl a c L).holds F w) (hL : L.length = 64) :
    GivesV Tryz.prog 187 [.agg ⟨h.1.map w32⟩, .slice a L.length c] w F (.tuple ⟨[.agg ⟨(blockL h L).1.map w32⟩, .bool true]⟩) := by
  refine gives_of Tryz.func187 rfl Tryz.ntmps187 rfl rfl [.st (sl a c L)] (.start1 hs) ?_
  repeat (first|refine Wa ?_|refine Wb ?_|refine Wc ?_|refine Wd ?_|refine We rfl ?_|refine Wf (by first|exact Va|exact Vb|exact Vf|exact Vm) rfl ?_|(refine Wg rfl ?_; intro _)|(refine Wh rfl ?_; intro _))
  rename_i bh br
  refine JC.test (fun h0 => ?_) (fun h0 => ?_)
  · simp [hL] at h0
  repeat (first|refine Wa ?_|refine Wb ?_|refine Wc ?_|refine We rfl ?_|refine Wl ?_)
  refine JR.callV rfl (fun w1 hw => constants_ref w1 _) ?_
  repeat (first|refine Wa ?_|refine Wb ?_|refine Wc ?_|refine Wd ?_|refine We rfl ?_|refine Wf (by exact Va) rfl ?_|(refine Wg rfl ?_; intro _)|refine Wi ?_)
  refine JR.callV rfl (fun w1 hw => words_ref w1 _ a c L hw.get hL) ?_
  repeat (first|refine Wa ?_|refine Wb ?_|refine Wc ?_|refine Wd ?_|refine We rfl ?_|refine Wf (by first|exact Vb|exact Vc) rfl ?_|(refine Wg rfl ?_; intro _)|refine Wi ?_|refine Wn ?_)
  rename_i q1 q2 q3
  refine JC.loop1 (fun k : Nat => [(2, .pointer (some ⟨bh, 0, none⟩)), (4, .pointer (some ⟨br, 0, none⟩)), (6, .pointer (some ⟨q1, 0, none⟩)), (7, .pointer (some ⟨q2, 0, none⟩)), (8, .pointer (some ⟨q3, 0, none⟩)), (9, .int .i64 (k : Int))])
    (fun k => [.own bh 182 (h.1.map w32), .own br 182 [.int .u32 0, .int .u32 0, .int .u32 0, .int .u32 0, .int .u32 0, .int .u32 0, .int .u32 0, .int .u32 0], .own q1 226 (shaKV.1.map w32), .own q2 226 ((spreadV L 64).1.map w32), .own q3 182 ((turnV (spreadV L 64).1 h k).1.map w32)])
    (fun k => k ≤ 64) (fun k => 64 - k) 0 (Nat.zero_le _) (by rw [turnV_zero]; infer_instance) ?_
  intro k hk
  repeat (first|refine Wa ?_|refine Wb ?_|refine Wc ?_|refine Wd ?_|refine We rfl ?_|refine Wf (by first|exact Va|exact Vg) rfl ?_)
  refine JC.test (fun hlt => ?_) (fun hge => ?_)
  · have hlt' : k < 64 := by omega
    have hkk : k < shaKV.1.length := by rw [shaKV.2]; exact hlt'
    have hkw : k < (spreadV L 64).1.length := by rw [(spreadV L 64).2]; exact hlt'
    obtain ⟨x0, x1, x2, x3, x4, x5, x6, x7, hx⟩ := vec8 (turnV (spreadV L 64).1 h k)
    have hnext := turnV_succ (spreadV L 64).1 h k
    rw [hx] at hnext ⊢
    repeat (first|refine Wa ?_|refine Wb ?_|refine Wl ?_|refine Wn ?_)
    refine JC.quiet mixed (by kernel_rfl) ?_
    refine Wy rfl (OpV.indexArr (k := 4) (by decide)) rfl ?_
    refine Wy rfl (OpV.getW 4 (by simp) rfl rfl) rfl ?_
    refine JQ.call rfl rfl (fun w1 hw => right_ref w1 _ _ 6 (by decide)) ?_
    refine Wy rfl (OpV.indexArr (k := 4) (by decide)) rfl ?_
    refine Wy rfl (OpV.getW 4 (by simp) rfl rfl) rfl ?_
    refine JQ.call rfl rfl (fun w1 hw => right_ref w1 _ _ 11 (by decide)) ?_
    refine Wy rfl (OpV.indexArr (k := 4) (by decide)) rfl ?_
    refine Wy rfl (OpV.getW 4 (by simp) rfl rfl) rfl ?_
    refine JQ.call rfl rfl (fun w1 hw => right_ref w1 _ _ 25 (by decide)) ?_
    refine JQ.call rfl rfl (fun w1 hw => twist_ref w1 _ _ _ _) ?_
    refine Wy rfl Vb rfl ?_
    refine WB ?_
    repeat (first|refine Wa ?_|refine Wb ?_)
    refine JC.quiet mixed (by kernel_rfl) ?_
    refine Wy rfl (OpV.indexArr (k := 0) (by decide)) rfl ?_
    refine Wy rfl (OpV.getW 0 (by simp) rfl rfl) rfl ?_
    refine JQ.call rfl rfl (fun w1 hw => right_ref w1 _ _ 2 (by decide)) ?_
    refine Wy rfl (OpV.indexArr (k := 0) (by decide)) rfl ?_
    refine Wy rfl (OpV.getW 0 (by simp) rfl rfl) rfl ?_
    refine JQ.call rfl rfl (fun w1 hw => right_ref w1 _ _ 13 (by decide)) ?_
    refine Wy rfl (OpV.indexArr (k := 0) (by decide)) rfl ?_
    refine Wy rfl (OpV.getW 0 (by simp) rfl rfl) rfl ?_
    refine JQ.call rfl rfl (fun w1 hw => right_ref w1 _ _ 22 (by decide)) ?_
    refine JQ.call rfl rfl (fun w1 hw => twist_ref w1 _ _ _ _) ?_
    refine Wy rfl Vb rfl ?_
    refine WB ?_
    repeat (first|refine Wa ?_|refine Wb ?_)
    refine JC.quiet mixed (by kernel_rfl) ?_
    refine Wy rfl (OpV.indexArr (k := 7) (by decide)) rfl ?_
    refine Wy rfl (OpV.getW 7 (by simp) rfl rfl) rfl ?_
    refine Wy rfl Va rfl ?_
    refine Wy rfl OpV.add32 rfl ?_
    refine Wy rfl (OpV.indexArr (k := 4) (by decide)) rfl ?_
    refine Wy rfl (OpV.getW 4 (by simp) rfl rfl) rfl ?_
    refine Wy rfl (OpV.indexArr (k := 5) (by decide)) rfl ?_
    refine Wy rfl (OpV.getW 5 (by simp) rfl rfl) rfl ?_
    refine Wy rfl (OpV.indexArr (k := 6) (by decide)) rfl ?_
    refine Wy rfl (OpV.getW 6 (by simp) rfl rfl) rfl ?_
    refine JQ.call rfl rfl (fun w1 hw => pick_ref w1 _ _ _ _) ?_
    refine Wy rfl OpV.add32 rfl ?_
    refine Wy rfl Va rfl ?_
    refine Wy rfl (OpV.indexArr hlt') rfl ?_
    refine Wy rfl (OpV.getW k hkk (by omega) rfl) rfl ?_
    refine Wy rfl OpV.add32 rfl ?_
    refine Wy rfl Va rfl ?_
    refine Wy rfl (OpV.indexArr hlt') rfl ?_
    refine Wy rfl (OpV.getW k hkw (by omega) rfl) rfl ?_
    refine Wy rfl OpV.add32 rfl ?_
    refine JQ.reslot 66 (w32 (one32 (spreadV L 64).1 [x0, x1, x2, x3, x4, x5, x6, x7] k)) (by simp only [getD_at, shaKV_eq]; rfl) ?_
    refine Wy rfl Vb rfl ?_
    refine WB ?_
    repeat (first|refine Wa ?_|refine Wb ?_|refine Wc ?_|refine We rfl ?_|refine Wf (by exact Va) rfl ?_)
    repeat (first | refine Wf (OpV.indexArr (k := 0) (by decide)) rfl ?_; refine We rfl ?_; refine Wf (OpV.getW 0 (by simp) rfl rfl) rfl ?_; refine We rfl ?_ | refine Wf (OpV.indexArr (k := 1) (by decide)) rfl ?_; refine We rfl ?_; refine Wf (OpV.getW 1 (by simp) rfl rfl) rfl ?_; refine We rfl ?_ | refine Wf (OpV.indexArr (k := 2) (by decide)) rfl ?_; refine We rfl ?_; refine Wf (OpV.getW 2 (by simp) rfl rfl) rfl ?_; refine We rfl ?_)
    refine JR.callV rfl (fun w1 hw => most_ref w1 _ _ _ _) ?_
    refine We rfl ?_
    refine Wf OpV.add32 rfl ?_
    refine JO.reslot 75 (w32 (two32 [x0, x1, x2, x3, x4, x5, x6, x7])) rfl ?_
    repeat (first|refine Wa ?_|refine Wc ?_|refine Wd ?_|refine We rfl ?_|refine Wf (by first|exact Va|exact Vb) rfl ?_)
    refine Wf OpV.add32 rfl ?_
    refine We rfl ?_
    refine Wf (OpV.indexArr (k := 0) (by decide)) rfl ?_
    refine We rfl ?_
    refine Wf (OpV.getW 0 (by simp) rfl rfl) rfl ?_
    refine We rfl ?_
    refine Wf (OpV.indexArr (k := 1) (by decide)) rfl ?_
    refine We rfl ?_
    refine Wf (OpV.getW 1 (by simp) rfl rfl) rfl ?_
    refine We rfl ?_
    refine Wf (OpV.indexArr (k := 2) (by decide)) rfl ?_
    refine We rfl ?_
    refine Wf (OpV.getW 2 (by simp) rfl rfl) rfl ?_
    refine We rfl ?_
    refine Wf (OpV.indexArr (k := 3) (by decide)) rfl ?_
    refine We rfl ?_
    refine Wf (OpV.getW 3 (by simp) rfl rfl) rfl ?_
    refine We rfl ?_
    refine Wf Va rfl ?_
    refine We rfl ?_
    refine Wf OpV.add32 rfl ?_
    refine We rfl ?_
    refine Wf (OpV.indexArr (k := 4) (by decide)) rfl ?_
    refine We rfl ?_
    refine Wf (OpV.getW 4 (by simp) rfl rfl) rfl ?_
    refine We rfl ?_
    refine Wf (OpV.indexArr (k := 5) (by decide)) rfl ?_
    refine We rfl ?_
    refine Wf (OpV.getW 5 (by simp) rfl rfl) rfl ?_
    refine We rfl ?_
    refine Wf (OpV.indexArr (k := 6) (by decide)) rfl ?_
    refine We rfl ?_
    refine Wf (OpV.getW 6 (by simp) rfl rfl) rfl ?_
    refine We rfl ?_
    refine Wf (OpV.build ((turnS (spreadV L 64).1 [x0, x1, x2, x3, x4, x5, x6, x7] k).map w32) (by kernel_rfl)) rfl ?_
    rw [← hnext]
    refine JO.reown q3 ((turnV (spreadV L 64).1 h k).1.map w32) (by rw [hx]) ?_
    repeat (first|refine Wa ?_|refine Wc ?_|refine Wd ?_|refine We rfl ?_|refine Wf (by first|exact Va|exact Vb|exact Vk (by omega)) rfl ?_|refine Wi ?_|refine Wr ?_)
    exact ⟨k + 1, by omega, by omega, inferInstance⟩
  · obtain rfl : k = 64 := by omega
    obtain ⟨S, hS⟩ : ∃ S, S = turnV (spreadV L 64).1 h 64 := ⟨_, rfl⟩
    have hb : (blockL h L).1 = (plusV h.1 S.1 8).1 := by rw [hS]; rfl
    rw [← hS, hb]
    repeat (first|refine Wa ?_|refine Wb ?_|refine Wc ?_|refine Wd ?_|refine We rfl ?_|refine Wf (by exact Vb) rfl ?_|refine Wm ?_|refine Wn ?_|refine Wo ?_|refine Wp ?_)
    refine JC.loop1 (fun k : Nat => [(2, .pointer (some ⟨bh, 0, none⟩)), (4, .pointer (some ⟨br, 0, none⟩)), (8, .pointer (some ⟨q3, 0, none⟩)), (14, .int .i64 (k : Int))])
      (fun k => [.own bh 182 ((plusV h.1 S.1 k).1.map w32), .own br 182 [.int .u32 0, .int .u32 0, .int .u32 0, .int .u32 0, .int .u32 0, .int .u32 0, .int .u32 0, .int .u32 0], .own q3 182 (S.1.map w32)])
      (fun k => k ≤ 8) (fun k => 8 - k) 0 (Nat.zero_le _) (by rw [plusV_zero]; infer_instance) ?_
    intro k hk
    repeat (first|refine Wa ?_|refine Wb ?_|refine Wc ?_|refine Wd ?_|refine We rfl ?_|refine Wf (by first|exact Va|exact Vg) rfl ?_)
    refine JC.test (fun hlt => ?_) (fun hge => ?_)
    · have hlt' : k < 8 := by omega
      have hk1 : k < (plusV h.1 S.1 k).1.length := by rw [(plusV h.1 S.1 k).2]; exact hlt'
      have hk2 : k < S.1.length := by rw [S.2]; exact hlt'
      repeat (first|refine Wa ?_|refine Wb ?_|refine Wl ?_|refine Wn ?_)
      refine JC.draw 9 mixed ?_
      refine JM.take 0 rfl (by kernel_rfl) rfl Va rfl rfl ?_
      refine JM.take 1 rfl (by kernel_rfl) rfl Va rfl rfl ?_
      refine JM.take 2 rfl (by kernel_rfl) rfl (OpV.indexArr hlt') rfl rfl ?_
      refine JM.take 3 rfl (by kernel_rfl) rfl (OpV.getW k hk1 (by omega) rfl) rfl rfl ?_
      refine JM.take 4 rfl (by kernel_rfl) rfl Va rfl rfl ?_
      refine JM.take 5 rfl (by kernel_rfl) rfl (OpV.indexArr hlt') rfl rfl ?_
      refine JM.take 6 rfl (by kernel_rfl) rfl (OpV.getW k hk2 (by omega) rfl) rfl rfl ?_
      refine JM.take 7 rfl (by kernel_rfl) rfl OpV.add32 rfl rfl ?_
      refine JM.take 8 rfl (by kernel_rfl) rfl (OpV.indexArr hlt') rfl rfl ?_
      refine JM.reslot 107 (w32 (h.1.getD k 0 + S.1.getD k 0)) (by simp only [getD_at]; rw [plusV_at _ _ _ hlt']) ?_
      refine JM.last 9 (by kernel_rfl) rfl rfl rfl (JR.setW k (h.1.getD k 0 + S.1.getD k 0) hk1 (by omega) rfl (JO.reown bh ((plusV h.1 S.1 (k + 1)).1.map w32) (by rw [plusV_set _ _ _ hlt']) (Wd ⟨rfl, ?_⟩)))
      refine JM.nil (by kernel_rfl) ?_
      repeat (first|refine Wa ?_|refine Wc ?_|refine Wd ?_|refine We rfl ?_|refine Wf (by first|exact Va|exact Vb|exact Vk (by omega)) rfl ?_|refine Wr ?_)
      exact ⟨k + 1, by omega, by omega, inferInstance⟩
    · obtain rfl : k = 8 := by omega
      repeat (first|refine Wa ?_|refine Wb ?_|refine Wc ?_|refine Wd ?_|refine We rfl ?_|refine Wf (by first|exact Vb|exact Vc) rfl ?_|refine Wi ?_|refine Wm ?_|refine Wo ?_|refine Wp ?_|refine Ws ?_)
      exact CT.done () rfl (fun w ho => ho.ent)
end Ab
end Go.Proofs.YtdgeffphifgflaaGreat
namespace Go.Proofs.YtdgeffphifgflaaGreat
namespace Ab
open Go Go.RowKit
set_option linter.unusedVariables false
set_option linter.unusedSimpArgs false
set_option synthInstance.maxSize 4000
set_option synthInstance.maxHeartbeats 400000
attribute [local irreducible] JC JO JR JQ andThen inBlock OpV Gives retTo JM JS
attribute [local irreducible] spreadK shaKV spreadV turnV plusV blockL
def outJ (h : List UInt32) (i j : Nat) : List UInt8 := ((h.take i).flatMap fourL ++ (fourL (h.getD i 0)).take j) ++ List.replicate (32 - 4 * i - j) 0
theorem four_len (x : UInt32) : (fourL x).length = 4 := by simp [fourL]
theorem outJ_length (h : Vec UInt32 8) (i j : Nat) (hi : i < 8) (hj : j ≤ 4) : (outJ h.1 i j).length = 32 := by
  have := h.2
  simp only [outJ, List.length_append, flat4, List.length_take, List.length_replicate, four_len]
  omega
theorem outJ_zero (h : List UInt32) (i : Nat) : outJ h i 0 = outK h i := by simp [outJ, outK]
theorem outJ_four (h : Vec UInt32 8) (i : Nat) (hi : i < 8) : outJ h.1 i 4 = outK h.1 (i + 1) := by
  have h8 := h.2
  have hg : h.1[i]'(by omega) = h.1.getD i 0 := by simp [List.getD_eq_getElem?_getD, h8, hi]
  rw [outJ, outK, List.take_of_length_le (l := fourL (h.1.getD i 0)) (by rw [four_len]; exact Nat.le_refl _), List.take_succ_eq_append_getElem (by omega), List.flatMap_append, hg]
  simp only [List.flatMap_cons, List.flatMap_nil, List.append_nil]
  congr 2
theorem outJ_set (h : Vec UInt32 8) (i j : Nat) (hi : i < 8) (hj : j < 4) : (outJ h.1 i j).set (4 * i + j) (fourB (h.1.getD i 0) j) = outJ h.1 i (j + 1) := by
  have h8 := h.2
  have hl : ((h.1.take i).flatMap fourL ++ (fourL (h.1.getD i 0)).take j).length = 4 * i + j := by
    simp only [List.length_append, flat4, List.length_take, four_len]; omega
  have hr : List.replicate (32 - 4 * i - j) (0 : UInt8) = 0 :: List.replicate (32 - 4 * i - (j + 1)) 0 := by
    rw [show 32 - 4 * i - j = (32 - 4 * i - (j + 1)) + 1 by omega]; rfl
  have ht : (fourL (h.1.getD i 0)).take (j + 1) = (fourL (h.1.getD i 0)).take j ++ [fourB (h.1.getD i 0) j] := by
    rw [List.take_succ_eq_append_getElem (by rw [four_len]; exact hj)]
    simp [fourL]
  rw [outJ, outJ, List.set_append_right _ _ (by omega), hl, hr, ht]
  simp
theorem id0_cells : List.replicate 32 (Value.int .u8 0) = idc id0 := by simp [idc, id0]; rfl
theorem outK_id0 (S : List UInt32) : idc id0 = (outK S 0).map byteV := by rw [outK_zero]; rfl
set_option maxHeartbeats 2000000 in
theorem sum_ref (w : World) (F : Nat → Prop) (a : Option Addr) (c : Nat) (L : List UInt8) (h : (sl a c L).holds F w) (hL : L.length ≤ 1048576) :
    GivesV Tryz.prog 133 [.slice a L.length c] w F (.agg ⟨idc (sumI L)⟩) := by
  have hpl := padL_length L
  refine gives_of Tryz.func133 rfl Tryz.ntmps133 rfl rfl [.st (sl a c L)] (.start1 h) ?_
  repeat (first|refine Wa ?_|refine Wb ?_|refine Wc ?_|refine Wd ?_|refine We rfl ?_|refine Wf (by exact Va) rfl ?_|(refine Wg rfl ?_; intro _))
  refine JR.callBuf rfl (fun w1 hw => pad_ref w1 _ a c L hw.get hL) ?_
  intro a1 c1
  refine JO.more (fun w1 ho => ho.pub) ?_
  repeat (first|refine Wa ?_|refine Wb ?_|refine Wc ?_|refine Wd ?_|refine We rfl ?_|refine Wf (by exact Vb) rfl ?_)
  refine JR.callV rfl (fun w1 hw => start_ref w1 _) ?_
  repeat (first|refine Wa ?_|refine Wb ?_|refine Wc ?_|refine Wd ?_|refine We rfl ?_|refine Wf (by exact Vb) rfl ?_|(refine Wg rfl ?_; intro _)|refine Wi ?_|refine Wn ?_)
  rename_i bo bh
  refine JC.reown bo (idc id0) id0_cells ?_
  refine JC.reslot 5 (.int .i64 ((64 * 0 : Nat) : Int)) (by rfl) ?_
  refine JC.loop2 (fun (k : Nat) (H : Vec UInt32 8) => [(2, .pointer (some ⟨bo, 0, none⟩)), (3, .slice a1 (padL L).length c1), (4, .pointer (some ⟨bh, 0, none⟩)), (5, .int .i64 ((64 * k : Nat) : Int))])
    (fun k H => [.own bh 182 (H.1.map w32), .own bo 81 (idc id0), .st (sl a1 c1 (padL L))])
    (fun k H => 64 * k ≤ (padL L).length ∧ blocksV ((padL L).length / 64 - k) H ((padL L).drop (64 * k)) = sumV L) (fun k _ => (padL L).length - 64 * k) 0 shaSV ⟨Nat.zero_le _, rfl⟩ inferInstance ?_
  intro k H ⟨hk, hinv⟩
  repeat (first|refine Wa ?_|refine Wb ?_|refine Wc ?_|refine Wd ?_|refine We rfl ?_|refine Wf (by first|exact Va|exact Vf|exact Vg) rfl ?_)
  refine JC.test (fun h1 => ?_) (fun h1 => ?_)
  · have hk2 : 64 * k + 64 ≤ (padL L).length := by omega
    have hp64 : (((padL L).drop (64 * k)).take 64).length = 64 := by rw [List.length_take, List.length_drop]; omega
    repeat (first|refine Wa ?_|refine Wb ?_|refine Wl ?_|refine Wn ?_)
    refine JC.draw 10 mixed ?_
    refine JM.take 0 rfl (by kernel_rfl) rfl Vc rfl rfl ?_
    refine JM.take 1 rfl (by kernel_rfl) rfl Va rfl rfl ?_
    refine JM.take 2 rfl (by kernel_rfl) rfl Va rfl rfl ?_
    refine JM.take 3 rfl (by kernel_rfl) rfl Va rfl rfl ?_
    refine JM.take 4 rfl (by kernel_rfl) rfl (Vs (by omega)) rfl rfl ?_
    refine JM.take 5 rfl (by kernel_rfl) rfl (OpV.sliceMidA (l := 64 * k) (h := 64 * k + 64) (s := 1) rfl (fun w1 ho => ⟨by omega, by have := (Hold.get (A := sl a1 c1 (padL L)) ho).1; omega⟩)) rfl rfl ?_
    refine JM.reslot 25 (.slice (fromA a1 c1 (64 * k) 1) (((padL L).drop (64 * k)).take 64).length (c1 - 64 * k)) (by rw [hp64]; congr 1; omega) ?_
    refine JM.takeCall 6 rfl (by kernel_rfl) rfl (fun w1 hw => block_ref w1 _ (fromA a1 c1 (64 * k) 1) (c1 - 64 * k) (((padL L).drop (64 * k)).take 64) H (sl_take (sl_from (hw.get (A := sl a1 c1 (padL L))) (by omega)) (by rw [List.length_drop]; omega) ⟨by have := (hw.get (A := sl a1 c1 (padL L))).1; omega, Nat.le_refl _⟩) hp64) rfl rfl ?_
    refine JM.take 7 rfl (by kernel_rfl) rfl Va rfl rfl ?_
    refine JM.take 8 rfl (by kernel_rfl) rfl Vq rfl rfl ?_
    have hn : (padL L).length / 64 - k = ((padL L).length / 64 - (k + 1)) + 1 := by omega
    have hnext : blocksV ((padL L).length / 64 - (k + 1)) (blockL H (((padL L).drop (64 * k)).take 64)) ((padL L).drop (64 * (k + 1))) = sumV L := by
      rw [← hinv, hn, show 64 * (k + 1) = 64 * k + 64 by omega, ← List.drop_drop]; rfl
    refine JM.mix 9 10 (by kernel_rfl) rfl rfl rfl rfl rfl rfl rfl (JS.val Vq rfl ?_) (Wi (Wd ⟨rfl, ?_⟩))
    · refine JM.last 10 (by kernel_rfl) rfl rfl rfl (Wi (Wd ⟨rfl, ?_⟩))
      refine JM.nil (by kernel_rfl) ?_
      repeat (first|refine Wa ?_|refine Wc ?_|refine Wd ?_|refine We rfl ?_|refine Wf (by first|exact Va|exact Vb|exact Vs (by omega)) rfl ?_|refine Wr ?_)
      exact ⟨k + 1, blockL H (((padL L).drop (64 * k)).take 64), ⟨by omega, hnext⟩, by omega, inferInstance⟩
    · refine JM.one 9 (by kernel_rfl) rfl rfl rfl rfl (JS.val Vq rfl ?_)
      refine JM.nil (by kernel_rfl) ?_
      repeat (first|refine Wa ?_|refine Wc ?_|refine Wd ?_|refine We rfl ?_|refine Wf (by first|exact Va|exact Vb|exact Vs (by omega)) rfl ?_|refine Wr ?_)
      exact ⟨k + 1, blockL H (((padL L).drop (64 * k)).take 64), ⟨by omega, hnext⟩, by omega, inferInstance⟩
  · have hk2 : 64 * k = (padL L).length := by omega
    have hk3 : (padL L).length / 64 - k = 0 := by omega
    rw [hk3] at hinv
    have hinv : H = sumV L := hinv
    subst hinv
    repeat (first|refine Wa ?_|refine Wb ?_|refine Wc ?_|refine We rfl ?_|refine Wm ?_|refine Wo ?_|refine Wp ?_)
    obtain ⟨S, hS⟩ : ∃ S, S = sumV L := ⟨_, rfl⟩
    have hsum : sumI L = idOfS S := by subst hS; rfl
    rw [← hS, hsum]
    clear hS hinv hsum
    refine Wf (OpV.build (idc id0) (by kernel_rfl)) rfl ?_
    repeat (first|refine Wa ?_|refine Wb ?_|refine Wc ?_|refine Wd ?_|refine We rfl ?_|refine Wf (by exact Vb) rfl ?_|(refine Wg rfl ?_; intro _)|refine Wi ?_|refine Wn ?_)
    rename_i bi
    refine JC.reown bi ((outK S.1 0).map byteV) (outK_id0 S.1) ?_
    refine JC.loop1 (fun k : Nat => [(2, .pointer (some ⟨bo, 0, none⟩)), (4, .pointer (some ⟨bh, 0, none⟩)), (6, .pointer (some ⟨bi, 0, none⟩)), (7, .int .i64 (k : Int))]) (fun k => [.own bi 81 ((outK S.1 k).map byteV), .own bh 182 (S.1.map w32), .own bo 81 (idc id0)])
      (fun k => k ≤ 8) (fun k => 8 - k) 0 (Nat.zero_le _) inferInstance ?_
    intro k hk
    repeat (first|refine Wa ?_|refine Wb ?_|refine Wc ?_|refine Wd ?_|refine We rfl ?_|refine Wf (by first|exact Va|exact Vg) rfl ?_)
    refine JC.test (fun hlt => ?_) (fun hge => ?_)
    · have hlt' : k < 8 := by omega
      have hkS : k < S.1.length := by rw [S.2]; exact hlt'
      repeat (first|refine Wa ?_|refine Wb ?_|refine Wc ?_|refine We rfl ?_|refine Wf (by exact Va) rfl ?_|refine Wl ?_|refine Wn ?_)
      refine Wf (OpV.indexArr hlt') rfl ?_
      refine We rfl ?_
      refine Wf (OpV.getW k hkS (by omega) rfl) rfl ?_
      repeat (refine We rfl ?_)
      refine JR.callV rfl (fun w1 hw => four_ref w1 _ _) ?_
      rw [getD_at hkS]
      repeat (first|refine Wa ?_|refine Wb ?_|refine Wc ?_|refine Wd ?_|refine We rfl ?_|refine Wf (by exact Vb) rfl ?_|(refine Wg rfl ?_; intro _)|refine Wi ?_|refine Wn ?_)
      rename_i bf
      rw [← outJ_zero]
      refine JC.loop1 (fun j : Nat => [(2, .pointer (some ⟨bo, 0, none⟩)), (4, .pointer (some ⟨bh, 0, none⟩)), (6, .pointer (some ⟨bi, 0, none⟩)), (7, .int .i64 (k : Int)), (8, .pointer (some ⟨bf, 0, none⟩)), (9, .int .i64 (j : Int))]) (fun j => [.own bi 81 ((outJ S.1 k j).map byteV), .own bh 182 (S.1.map w32), .own bo 81 (idc id0), .own bf 186 ((fourL (S.1.getD k 0)).map byteV)])
        (fun j => j ≤ 4) (fun j => 4 - j) 0 (Nat.zero_le _) inferInstance ?_
      intro j hj
      repeat (first|refine Wa ?_|refine Wb ?_|refine Wc ?_|refine Wd ?_|refine We rfl ?_|refine Wf (by first|exact Va|exact Vg) rfl ?_)
      refine JC.test (fun hlt2 => ?_) (fun hge2 => ?_)
      · have hj' : j < 4 := by omega
        repeat (first|refine Wa ?_|refine Wb ?_|refine Wc ?_|refine We rfl ?_|refine Wf (by exact Va) rfl ?_|refine Wl ?_|refine Wn ?_)
        refine Wf (OpV.mul (by omega)) rfl ?_
        refine JO.reslot 43 (.int .i64 ((4 * k : Nat) : Int)) (by congr 1) ?_
        repeat (first|refine We rfl ?_|refine Wf (by first|exact Va|exact Vs (by omega)) rfl ?_)
        refine Wf (OpV.indexArr hj') rfl ?_
        refine We rfl ?_
        refine Wf (OpV.getW j (by rw [four_len]; exact hj') (by omega) rfl) rfl ?_
        refine JO.reslot 48 (byteV (fourB (S.1.getD k 0) j)) (by simp [fourL]) ?_
        refine We rfl ?_
        refine Wf (OpV.indexArr (k := 4 * k + j) (by omega)) rfl ?_
        refine We rfl ?_
        refine JR.setW (4 * k + j) (fourB (S.1.getD k 0) j) (by rw [outJ_length S k j hlt' hj]; omega) (by omega) rfl ?_
        rw [outJ_set S k j hlt' hj']
        repeat (first|refine Wa ?_|refine Wc ?_|refine Wd ?_|refine We rfl ?_|refine Wf (by first|exact Va|exact Vb|exact Vk (by omega)) rfl ?_|refine Wr ?_)
        exact ⟨j + 1, by omega, by omega, inferInstance⟩
      · obtain rfl : j = 4 := by omega
        rw [outJ_four S k hlt']
        repeat (first|refine Wa ?_|refine Wc ?_|refine Wd ?_|refine We rfl ?_|refine Wf (by first|exact Va|exact Vb|exact Vk (by omega)) rfl ?_|refine Wm ?_|refine Wo ?_|refine Wp ?_|refine Wr ?_)
        exact ⟨k + 1, by omega, by omega, inferInstance⟩
    · obtain rfl : k = 8 := by omega
      have h8 : outK S.1 8 = S.1.flatMap fourL := by
        rw [outK, List.take_of_length_le (by rw [S.2]; exact Nat.le_refl _)]
        simp
      repeat (first | refine Wa ?_ | refine Wo ?_ | refine Wp ?_ | refine Wq rfl ?_ | refine Wr ?_ | refine Wm ?_)
      refine JC.reown bi (idc (idOfS S)) (by rw [h8]; rfl) ?_
      repeat (first|refine Wa ?_|refine Wb ?_|refine Wc ?_|refine Wd ?_|refine We rfl ?_|refine Wf (by exact Vc) rfl ?_|refine Wi ?_|refine Ws ?_)
      exact CT.done () rfl (fun w ho => ho.ent)
end Ab
end Go.Proofs.YtdgeffphifgflaaGreat
namespace Go.Proofs.YtdgeffphifgflaaGreat
namespace Ab
open Go Go.RowKit
set_option linter.unusedVariables false
set_option linter.unusedSimpArgs false
set_option synthInstance.maxSize 4000
set_option synthInstance.maxHeartbeats 400000
attribute [local irreducible] JC JO JR JQ andThen inBlock OpV Gives retTo JM JS
theorem or128 (n : Nat) : (UInt8.ofNat n ||| 128).toNat = n % 128 + 128 := by
  have key : ∀ x : Fin 256, (x.val ||| 128) = x.val % 128 + 128 := by decide +kernel
  rw [UInt8.toNat_or, UInt8.toNat_ofNat']
  have := key ⟨n % 256, Nat.mod_lt _ (by decide)⟩
  rw [show (128 : UInt8).toNat = 128 by decide]
  show n % 256 ||| 128 = _
  rw [show (n % 256 ||| 128) = n % 256 % 128 + 128 from this]
  omega
theorem num_byte (n : Nat) : IntKind.u8.wrap (((n % 128 + 128 : Nat)) : Int) = ((UInt8.ofNat n ||| 128).toNat : Int) := by
  rw [wrap8, or128]; omega
theorem num_last {n : Nat} : IntKind.u8.wrap (n : Int) = ((UInt8.ofNat n).toNat : Int) := by
  rw [wrap8, UInt8.toNat_ofNat']
theorem num_ref (m : Nat) (hm : m < 18446744073709551616) (w : World) (F : Nat → Prop) : GivesBuf Tryz.prog 118 [.int .u64 (m : Int)] w F 5 (numL m) := by
  have hml := numL_length m
  refine gives_of Tryz.func118 rfl Tryz.ntmps118 rfl rfl [] (.start w F) ?_
  refine JC.buf_nil (α := UInt8) 5 ?_
  repeat (first|refine Wa ?_|refine Wb ?_|refine Wc ?_|refine Wd ?_|refine We rfl ?_|refine Wf (by exact Vb) rfl ?_|refine Wn ?_)
  refine JC.loop5 (fun (n f : Nat) (out : List UInt8) p q => [(0, .int .u64 (n : Int)), (3, .slice p out.length q)]) (fun n f out p q => [.res (buf p q 5 out)])
    (fun n f out _ _ => n < 18446744073709551616 ∧ n < 128 ^ (f + 1) ∧ numL m = out ++ numF f n) (fun _ f _ _ _ => f) m 9 [] none 0 ⟨hm, by omega, rfl⟩ inferInstance ?_
  intro n f out p q ⟨hn, hf, heq⟩
  have hol : out.length ≤ 10 := by rw [heq, List.length_append] at hml; omega
  repeat (first|refine Wa ?_|refine Wb ?_|refine Wc ?_|refine Wd ?_|refine We rfl ?_|refine Wf (by first|exact Va|exact Vo) rfl ?_)
  refine JC.test (fun h1 => ?_) (fun h1 => ?_)
  · have h1' : 127 < n := by omega
    cases f with
    | zero => omega
    | succ f =>
      have hstep : numF (f + 1) n = (UInt8.ofNat n ||| 128) :: numF f (n / 128) := by rw [numF, if_pos h1']
      repeat (first|refine Wa ?_|refine Wb ?_|refine Wc ?_|refine We rfl ?_|refine Wf (by exact Va) rfl ?_|refine Wl ?_|refine Wn ?_)
      refine Wf (OpV.rem (by decide)) rfl ?_
      refine JO.reslot 8 (.int .u64 ((n % 128 : Nat) : Int)) (by congr 1) ?_
      refine We rfl ?_
      refine Wf OpV.addw rfl ?_
      refine JO.reslot 9 (.int .u64 ((n % 128 + 128 : Nat) : Int)) (congrArg (Value.int .u64) (by rw [show ((n % 128 : Nat) : Int) + 128 = ((n % 128 + 128 : Nat) : Int) by omega, wrap64]; omega)) ?_
      refine We rfl ?_
      refine Wf OpV.conv rfl ?_
      refine JO.reslot 10 (byteV (UInt8.ofNat n ||| 128)) (congrArg (Value.int .u8) (num_byte n)) ?_
      repeat (first|refine We rfl ?_|(refine Ww rfl ⟨rfl, by decide, by decide, by decide⟩ ?_; intro _))
      refine JR.append1 rfl (by exact ⟨rfl, rfl, by decide⟩) (by omega) ?_
      intro a2 c2
      repeat (first|refine Wa ?_|refine Wc ?_|refine Wd ?_|refine We rfl ?_|refine Wf (by first|exact Va|exact Vb) rfl ?_)
      refine Wf (OpV.quo (by decide)) rfl ?_
      refine JO.reslot 14 (.int .u64 ((n / 128 : Nat) : Int)) (congrArg (Value.int .u64) (by rw [Int.tdiv_eq_ediv_of_nonneg (by omega), show (n : Int) / 128 = ((n / 128 : Nat) : Int) by omega, wrap64]; omega)) ?_
      repeat (first|refine Wa ?_|refine Wd ?_|refine We rfl ?_|refine Wf (by exact Vb) rfl ?_|refine Wr ?_)
      exact ⟨n / 128, f, out ++ [UInt8.ofNat n ||| 128], a2, c2, ⟨by omega, by rw [Nat.pow_succ] at hf; omega, by rw [heq, hstep]; simp⟩, by omega, inferInstance⟩
  · have h1' : ¬ 127 < n := by omega
    have hlast : numF f n = [UInt8.ofNat n] := by cases f <;> simp [numF, h1']
    repeat (first|refine Wa ?_|refine Wb ?_|refine Wc ?_|refine We rfl ?_|refine Wf (by exact Va) rfl ?_|refine Wm ?_|refine Wo ?_|refine Wp ?_)
    refine Wf OpV.conv rfl ?_
    refine JO.reslot 17 (byteV (UInt8.ofNat n)) (congrArg (Value.int .u8) num_last) ?_
    repeat (first|refine We rfl ?_|(refine Ww rfl ⟨rfl, by decide, by decide, by decide⟩ ?_; intro _))
    refine JR.append1 rfl (by exact ⟨rfl, rfl, by decide⟩) (by omega) ?_
    intro a2 c2
    repeat (first|refine Wa ?_|refine Wd ?_|refine We rfl ?_|refine Wf (by exact Vb) rfl ?_|refine Ws ?_)
    rw [heq, hlast]
    exact CT.done (a2, c2) rfl (fun w ho => ho.ent)
theorem fold_ref (w : World) (F : Nat → Prop) (n : Int) (h : -1099511627776 ≤ n ∧ n ≤ 1099511627776) : GivesV Tryz.prog 119 [.int .i64 n] w F (.int .u64 ((foldN n : Nat) : Int)) := by
  have hw : ∀ z : Int, IntKind.u64.wrap z = z % 18446744073709551616 := fun z => by simp [IntKind.wrap, IntKind.bits, IntKind.signed]
  refine gives_of Tryz.func119 rfl Tryz.ntmps119 rfl rfl [] (.start w F) ?_
  repeat (first|refine Wa ?_|refine Wb ?_|refine Wc ?_|refine Wd ?_|refine We rfl ?_|refine Wf (by first|exact Va|exact Vb|exact Vp) rfl ?_)
  refine JC.test (fun h1 => ?_) (fun h1 => ?_)
  · repeat (first|refine Wb ?_|refine Wc ?_|refine We rfl ?_|refine Wf (by exact Va) rfl ?_)
    refine Wf OpV.conv rfl ?_
    refine We rfl ?_
    refine Wf OpV.mulw rfl ?_
    repeat (first|refine Wa ?_|refine Wd ?_|refine We rfl ?_|refine Wf (by exact Vb) rfl ?_|refine Ws ?_|refine Wt ?_)
    refine CT.done () ?_ (fun w ho => ho.ent)
    exact congrArg (Value.int .u64) (by rw [hw, hw, foldN, if_pos h1]; omega)
  · repeat (first|refine Wa ?_|refine Wb ?_|refine Wc ?_|refine We rfl ?_|refine Wf (by first|exact Va|exact Vv (by omega)) rfl ?_|refine Wl ?_)
    refine Wf OpV.conv rfl ?_
    refine We rfl ?_
    refine Wf OpV.mulw rfl ?_
    refine We rfl ?_
    refine Wf OpV.addw rfl ?_
    repeat (first|refine Wa ?_|refine Wd ?_|refine We rfl ?_|refine Wf (by exact Vb) rfl ?_|refine Ws ?_)
    refine CT.done () ?_ (fun w ho => ho.ent)
    exact congrArg (Value.int .u64) (by rw [hw, hw, hw, foldN, if_neg (by omega)]; omega)
theorem text_ref (s : ByteArray) (hs : s.size ≤ 1048576) (w : World) (F : Nat → Prop) : GivesBuf Tryz.prog 180 [.string s] w F 5 (textL s) := by
  have hnl := numL_length s.size
  refine gives_of Tryz.func180 rfl Tryz.ntmps180 rfl rfl [] (.start w F) ?_
  repeat (first|refine Wa ?_|refine Wb ?_|refine Wc ?_|refine Wd ?_|refine We rfl ?_|refine Wf (by first|exact Va|exact Vb|exact Vw) rfl ?_)
  refine Wf (OpV.convIn (by rw [wrap64]; omega)) rfl ?_
  repeat (refine We rfl ?_)
  refine JR.callBuf rfl (fun w1 hw => num_ref s.size (by omega) w1 _) ?_
  intro a1 c1
  repeat (first|refine We rfl ?_|refine Wf (by exact Va) rfl ?_)
  refine JR.appendStr rfl (by exact ⟨rfl, rfl, by decide⟩) (by omega) ?_
  intro a2 c2
  repeat (first|refine Wa ?_|refine Wd ?_|refine We rfl ?_|refine Wf (by exact Vb) rfl ?_|refine Ws ?_)
  exact CT.done (a2, c2) rfl (fun w ho => (ho.ent : Hold _ _ [.res (buf a2 c2 5 (numL s.size ++ bytesOf s))] w))
theorem sign_iff (c : UInt8) : c ∈ signs ↔ (97 ≤ (c.toNat : Int) ∧ (c.toNat : Int) ≤ 122) ∨ (48 ≤ (c.toNat : Int) ∧ (c.toNat : Int) ≤ 57) := by
  have key : ∀ x : Fin 256, (UInt8.ofNat x.val ∈ signs) ↔ (97 ≤ x.val ∧ x.val ≤ 122) ∨ (48 ≤ x.val ∧ x.val ≤ 57) := by decide +kernel
  have h := key ⟨c.toNat, c.toNat_lt⟩
  dsimp only at h
  rw [show UInt8.ofNat c.toNat = c from UInt8.ofNat_toNat] at h
  rw [h]
  show _ ↔ _
  omega
set_option maxHeartbeats 1000000 in
theorem key_ref (w : World) (F : Nat → Prop) (s : ByteArray) (hs : s.size < 4611686018427387904) : GivesV Tryz.prog 225 [.string s] w F (.bool (keyOk s)) := by
  refine gives_of Tryz.func225 rfl Tryz.ntmps225 rfl rfl [] (.start w F) ?_
  repeat (first|refine Wa ?_|refine Wb ?_|refine Wc ?_|refine Wd ?_|refine We rfl ?_|refine Wf (by exact Vb) rfl ?_|refine Wn ?_)
  refine JC.loop1 (fun k : Nat => [(0, .string s), (3, .int .i64 (k : Int))]) (fun _ => [])
    (fun k => k ≤ s.size ∧ (s.data.toList.take k).all (fun c => decide (c ∈ signs)) = true) (fun k => s.size - k) 0 ⟨Nat.zero_le _, by simp⟩ inferInstance ?_
  intro k ⟨hk, hin⟩
  have hlen : s.data.toList.length = s.size := rfl
  repeat (first|refine Wa ?_|refine Wb ?_|refine Wc ?_|refine Wd ?_|refine We rfl ?_|refine Wf (by first|exact Va|exact Vg|exact Vw) rfl ?_)
  refine JC.test (fun hlt => ?_) (fun hge => ?_)
  · have hlt' : k < s.size := by omega
    have hget : s.data.toList[k]'(by omega) = s[k] := rfl
    repeat (first|refine Wa ?_|refine Wb ?_|refine Wc ?_|refine We rfl ?_|refine Wf (by exact Va) rfl ?_|refine Wl ?_|refine Wn ?_)
    refine Wf (OpV.indexStr hlt') rfl ?_
    repeat (first|refine We rfl ?_|refine Wf (by first|exact Va|exact Vp) rfl ?_)
    refine JO.test 14 (fun h13 => ?_) (fun h13 => ?_)
    · repeat (first|refine We rfl ?_|refine Wf (by exact Va) rfl ?_)
      refine Wf (OpV.indexStr hlt') rfl ?_
      repeat (first|refine We rfl ?_|refine Wf (by first|exact Va|exact Vi|exact Vn) rfl ?_)
      refine JO.test 20 (fun h18 => ?_) (fun h18 => ?_)
      · have h1 : s[k] ∈ signs := (sign_iff _).2 (by omega)
        repeat (first|refine Wa ?_|refine Wc ?_|refine Wd ?_|refine We rfl ?_|refine Wf (by first|exact Va|exact Vb|exact Vh|exact Vi|exact Vk (by omega)) rfl ?_|refine Wk ?_|refine Wl ?_|refine Wr ?_|refine Wv rfl rfl ?_|refine Wx rfl rfl ?_)
        refine ⟨k + 1, ⟨by omega, ?_⟩, by omega, inferInstance⟩
        rw [List.take_succ_eq_append_getElem (by omega), List.all_append, hin, hget]
        simp [h1]
      · repeat (first|refine We rfl ?_|refine Wf (by exact Va) rfl ?_)
        refine Wf (OpV.indexStr hlt') rfl ?_
        repeat (first|refine We rfl ?_|refine Wf (by first|exact Va|exact Vp) rfl ?_)
        refine JO.test 25 (fun h24 => ?_) (fun h24 => ?_)
        · repeat (first|refine We rfl ?_|refine Wf (by exact Va) rfl ?_)
          refine Wf (OpV.indexStr hlt') rfl ?_
          repeat (first|refine Wa ?_|refine Wd ?_|refine We rfl ?_|refine Wf (by first|exact Vh|exact Vi|exact Vj|exact Vn) rfl ?_)
          refine JC.test (fun h29 => ?_) (fun h29 => ?_)
          · have h2 : s.data.toList.all (fun c => decide (c ∈ signs)) = false := by
              rw [List.all_eq_false]
              refine ⟨s[k], by rw [← hget]; exact List.getElem_mem _, fun h => ?_⟩
              have := (sign_iff _).1 (of_decide_eq_true h)
              omega
            repeat (first|refine Wa ?_|refine Wb ?_|refine Wc ?_|refine Wd ?_|refine We rfl ?_|refine Wf (by exact Vb) rfl ?_|refine Ws ?_|refine Wt ?_|refine Wu ?_)
            refine CT.done () ?_ (fun w ho => ho.ent)
            simp [packed, keyOk, h2]
          · have h1 : s[k] ∈ signs := (sign_iff _).2 (by omega)
            repeat (first|refine Wa ?_|refine Wc ?_|refine Wd ?_|refine We rfl ?_|refine Wf (by first|exact Va|exact Vb|exact Vk (by omega)) rfl ?_|refine Wl ?_|refine Wr ?_)
            refine ⟨k + 1, ⟨by omega, ?_⟩, by omega, inferInstance⟩
            rw [List.take_succ_eq_append_getElem (by omega), List.all_append, hin, hget]
            simp [h1]
        · have h2 : s.data.toList.all (fun c => decide (c ∈ signs)) = false := by
            rw [List.all_eq_false]
            refine ⟨s[k], by rw [← hget]; exact List.getElem_mem _, fun h => ?_⟩
            have := (sign_iff _).1 (of_decide_eq_true h)
            omega
          repeat (first|refine Wa ?_|refine Wb ?_|refine Wc ?_|refine Wd ?_|refine We rfl ?_|refine Wf (by first|exact Vb|exact Vh|exact Vj) rfl ?_|refine Wj ?_|refine Ws ?_|refine Wt ?_|refine Wu ?_|refine Wv rfl rfl ?_)
          refine CT.done () ?_ (fun w ho => ho.ent)
          simp [packed, keyOk, h2]
    · repeat (first|refine We rfl ?_|refine Wf (by first|exact Va|exact Vj) rfl ?_|refine Wv rfl rfl ?_)
      refine Wf (OpV.indexStr hlt') rfl ?_
      repeat (first|refine We rfl ?_|refine Wf (by first|exact Va|exact Vp) rfl ?_)
      refine JO.test 25 (fun h24 => ?_) (fun h24 => ?_)
      · repeat (first|refine We rfl ?_|refine Wf (by exact Va) rfl ?_)
        refine Wf (OpV.indexStr hlt') rfl ?_
        repeat (first|refine Wa ?_|refine Wd ?_|refine We rfl ?_|refine Wf (by first|exact Vh|exact Vi|exact Vj|exact Vn) rfl ?_)
        refine JC.test (fun h29 => ?_) (fun h29 => ?_)
        · have h2 : s.data.toList.all (fun c => decide (c ∈ signs)) = false := by
            rw [List.all_eq_false]
            refine ⟨s[k], by rw [← hget]; exact List.getElem_mem _, fun h => ?_⟩
            have := (sign_iff _).1 (of_decide_eq_true h)
            omega
          repeat (first|refine Wa ?_|refine Wb ?_|refine Wc ?_|refine Wd ?_|refine We rfl ?_|refine Wf (by exact Vb) rfl ?_|refine Ws ?_|refine Wt ?_|refine Wu ?_)
          refine CT.done () ?_ (fun w ho => ho.ent)
          simp [packed, keyOk, h2]
        · have h1 : s[k] ∈ signs := (sign_iff _).2 (by omega)
          repeat (first|refine Wa ?_|refine Wc ?_|refine Wd ?_|refine We rfl ?_|refine Wf (by first|exact Va|exact Vb|exact Vk (by omega)) rfl ?_|refine Wl ?_|refine Wr ?_)
          refine ⟨k + 1, ⟨by omega, ?_⟩, by omega, inferInstance⟩
          rw [List.take_succ_eq_append_getElem (by omega), List.all_append, hin, hget]
          simp [h1]
      · have h2 : s.data.toList.all (fun c => decide (c ∈ signs)) = false := by
          rw [List.all_eq_false]
          refine ⟨s[k], by rw [← hget]; exact List.getElem_mem _, fun h => ?_⟩
          have := (sign_iff _).1 (of_decide_eq_true h)
          omega
        repeat (first|refine Wa ?_|refine Wb ?_|refine Wc ?_|refine Wd ?_|refine We rfl ?_|refine Wf (by first|exact Vb|exact Vh|exact Vj) rfl ?_|refine Wj ?_|refine Ws ?_|refine Wt ?_|refine Wu ?_|refine Wv rfl rfl ?_)
        refine CT.done () ?_ (fun w ho => ho.ent)
        simp [packed, keyOk, h2]
  · have hall : s.data.toList.all (fun c => decide (c ∈ signs)) = true := by
      rwa [List.take_of_length_le (by omega)] at hin
    repeat (first|refine Wa ?_|refine Wb ?_|refine Wc ?_|refine We rfl ?_|refine Wf (by first|exact Va|exact Vp|exact Vw) rfl ?_|refine Wm ?_|refine Wo ?_|refine Wp ?_)
    refine JO.test 36 (fun h => ?_) (fun h => ?_)
    · repeat (first|refine Wa ?_|refine Wd ?_|refine We rfl ?_|refine Wf (by first|exact Va|exact Vb|exact Vi|exact Vn|exact Vw) rfl ?_|refine Ws ?_)
      refine CT.done () ?_ (fun w ho => ho.ent)
      have : s.size ≠ 0 := by omega
      simp only [packed, keyOk, hall, Bool.true_and, this, decide_true, ne_eq, not_false_eq_true]
      simp
      omega
    · repeat (first|refine Wa ?_|refine Wd ?_|refine We rfl ?_|refine Wf (by first|exact Vb|exact Vj) rfl ?_|refine Ws ?_|refine Wv rfl rfl ?_)
      refine CT.done () ?_ (fun w ho => ho.ent)
      have : s.size = 0 := by omega
      simp [packed, keyOk, this]
theorem event_ref (w : World) (F : Nat → Prop) (a b : Int) : GivesV Tryz.prog 178 [.agg ⟨[.int .i64 a, .int .i64 b]⟩] w F (.bool (inB a 0 7 && inB b 1 1048576)) := by
  refine gives_of Tryz.func178 rfl Tryz.ntmps178 rfl rfl [] (.start w F) ?_
  repeat (first|refine Wa ?_|refine Wb ?_|refine Wc ?_|refine Wd ?_|refine We rfl ?_|refine Wf (by first|exact Va|exact Vb|exact Vc|exact Vd|exact Vp) rfl ?_|(refine Wh rfl ?_; intro _))
  refine JO.test 6 (fun h1 => ?_) (fun h1 => ?_)
  · repeat (first|refine We rfl ?_|refine Wf (by first|exact Va|exact Vc|exact Vd|exact Vg|exact Vi) rfl ?_)
    refine JO.test 11 (fun h2 => ?_) (fun h2 => ?_)
    · repeat (first|refine We rfl ?_|refine Wf (by first|exact Va|exact Vc|exact Vd|exact Vi|exact Vp) rfl ?_)
      refine JO.test 16 (fun h3 => ?_) (fun h3 => ?_)
      · repeat (first|refine Wa ?_|refine Wd ?_|refine We rfl ?_|refine Wf (by first|exact Vb|exact Vc|exact Vd|exact Vi|exact Vn) rfl ?_|refine Ws ?_)
        refine CT.done () ?_ (fun w ho => ho.ent)
        have : a ≤ 7 := by omega
        simp [packed, inB, h1, this, h3]
      · repeat (first|refine Wa ?_|refine Wd ?_|refine We rfl ?_|refine Wf (by first|exact Vb|exact Vj) rfl ?_|refine Ws ?_|refine Wv rfl rfl ?_)
        refine CT.done () ?_ (fun w ho => ho.ent)
        simp [packed, inB, h3]
    · repeat (first|refine Wa ?_|refine Wd ?_|refine We rfl ?_|refine Wf (by first|exact Va|exact Vb|exact Vj) rfl ?_|refine Ws ?_|refine Wv rfl rfl ?_)
      refine CT.done () ?_ (fun w ho => ho.ent)
      have : ¬ a ≤ 7 := by omega
      simp [packed, inB, this]
  · repeat (first|refine Wa ?_|refine Wd ?_|refine We rfl ?_|refine Wf (by first|exact Va|exact Vb|exact Vj) rfl ?_|refine Ws ?_|refine Wv rfl rfl ?_)
    refine CT.done () ?_ (fun w ho => ho.ent)
    simp [packed, inB, h1]
set_option maxHeartbeats 1000000 in
theorem opmay_ref : Tests Tryz.prog 179 opMay := by
  intro w F o h1 h2
  refine gives_of Tryz.func179 rfl Tryz.ntmps179 rfl rfl [] (.start w F) ?_
  repeat (first|refine Wa ?_|refine Wb ?_|refine Wc ?_|refine Wd ?_|refine We rfl ?_|refine Wf (by first|exact Vb|exact Vc|exact Vd) rfl ?_|(refine Wh rfl ?_; intro _))
  refine JR.callV rfl (fun w1 hw => key_ref w1 _ o.key h1) ?_
  repeat (first|refine Wa ?_|refine Wb ?_|refine Wc ?_|refine Wd ?_|refine We rfl ?_|refine Wf (by first|exact Vb|exact Vc|exact Vd) rfl ?_)
  refine JR.callV rfl (fun w1 hw => key_ref w1 _ o.elem h2) ?_
  cases hk : keyOk o.key with
  | false =>
    repeat (first|refine Wa ?_|refine Wb ?_|refine Wc ?_|refine Wd ?_|refine We rfl ?_|refine Wf (by first|exact Va|exact Vb|exact Vh) rfl ?_|refine Wj ?_|refine Ws ?_|refine Wt ?_)
    refine CT.done () ?_ (fun w ho => ho.ent)
    simp [packed, opMay, *] <;> exact Iff.rfl
  | true =>
    repeat (first|refine Wa ?_|refine Wb ?_|refine Wc ?_|refine Wd ?_|refine We rfl ?_|refine Wf (by first|exact Va|exact Vb|exact Vc|exact Vd|exact Vh|exact Vl) rfl ?_|refine Wk ?_|refine Wl ?_)
    refine JC.test (fun hk0 => ?_) (fun hk0 => ?_)
    · repeat (first|refine Wb ?_|refine Wc ?_|refine We rfl ?_|refine Wf (by first|exact Va|exact Vc|exact Vd|exact Vp) rfl ?_)
      refine JO.test 19 (fun h3 => ?_) (fun h3 => ?_)
      · repeat (first|refine We rfl ?_|refine Wf (by first|exact Va|exact Vc|exact Vd|exact Vi|exact Vn) rfl ?_)
        refine JO.test 24 (fun h4 => ?_) (fun h4 => ?_)
        · repeat (first|refine We rfl ?_|refine Wf (by first|exact Va|exact Vc|exact Vd|exact Vi|exact Vm) rfl ?_)
          refine JO.test 29 (fun h5 => ?_) (fun h5 => ?_)
          · repeat (first|refine Wa ?_|refine Wd ?_|refine We rfl ?_|refine Wf (by first|exact Vb|exact Vc|exact Vd|exact Vi|exact VB) rfl ?_|refine Ws ?_|refine Wt ?_)
            refine CT.done () ?_ (fun w ho => ho.ent)
            simp [packed, opMay, *] <;> exact Iff.rfl
          · repeat (first|refine Wa ?_|refine Wd ?_|refine We rfl ?_|refine Wf (by first|exact Vb|exact Vj) rfl ?_|refine Ws ?_|refine Wt ?_|refine Wv rfl rfl ?_)
            refine CT.done () ?_ (fun w ho => ho.ent)
            simp [packed, opMay, *] <;> exact Iff.rfl
        · repeat (first|refine Wa ?_|refine Wd ?_|refine We rfl ?_|refine Wf (by first|exact Va|exact Vb|exact Vj) rfl ?_|refine Ws ?_|refine Wt ?_|refine Wv rfl rfl ?_)
          refine CT.done () ?_ (fun w ho => ho.ent)
          simp [packed, opMay, *] <;> exact Iff.rfl
      · repeat (first|refine Wa ?_|refine Wd ?_|refine We rfl ?_|refine Wf (by first|exact Va|exact Vb|exact Vj) rfl ?_|refine Ws ?_|refine Wt ?_|refine Wv rfl rfl ?_)
        refine CT.done () ?_ (fun w ho => ho.ent)
        simp [packed, opMay, *] <;> exact Iff.rfl
    · repeat (first|refine Wa ?_|refine Wb ?_|refine Wc ?_|refine We rfl ?_|refine Wf (by first|exact Va|exact Vc|exact Vd|exact Vl) rfl ?_|refine Wl ?_)
      cases he : keyOk o.elem with
      | false =>
        refine JO.test 37 (fun h3 => ?_) (fun h3 => ?_)
        · repeat (first|refine Wa ?_|refine Wd ?_|refine We rfl ?_|refine Wf (by first|exact Va|exact Vb|exact Vi|exact Vj) rfl ?_|refine Ws ?_|refine Wv rfl rfl ?_)
          refine CT.done () ?_ (fun w ho => ho.ent)
          simp [packed, opMay, *] <;> exact Iff.rfl
        · repeat (first|refine We rfl ?_|refine Wf (by first|exact Va|exact Vc|exact Vd|exact Vj|exact Vl) rfl ?_)
          refine JO.test 42 (fun h4 => ?_) (fun h4 => ?_)
          · repeat (first|refine Wa ?_|refine Wd ?_|refine We rfl ?_|refine Wf (by first|exact Va|exact Vb|exact Vi|exact Vj) rfl ?_|refine Ws ?_|refine Wv rfl rfl ?_)
            refine CT.done () ?_ (fun w ho => ho.ent)
            simp [packed, opMay, *] <;> exact Iff.rfl
          · repeat (first|refine We rfl ?_|refine Wf (by first|exact Va|exact Vc|exact Vd|exact Vj|exact Vl) rfl ?_)
            refine JO.test 47 (fun h5 => ?_) (fun h5 => ?_)
            · repeat (first|refine Wa ?_|refine Wd ?_|refine We rfl ?_|refine Wf (by first|exact Va|exact Vb|exact Vi|exact Vj) rfl ?_|refine Ws ?_|refine Wv rfl rfl ?_)
              refine CT.done () ?_ (fun w ho => ho.ent)
              simp [packed, opMay, *] <;> exact Iff.rfl
            · repeat (first|refine Wa ?_|refine Wd ?_|refine We rfl ?_|refine Wf (by first|exact Va|exact Vb|exact Vj) rfl ?_|refine Ws ?_|refine Wv rfl rfl ?_)
              refine CT.done () ?_ (fun w ho => ho.ent)
              simp [packed, opMay, *] <;> exact Iff.rfl
      | true =>
        refine JO.test 37 (fun h3 => ?_) (fun h3 => ?_)
        · repeat (first|refine Wa ?_|refine Wd ?_|refine We rfl ?_|refine Wf (by first|exact Va|exact Vb|exact Vc|exact Vd|exact Vi|exact Vl) rfl ?_|refine Ws ?_|refine Wv rfl rfl ?_)
          refine CT.done () ?_ (fun w ho => ho.ent)
          simp [packed, opMay, *] <;> exact Iff.rfl
        · repeat (first|refine We rfl ?_|refine Wf (by first|exact Va|exact Vc|exact Vd|exact Vj|exact Vl) rfl ?_)
          refine JO.test 42 (fun h4 => ?_) (fun h4 => ?_)
          · repeat (first|refine Wa ?_|refine Wd ?_|refine We rfl ?_|refine Wf (by first|exact Va|exact Vb|exact Vc|exact Vd|exact Vi|exact Vl) rfl ?_|refine Ws ?_|refine Wv rfl rfl ?_)
            refine CT.done () ?_ (fun w ho => ho.ent)
            simp [packed, opMay, *] <;> exact Iff.rfl
          · repeat (first|refine We rfl ?_|refine Wf (by first|exact Va|exact Vc|exact Vd|exact Vj|exact Vl) rfl ?_)
            refine JO.test 47 (fun h5 => ?_) (fun h5 => ?_)
            · repeat (first|refine Wa ?_|refine Wd ?_|refine We rfl ?_|refine Wf (by first|exact Va|exact Vb|exact Vc|exact Vd|exact Vi|exact Vl) rfl ?_|refine Ws ?_)
              refine CT.done () ?_ (fun w ho => ho.ent)
              simp [packed, opMay, *] <;> exact Iff.rfl
            · repeat (first|refine Wa ?_|refine Wd ?_|refine We rfl ?_|refine Wf (by first|exact Va|exact Vb|exact Vj) rfl ?_|refine Ws ?_|refine Wv rfl rfl ?_)
              refine CT.done () ?_ (fun w ho => ho.ent)
              simp [packed, opMay, *] <;> exact Iff.rfl
end Ab
end Go.Proofs.YtdgeffphifgflaaGreat
namespace Go.Proofs.YtdgeffphifgflaaGreat
namespace Ab
open Go Go.RowKit
set_option linter.unusedVariables false
set_option linter.unusedSimpArgs false
set_option synthInstance.maxSize 4000
set_option synthInstance.maxHeartbeats 400000
attribute [local irreducible] JC JO JR JQ andThen inBlock OpV Gives retTo JM JS
attribute [local irreducible] sumI numL textL opPut keyOk
set_option maxHeartbeats 1000000 in
theorem opput_ref (w : World) (F : Nat → Prop) (o : Op_) (hk : o.key.size < 4611686018427387904) (he : o.elem.size < 4611686018427387904) : GivesSlT Tryz.prog 120 [opV o] w F (putOp o).1 [.int .i64 (putOp o).2] := by
  refine gives_of Tryz.func120 rfl Tryz.ntmps120 rfl rfl [] (.start w F) ?_
  repeat (first|refine Wa ?_|refine Wb ?_|refine Wc ?_|refine Wd ?_|refine We rfl ?_|refine Wf (by first|exact Vb|exact Vc) rfl ?_|(refine Wh rfl ?_; intro _))
  rename_i bo
  refine JR.callV rfl (fun w1 hw => opmay_ref w1 _ o hk he) ?_
  repeat (first|refine Wa ?_|refine Wb ?_|refine Wc ?_|refine Wd ?_|refine We rfl ?_|refine Wf (by first|exact Va|exact Vb|exact Vh) rfl ?_)
  refine JC.test (fun h1 => ?_) (fun h1 => ?_)
  · have h2 : putOp o = ([], 1) := by simp [putOp, h1]
    rw [h2]
    repeat (first|refine Wa ?_|refine Wb ?_|refine Wc ?_|refine Wd ?_|refine We rfl ?_|refine Wf (by exact Vb) rfl ?_|refine Ws ?_|refine Wt ?_)
    exact CT.done (none, 0) rfl (fun w ho => (ho.ent : Hold _ _ [] w).add sl_nil)
  have h1 : opMay o = true := by simpa using h1
  have h2 : putOp o = (opPut o, 0) := by simp [putOp, h1]
  obtain ⟨⟨hkk, hkn⟩, hks, _, _, _, _, _, _, _, _, hlen⟩ := put_facts o h1
  have hconv : IntKind.u64.wrap o.kind = o.kind := by rw [hkk, wrap64]; omega
  have hnl := numL_length o.kind.toNat
  have htl := textL_length o.key
  have hsz : o.key.size ≤ 1048576 ∧ o.elem.size ≤ 1048576 ∧ -1099511627776 ≤ o.n ∧ o.n ≤ 1099511627776 := by
    have h3 := h1
    unfold opMay at h3
    split at h3
    · simp only [Bool.and_eq_true, decide_eq_true_eq] at h3
      exact ⟨hks, by rw [h3.2.2]; decide, by omega, by omega⟩
    · split at h3
      · simp only [Bool.and_eq_true, decide_eq_true_eq] at h3
        have := h3.2.2
        unfold keyOk at this
        simp only [Bool.and_eq_true, decide_eq_true_eq] at this
        exact ⟨hks, by omega, by omega, by omega⟩
      · cases h3
  rw [h2]
  repeat (first|refine Wa ?_|refine Wb ?_|refine Wl ?_)
  refine JC.draw 7 mixed ?_
  refine JM.take 0 rfl (by kernel_rfl) rfl Vd rfl rfl ?_
  refine JM.take 1 rfl (by kernel_rfl) rfl Vc rfl rfl ?_
  refine JM.take 2 rfl (by kernel_rfl) rfl (OpV.convIn hconv) rfl rfl ?_
  refine JM.reslot 12 (.int .u64 ((o.kind.toNat : Nat) : Int)) (congrArg (Value.int .u64) hkk) ?_
  refine JM.take 4 rfl (by kernel_rfl) rfl Vd rfl rfl ?_
  refine JM.take 5 rfl (by kernel_rfl) rfl Vc rfl rfl ?_
  refine JM.one 3 (by kernel_rfl) rfl rfl rfl rfl (JS.callBuf rfl (fun w1 hw => num_ref _ (by omega) w1 _) fun aN cN => ?_)
  refine JM.one 6 (by kernel_rfl) rfl rfl rfl rfl (JS.callBuf rfl (fun w1 hw => text_ref _ hks w1 _) fun aT cT => ?_)
  refine JM.more (fun w1 ho => ho.pub) ?_
  refine JM.last 7 (by kernel_rfl) rfl rfl rfl (JR.appendSl rfl (by exact ⟨rfl, rfl, by decide⟩) (by omega) (fun a5 c5 => Wd ⟨rfl, ?_⟩))
  refine JM.last 8 (by kernel_rfl) rfl rfl rfl (Wf Vb rfl (Wd ⟨rfl, ?_⟩))
  refine JM.nil (by kernel_rfl) ?_
  repeat (first|refine Wa ?_|refine Wb ?_|refine Wc ?_|refine Wd ?_|refine We rfl ?_|refine Wf (by first|exact Vc|exact Vd|exact Vl) rfl ?_)
  refine JC.test (fun h3 => ?_) (fun h3 => ?_)
  · have hop : opPut o = (numL o.kind.toNat ++ textL o.key) ++ numL (foldN o.n) := by unfold opPut; rw [if_pos h3]
    have hnn := numL_length (foldN o.n)
    rw [hop]
    repeat (first|refine Wb ?_|refine Wc ?_|refine We rfl ?_|refine Wf (by first|exact Va|exact Vc|exact Vd) rfl ?_)
    refine JR.callV rfl (fun w1 hw => fold_ref w1 _ o.n hsz.2.2) ?_
    repeat (refine We rfl ?_)
    refine JR.callBuf rfl (fun w1 hw => num_ref _ (foldN_lt hsz.2.2) w1 _) ?_
    intro a6 c6
    refine JO.more (fun w1 ho => ho.pub) ?_
    repeat (refine We rfl ?_)
    refine JR.appendSl rfl (by exact ⟨rfl, rfl, by decide⟩) (by rw [List.length_append]; omega) ?_
    intro a7 c7
    repeat (first|refine Wa ?_|refine Wd ?_|refine We rfl ?_|refine Wf (by exact Vb) rfl ?_|refine Ws ?_|refine Wt ?_)
    exact CT.done (a7, c7) rfl (fun w ho => Hold.left (Γ := [.st (sl a7 c7 ((numL o.kind.toNat ++ textL o.key) ++ numL (foldN o.n)))]) (Hold.pub (ho.ent : Hold _ _ [.res (buf a7 c7 5 ((numL o.kind.toNat ++ textL o.key) ++ numL (foldN o.n)))] w)))
  · have hop : opPut o = (numL o.kind.toNat ++ textL o.key) ++ textL o.elem := by unfold opPut; rw [if_neg h3]
    have hnn := textL_length o.elem
    rw [hop]
    repeat (first|refine Wa ?_|refine Wb ?_|refine Wc ?_|refine We rfl ?_|refine Wf (by first|exact Va|exact Vc|exact Vd) rfl ?_|refine Wl ?_)
    refine JR.callBuf rfl (fun w1 hw => text_ref _ hsz.2.1 w1 _) ?_
    intro a6 c6
    refine JO.more (fun w1 ho => ho.pub) ?_
    repeat (refine We rfl ?_)
    refine JR.appendSl rfl (by exact ⟨rfl, rfl, by decide⟩) (by rw [List.length_append]; omega) ?_
    intro a7 c7
    repeat (first|refine Wa ?_|refine Wd ?_|refine We rfl ?_|refine Wf (by exact Vb) rfl ?_|refine Ws ?_)
    exact CT.done (a7, c7) rfl (fun w ho => Hold.left (Γ := [.st (sl a7 c7 ((numL o.kind.toNat ++ textL o.key) ++ textL o.elem))]) (Hold.pub (ho.ent : Hold _ _ [.res (buf a7 c7 5 ((numL o.kind.toNat ++ textL o.key) ++ textL o.elem))] w)))
end Ab
end Go.Proofs.YtdgeffphifgflaaGreat
namespace Go.Proofs.YtdgeffphifgflaaGreat
namespace Ab
open Go Go.RowKit
set_option linter.unusedVariables false
set_option linter.unusedSimpArgs false
set_option synthInstance.maxSize 4000
set_option synthInstance.maxHeartbeats 400000
attribute [local irreducible] JC JO JR JQ andThen inBlock OpV Gives retTo JM JS
theorem lt_at {A B : List UInt8} (i : Nat) (hA : i < A.length) (hB : i < B.length) (h : A.take i = B.take i) (hne : A[i] ≠ B[i]) : A < B ↔ A[i] < B[i] := by
  induction i generalizing A B with
  | zero =>
    match A, B, hA, hB with
    | a :: A, b :: B, _, _ =>
      simp only [List.getElem_cons_zero] at hne ⊢
      rw [List.cons_lt_cons_iff]
      simp [hne]
  | succ i ih =>
    match A, B, hA, hB with
    | a :: A, b :: B, hA, hB =>
      simp only [List.take_succ_cons, List.cons.injEq] at h
      simp only [List.getElem_cons_succ] at hne ⊢
      rw [List.cons_lt_cons_iff]
      have := ih (by simpa using hA) (by simpa using hB) h.2 hne
      rw [← this]
      have hirr : ¬ a < b := by rw [h.1]; exact UInt8.lt_irrefl _
      simp [hirr, h.1]
theorem idLt_at {a b : ID} (i : Nat) (hi : i < 32) (h : a.1.take i = b.1.take i) (hne : a.1[i]'(by rw [a.2]; exact hi) ≠ b.1[i]'(by rw [b.2]; exact hi)) :
    idLt a b = decide (((a.1[i]'(by rw [a.2]; exact hi)).toNat : Int) < ((b.1[i]'(by rw [b.2]; exact hi)).toNat : Int)) := by
  rw [Bool.eq_iff_iff, idLt_iff, lt_at i (by rw [a.2]; exact hi) (by rw [b.2]; exact hi) h hne, decide_eq_true_eq, UInt8.lt_iff_toNat_lt]
  omega
theorem less_ref (w : World) (F : Nat → Prop) (a b : ID) : GivesV Tryz.prog 199 [.agg ⟨idc a⟩, .agg ⟨idc b⟩] w F (.bool (idLt a b)) := by
  refine gives_of Tryz.func199 rfl Tryz.ntmps199 rfl rfl [] (.start w F) ?_
  repeat (first|refine Wa ?_|refine Wb ?_|refine Wc ?_|refine Wd ?_|refine We rfl ?_|refine Wf (by exact Vb) rfl ?_|(refine Wh rfl ?_; intro _)|refine Wn ?_)
  rename_i ba bb
  refine JC.reown ba (a.1.map byteV) rfl ?_
  refine JC.reown bb (b.1.map byteV) rfl ?_
  refine JC.loop1 (fun k : Nat => [(2, .pointer (some ⟨ba, 0, none⟩)), (3, .pointer (some ⟨bb, 0, none⟩)), (5, .int .i64 (k : Int))]) (fun _ => [.own ba 81 (a.1.map byteV), .own bb 81 (b.1.map byteV)])
    (fun k => k ≤ 32 ∧ a.1.take k = b.1.take k) (fun k => 32 - k) 0 ⟨Nat.zero_le _, rfl⟩ inferInstance ?_
  intro k ⟨hk, heq⟩
  repeat (first|refine Wa ?_|refine Wb ?_|refine Wc ?_|refine Wd ?_|refine We rfl ?_|refine Wf (by first|exact Va|exact Vg) rfl ?_)
  refine JC.test (fun hlt => ?_) (fun hge => ?_)
  · have hlt' : k < 32 := by omega
    have ha : k < a.1.length := by rw [a.2]; exact hlt'
    have hb : k < b.1.length := by rw [b.2]; exact hlt'
    repeat (first|refine Wa ?_|refine Wb ?_|refine Wl ?_|refine Wn ?_)
    refine JC.quiet mixed (by kernel_rfl) ?_
    refine Wy rfl Va rfl ?_
    refine Wy rfl (OpV.indexArr hlt') rfl ?_
    refine Wy rfl (OpV.getW k ha (by omega) rfl) rfl ?_
    refine Wy rfl Va rfl ?_
    refine Wy rfl (OpV.indexArr hlt') rfl ?_
    refine Wy rfl (OpV.getW k hb (by omega) rfl) rfl ?_
    repeat (first|refine Wy rfl (by exact Vm) rfl ?_|refine WB ?_)
    repeat (refine Wa ?_)
    refine JC.test (fun hne => ?_) (fun he => ?_)
    · have hne' : a.1[k] ≠ b.1[k] := fun h => by rw [h] at hne; exact hne rfl
      repeat (refine Wb ?_)
      refine JC.quiet mixed (by kernel_rfl) ?_
      refine Wy rfl Va rfl ?_
      refine Wy rfl (OpV.indexArr hlt') rfl ?_
      refine Wy rfl (OpV.getW k ha (by omega) rfl) rfl ?_
      refine Wy rfl Va rfl ?_
      refine Wy rfl (OpV.indexArr hlt') rfl ?_
      refine Wy rfl (OpV.getW k hb (by omega) rfl) rfl ?_
      repeat (first|refine Wy rfl (by first|exact Vb|exact Vg) rfl ?_|refine WB ?_)
      repeat (first|refine Wa ?_|refine Ws ?_|refine Wt ?_|refine Wu ?_)
      exact CT.done () (by rw [idLt_at k hlt' heq hne']; rfl) (fun w ho => ho.ent)
    · have he' : a.1[k] = b.1[k] := UInt8.toNat_inj.1 (by omega)
      repeat (first|refine Wa ?_|refine Wc ?_|refine Wd ?_|refine We rfl ?_|refine Wf (by first|exact Va|exact Vb|exact Vk (by omega)) rfl ?_|refine Wl ?_|refine Wr ?_)
      exact ⟨k + 1, ⟨by omega, by rw [List.take_succ_eq_append_getElem ha, List.take_succ_eq_append_getElem hb, heq, he']⟩, by omega, inferInstance⟩
  · have hk2 : k = 32 := by omega
    have hab : a = b := Subtype.ext (by
      rw [List.take_of_length_le (by rw [a.2]; omega), List.take_of_length_le (by rw [b.2]; omega)] at heq
      exact heq)
    subst hab
    repeat (first|refine Wa ?_|refine Wb ?_|refine Wc ?_|refine Wd ?_|refine We rfl ?_|refine Wf (by exact Vb) rfl ?_|refine Wm ?_|refine Wo ?_|refine Wp ?_|refine Ws ?_)
    exact CT.done () (by rw [idLt_irrefl]; rfl) (fun w ho => ho.ent)
theorem rises_ref (w : World) (F : Nat → Prop) (a : Option Addr) (c : Nat) (L : List ID) (h : (sl a c L).holds F w) :
    GivesV Tryz.prog 151 [.slice a L.length c] w F (.bool (rises L)) := by
  have hL : L.length < 9223372036854775807 := by have := h.2.2.1; simp only [lim] at this; omega
  refine gives_of Tryz.func151 rfl Tryz.ntmps151 rfl rfl [.st (sl a c L)] (.start1 h) ?_
  repeat (first|refine Wa ?_|refine Wb ?_|refine Wc ?_|refine Wd ?_|refine We rfl ?_|refine Wf (by exact Vb) rfl ?_|refine Wn ?_)
  refine JC.reslot 3 (.int .i64 ((1 : Nat) : Int)) rfl ?_
  refine JC.loop1 (fun k : Nat => [(0, .slice a L.length c), (3, .int .i64 (k : Int))]) (fun _ => [.st (sl a c L)])
    (fun k => 1 ≤ k ∧ (k ≤ L.length ∨ k = 1) ∧ rises (L.take k) = true) (fun k => L.length + 1 - k) 1 ⟨Nat.le_refl _, .inr rfl, rises_short _ (by simp; omega)⟩ inferInstance ?_
  intro k ⟨h1, hk, hr⟩
  repeat (first|refine Wa ?_|refine Wb ?_|refine Wc ?_|refine Wd ?_|refine We rfl ?_|refine Wf (by first|exact Va|exact Vf|exact Vg) rfl ?_)
  refine JC.test (fun hlt => ?_) (fun hge => ?_)
  · have hlt' : k < L.length := by omega
    have hr' := rises_take L k h1 hlt' hr
    repeat (first|refine Wa ?_|refine Wb ?_|refine Wl ?_|refine Wn ?_)
    refine JC.openID (.slice a L.length c) (k - 1) (by omega) ?_
    intro b1 o1
    refine JC.openID (.slice a L.length c) k hlt' ?_
    intro b2 o2
    refine JC.quiet mixed (by kernel_rfl) ?_
    repeat (refine Wy rfl (by first|exact Va|exact Vc|exact Ve|exact Vu (by omega)) rfl ?_)
    refine JQ.call rfl rfl (fun w1 hw => less_ref w1 _ _ _) ?_
    repeat (first|refine Wy rfl (by exact Vb) rfl ?_|refine WB ?_)
    repeat (first|refine Wa ?_|refine Wb ?_|refine Wc ?_|refine Wd ?_|refine We rfl ?_|refine Wf (by first|exact Va|exact Vh) rfl ?_)
    refine JC.test (fun hne => ?_) (fun heq2 => ?_)
    · repeat (first|refine Wa ?_|refine Wb ?_|refine Wc ?_|refine Wd ?_|refine We rfl ?_|refine Wf (by exact Vb) rfl ?_|refine Ws ?_|refine Wt ?_|refine Wu ?_)
      refine CT.done () ?_ (fun w ho => ho.ent)
      simp [packed, hr'.2 (by simpa using hne)]
    · repeat (first|refine Wa ?_|refine Wc ?_|refine Wd ?_|refine We rfl ?_|refine Wf (by first|exact Va|exact Vb|exact Vk (by omega)) rfl ?_|refine Wl ?_|refine Wr ?_)
      exact ⟨k + 1, ⟨by omega, .inl (by omega), by rw [hr'.1]; simpa using heq2⟩, by omega, inferInstance⟩
  · repeat (first|refine Wa ?_|refine Wb ?_|refine Wc ?_|refine Wd ?_|refine We rfl ?_|refine Wf (by exact Vb) rfl ?_|refine Wm ?_|refine Wo ?_|refine Wp ?_|refine Ws ?_)
    refine CT.done () ?_ (fun w ho => ho.ent)
    have : rises L = true := by
      rcases hk with hk | hk
      · rwa [List.take_of_length_le (by omega)] at hr
      · exact rises_short L (by omega)
    simp [packed, this]
set_option maxHeartbeats 1000000 in
theorem maycom_ref (w : World) (F : Nat → Prop) (c : Commit) (a : Option Addr) (k : Nat) (h : (sl a k c.parents).holds F w) (ht : texts c) :
    GivesV Tryz.prog 117 [commitV c a k] w F (.bool (may c)) := by
  have hL : c.parents.length < 9223372036854775807 := by have := h.2.2.1; simp only [lim] at this; omega
  refine gives_of Tryz.func117 rfl Tryz.ntmps117 rfl rfl [.st (sl a k c.parents)] (.start1 h) ?_
  repeat (first|refine Wa ?_|refine Wb ?_|refine Wc ?_|refine Wd ?_|refine We rfl ?_|refine Wf (by first|exact Vb|exact Vc|exact Vd) rfl ?_|(refine Wh rfl ?_; intro _))
  refine JR.callV rfl (fun w1 hw => rises_ref w1 _ a k c.parents hw.get) ?_
  repeat (first|refine Wa ?_|refine Wb ?_|refine Wc ?_|refine Wd ?_|refine We rfl ?_|refine Wf (by first|exact Va|exact Vb|exact Vc|exact Vd|exact Vg) rfl ?_)
  refine JO.test 12 (fun h1 => ?_) (fun h1 => ?_)
  · have hm : may c = false := by simp [may, inB, h1] <;> omega
    rw [hm]
    repeat (first|refine Wa ?_|refine Wb ?_|refine Wc ?_|refine Wd ?_|refine We rfl ?_|refine Wf (by first|exact Va|exact Vb|exact Vi) rfl ?_|refine Wj ?_|refine Ws ?_|refine Wt ?_|refine Wv rfl rfl ?_)
    exact CT.done () rfl (fun w ho => ho.ent)
  repeat (first|refine We rfl ?_|refine Wf (by first|exact Va|exact Vc|exact Vd|exact Vj|exact Vo) rfl ?_)
  refine JO.test 17 (fun h2 => ?_) (fun h2 => ?_)
  · have hm : may c = false := by
      have : ¬ c.gen ≤ 1048576 := by omega
      simp [may, inB, this]
    rw [hm]
    repeat (first|refine Wa ?_|refine Wb ?_|refine Wc ?_|refine Wd ?_|refine We rfl ?_|refine Wf (by first|exact Va|exact Vb|exact Vi) rfl ?_|refine Wj ?_|refine Ws ?_|refine Wt ?_|refine Wv rfl rfl ?_)
    exact CT.done () rfl (fun w ho => ho.ent)
  repeat (first|refine We rfl ?_|refine Wf (by first|exact Va|exact Vc|exact Vd|exact Vf|exact Vj|exact Vo) rfl ?_)
  refine JO.test 23 (fun h3 => ?_) (fun h3 => ?_)
  · have hm : may c = false := by
      have : 8 < c.parents.length := by omega
      simp [may, this]
    rw [hm]
    repeat (first|refine Wa ?_|refine Wb ?_|refine Wc ?_|refine Wd ?_|refine We rfl ?_|refine Wf (by first|exact Va|exact Vb|exact Vi) rfl ?_|refine Wj ?_|refine Ws ?_|refine Wt ?_|refine Wv rfl rfl ?_)
    exact CT.done () rfl (fun w ho => ho.ent)
  repeat (first|refine We rfl ?_|refine Wf (by first|exact Va|exact Vh|exact Vj) rfl ?_)
  cases hr : rises c.parents with
  | false =>
    have hm : may c = false := by simp [may, hr]
    rw [hm]
    repeat (first|refine Wa ?_|refine Wb ?_|refine Wc ?_|refine Wd ?_|refine We rfl ?_|refine Wf (by first|exact Vb|exact Vi) rfl ?_|refine Wj ?_|refine Ws ?_|refine Wt ?_|refine Wv rfl rfl ?_)
    exact CT.done () rfl (fun w ho => ho.ent)
  | true =>
    repeat (first|refine Wa ?_|refine Wd ?_|refine We rfl ?_|refine Wf (by first|exact Vc|exact Vd|exact Vf|exact Vj|exact Vl|exact VF) rfl ?_)
    refine JC.test (fun h4 => ?_) (fun h4 => ?_)
    · have hm : may c = false := by
        have h4' : (decide (c.gen = 1) != decide (c.parents.length = 0)) = true := by
          have e : decide ((c.parents.length : Int) = 0) = decide (c.parents.length = 0) := decide_eq_decide.2 (by omega)
          rw [e] at h4
          simpa using h4
        rw [may, if_pos]
        rw [h4']
        simp
      rw [hm]
      repeat (first|refine Wa ?_|refine Wb ?_|refine Wc ?_|refine Wd ?_|refine We rfl ?_|refine Wf (by exact Vb) rfl ?_|refine Ws ?_|refine Wt ?_)
      exact CT.done () rfl (fun w ho => ho.ent)
    have hmay : may c = if c.ev.node = -1 then decide (2 ≤ c.parents.length) && decide (c.ev.seq = 0) && decide (c.op = op0) else inB c.ev.node 0 7 && inB c.ev.seq 1 1048576 && opMay c.op := by
      have h4' : (decide (c.gen = 1) != decide (c.parents.length = 0)) = false := by
        have e : decide ((c.parents.length : Int) = 0) = decide (c.parents.length = 0) := decide_eq_decide.2 (by omega)
        rw [e] at h4
        simpa using h4
      have h3' : ¬ 8 < c.parents.length := by omega
      have h1' : (inB c.gen 1 1048576) = true := by simp [inB]; omega
      rw [may, if_neg]
      rw [h4', h1', hr]
      simp [h3']
    rw [hmay]
    repeat (first|refine Wa ?_|refine Wb ?_|refine Wc ?_|refine Wd ?_|refine We rfl ?_|refine Wf (by first|exact Vc|exact Vd|exact Vl) rfl ?_|refine Wl ?_)
    refine JC.test (fun h5 => ?_) (fun h5 => ?_)
    · rw [if_pos h5]
      repeat (first|refine Wb ?_|refine Wc ?_|refine We rfl ?_|refine Wf (by first|exact Va|exact Vc|exact Vd|exact Vl) rfl ?_)
      refine JO.test 45 (fun h6 => ?_) (fun h6 => ?_)
      · repeat (first|refine We rfl ?_|refine Wf (by first|exact Vc|exact Vd) rfl ?_)
        refine Wf (OpV.build [.int .i64 op0.kind, .string op0.key, .string op0.elem, .int .i64 op0.n] (by kernel_rfl)) rfl ?_
        repeat (first|refine We rfl ?_|refine Wf (by first|exact Va|exact Vi|exact VA) rfl ?_)
        refine JO.test 51 (fun h7 => ?_) (fun h7 => ?_)
        · have h7' : c.op = op0 := h7
          have e : decide (2 ≤ (c.parents.length : Int)) = decide (2 ≤ c.parents.length) := decide_eq_decide.2 (by omega)
          rw [h6, h7']
          repeat (first|refine Wa ?_|refine Wd ?_|refine We rfl ?_|refine Wf (by first|exact Vb|exact Vc|exact Vd|exact Vf|exact Vi|exact Vp) rfl ?_|refine Ws ?_|refine Wt ?_)
          exact CT.done () (by simp [packed, e]) (fun w ho => ho.ent)
        · have h7' : ¬ c.op = op0 := h7
          repeat (first|refine Wa ?_|refine Wd ?_|refine We rfl ?_|refine Wf (by first|exact Vb|exact Vj) rfl ?_|refine Ws ?_|refine Wt ?_|refine Wv rfl rfl ?_)
          exact CT.done () (by simp [packed, h7']) (fun w ho => ho.ent)
      · repeat (first|refine Wa ?_|refine Wd ?_|refine We rfl ?_|refine Wf (by first|exact Va|exact Vb|exact Vj) rfl ?_|refine Ws ?_|refine Wt ?_|refine Wv rfl rfl ?_)
        exact CT.done () (by simp [packed, h6]) (fun w ho => ho.ent)
    · rw [if_neg h5]
      repeat (first|refine Wa ?_|refine Wb ?_|refine Wc ?_|refine We rfl ?_|refine Wf (by first|exact Vc|exact Vd) rfl ?_|refine Wl ?_)
      refine JR.callV rfl (fun w1 hw => event_ref w1 _ _ _) ?_
      repeat (first|refine Wa ?_|refine Wb ?_|refine Wc ?_|refine Wd ?_|refine We rfl ?_|refine Wf (by first|exact Vb|exact Vc|exact Vd) rfl ?_)
      refine JR.callV rfl (fun w1 hw => opmay_ref w1 _ c.op ht.1 ht.2) ?_
      cases hev : (inB c.ev.node 0 7 && inB c.ev.seq 1 1048576) with
      | false =>
        repeat (first|refine Wa ?_|refine Wb ?_|refine Wc ?_|refine Wd ?_|refine We rfl ?_|refine Wf (by first|exact Va|exact Vb|exact Vj) rfl ?_|refine Ws ?_|refine Wv rfl rfl ?_)
        exact CT.done () (by simp [packed]) (fun w ho => ho.ent)
      | true =>
        repeat (first|refine Wa ?_|refine Wb ?_|refine Wc ?_|refine Wd ?_|refine We rfl ?_|refine Wf (by first|exact Va|exact Vb|exact Vi) rfl ?_|refine Ws ?_)
        exact CT.done () (by simp [packed]) (fun w ho => ho.ent)
theorem mergecom_ref (w : World) (F : Nat → Prop) (c : Commit) (a : Option Addr) (k : Nat) (h : (sl a k c.parents).holds F w) (ht : texts c) :
    GivesV Tryz.prog 130 [commitV c a k] w F (.bool (merge c)) := by
  refine gives_of Tryz.func130 rfl Tryz.ntmps130 rfl rfl [.st (sl a k c.parents)] (.start1 h) ?_
  repeat (first|refine Wa ?_|refine Wb ?_|refine Wc ?_|refine Wd ?_|refine We rfl ?_|refine Wf (by first|exact Vb|exact Vc) rfl ?_|(refine Wh rfl ?_; intro _))
  refine JR.callV rfl (fun w1 hw => maycom_ref w1 _ c a k hw.get ht) ?_
  cases hm : may c with
  | false =>
    repeat (first|refine Wa ?_|refine Wb ?_|refine Wc ?_|refine Wd ?_|refine We rfl ?_|refine Wf (by first|exact Va|exact Vb|exact Vj) rfl ?_|refine Ws ?_|refine Wv rfl rfl ?_)
    exact CT.done () (by simp [packed, merge, hm]) (fun w ho => ho.ent)
  | true =>
    repeat (first|refine Wa ?_|refine Wb ?_|refine Wc ?_|refine Wd ?_|refine We rfl ?_|refine Wf (by first|exact Va|exact Vb|exact Vc|exact Vd|exact Vi|exact Vl) rfl ?_|refine Ws ?_)
    exact CT.done () (by simp [packed, merge, hm]) (fun w ho => ho.ent)
end Ab
end Go.Proofs.YtdgeffphifgflaaGreat
