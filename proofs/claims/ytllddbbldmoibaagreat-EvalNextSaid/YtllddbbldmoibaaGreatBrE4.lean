/- Lemmas for the walks, part 4 of 6: Dag, WalkW, WalkX, DagC, More12, WalkB2, DagA, DagB, DagE, Sort2, Lays3, DagD, DagF, DagG, DagH, WalkY, WalkZ, DagI, DagJ, Few, LawS, LawW, DagK, LawK, LawN, FrP, FrQ, EvP, SortP, EqS, Cnt, StoB, Lent, RegD, Bound, RegE, Lays4, PairA, PairB. -/
import Derived.Test.YtllddbbldmoibaaGreatBrE3
import Derived.Test.YtllddbbldmoibaaGreatBrE2
import Derived.Shelf.SlSortCmp.NoneTotal
import Derived.Test.YtllddbbldmoibaaGreatChecked
import Derived.KernelRfl
import Derived.Test.YtllddbbldmoibaaGreatBrE1
namespace Go.Proofs.YtllddbbldmoibaaGreat
namespace Ab
open Go Go.RowKit Tryz
set_option linter.unusedVariables false
set_option linter.unusedSimpArgs false
set_option linter.unusedSectionVars false
set_option synthInstance.maxSize 4000
set_option synthInstance.maxHeartbeats 400000
set_option maxHeartbeats 16000000
variable (w:World) (F:Nat→Prop)
section
attribute [local irreducible] JC JO JR JQ andThen inBlock OpV Gives Xae JM JS
def idC (c:Commit):ID:=(Xat c).1
def cids (L:List Commit):List ID:=L.map idC
def par (L:List Commit) (x y:ID):Prop:=∃ c∈L,idC c=x∧y∈c.parents∧y∈cids L
def Xb0 (L:List Commit) (x y:ID):Prop:=Relation.TransGen (par L) x y
def Xbs (L:List Commit) (p:ID):Int:=match L.find? (fun c=>decide (idC c=p)) with | some c=>c.gen | none=>0
def Xce (L:List Commit) (ps:List ID):Int:=ps.foldl (fun g p=>max g (Xbs L p)) 0
structure Fine (L:List Commit) (c:Commit):Prop where
 merge:merge c=false
 here:∀ p∈c.parents,p∈cids L
 free:∀ p∈c.parents,∀ q∈c.parents,¬ Xb0 L p q
 gen:c.gen=Xce L c.parents+1
def evOk (L:List Commit) (c d:Commit):Prop:=idC c≠idC d→c.ev.node=d.ev.node→c.ev.seq≠d.ev.seq∧(d.ev.seq < c.ev.seq→Xb0 L (idC c) (idC d))
structure Closed (L:List Commit):Prop where
 may:∀ c∈L,may c=true
 nodup:(cids L).Nodup
 fine:∀ c∈L,Fine L c
 ev:∀ c∈L,∀ d∈L,evOk L c d
theorem Xas {L:List Commit} {x:ID}:x∈cids L↔∃ c∈L,idC c=x:=by simp [cids]
theorem Xec {L M:List Commit} (h:L.Perm M):(cids L).Perm (cids M):=h.map _
theorem Xyv {L M:List Commit} (h:L.Perm M) (x y:ID):par L x y↔par M x y:=by
 unfold par
 constructor
 ·rintro ⟨c,h1,h2,h3,h4⟩; exact ⟨c,h.mem_iff.1 h1,h2,h3,(Xec h).mem_iff.1 h4⟩
 ·rintro ⟨c,h1,h2,h3,h4⟩; exact ⟨c,h.mem_iff.2 h1,h2,h3,(Xec h).mem_iff.2 h4⟩
theorem Xqt {L M:List Commit} (h:L.Perm M):par L=par M:=by
 funext x y; exact propext (Xyv h x y)
theorem Xmd {L M:List Commit} (h:L.Perm M):Xb0 L=Xb0 M:=by unfold Xb0; rw [Xqt h]
theorem Xo5 {L:List Commit} (h:(cids L).Nodup) {c d:Commit} (hc:c∈L) (hd:d∈L) (e:idC c=idC d):c=d:=by
 induction L with
 | nil=>cases hc
 | cons a L ih =>
  simp only [cids,List.map_cons,List.nodup_cons,List.mem_map,not_exists,not_and] at h
  rcases List.mem_cons.1 hc with e1 | hc'
  ·rcases List.mem_cons.1 hd with e2 | hd'
   ·rw [e1,e2]
   ·exact (h.1 d hd' (by rw [← e1,e])).elim
  ·rcases List.mem_cons.1 hd with e2 | hd'
   ·exact (h.1 c hc' (by rw [← e2,e])).elim
   ·exact ih h.2 hc' hd'
theorem Xb5 {L:List Commit} (h:(cids L).Nodup) {c:Commit} (hc:c∈L):Xbs L (idC c)=c.gen:=by
 unfold Xbs
 cases hf:L.find? (fun d=>decide (idC d=idC c)) with
 | none=>exact absurd (List.find?_eq_none.1 hf c hc) (by simp)
 | some d =>
  have h1:=List.find?_some hf
  have h2:=List.mem_of_find?_eq_some hf
  rw [Xo5 h h2 hc (by simpa using h1)]
theorem Xme {L:List Commit} {p:ID} (h:p∉cids L):Xbs L p=0:=by
 unfold Xbs
 cases hf:L.find? (fun d=>decide (idC d=p)) with
 | none=>rfl
 | some d =>
  have h1:=List.find?_some hf
  exact (h (Xas.2 ⟨d,List.mem_of_find?_eq_some hf,by simpa using h1⟩)).elim
theorem Xtm {L M:List Commit} (h:L.Perm M) (hn:(cids L).Nodup) (p:ID):Xbs L p=Xbs M p:=by
 by_cases hp:p∈cids L
 ·obtain ⟨c,hc,rfl⟩:=Xas.1 hp
  rw [Xb5 hn hc,Xb5 ((Xec h).nodup_iff.1 hn) (h.mem_iff.1 hc)]
 ·rw [Xme hp,Xme (fun hq=>hp ((Xec h).mem_iff.2 hq))]
theorem Xo6 (f:ID→Int) (ps:List ID):∀ g:Int,g≤ps.foldl (fun g p=>max g (f p)) g:=by
 induction ps with
 | nil=>intro g; exact Int.le_refl _
 | cons p ps ih=>intro g; exact Int.le_trans (Int.le_max_left _ _) (ih _)
theorem Xnn (f:ID→Int) (ps:List ID):∀ (g:Int),∀ p∈ps,f p≤ps.foldl (fun g p=>max g (f p)) g:=by
 induction ps with
 | nil=>intro g p hp; cases hp
 | cons q ps ih =>
  intro g p hp
  rcases List.mem_cons.1 hp with rfl | hp
  ·exact Int.le_trans (Int.le_max_right _ _) (Xo6 f ps _)
  ·exact ih _ p hp
theorem Xkw (f g:ID→Int) (ps:List ID) (h:∀ p∈ps,f p=g p):∀ a:Int,ps.foldl (fun g p=>max g (f p)) a=ps.foldl (fun a p=>max a (g p)) a:=by
 induction ps with
 | nil=>intro a; rfl
 | cons q ps ih =>
  intro a
  simp only [List.foldl_cons]
  rw [h q (by simp)]
  exact ih (fun p hp=>h p (by simp [hp])) _
theorem Xmf (L:List Commit) (ps:List ID) (p:ID) (h:p∈ps):Xbs L p≤Xce L ps:=Xnn _ _ _ p h
theorem Xdk {L M:List Commit} {ps:List ID} (h:∀ p∈ps,Xbs L p=Xbs M p):Xce L ps=Xce M ps:=Xkw _ _ _ h _
theorem Closed.perm {L M:List Commit} (h:L.Perm M) (hc:Closed L):Closed M:=by
 have hk:=Xmd h
 refine ⟨fun c hm=>hc.may c (h.mem_iff.2 hm),(Xec h).nodup_iff.1 hc.nodup,fun c hm=>?_,fun c hm d hd=>?_⟩
 ·have hf:=hc.fine c (h.mem_iff.2 hm)
  refine ⟨hf.merge,fun p hp=>(Xec h).mem_iff.1 (hf.here p hp),?_,?_⟩
  ·rw [← hk]; exact hf.free
  ·rw [hf.gen,Xdk fun p _=>Xtm h hc.nodup p]
 ·have:=hc.ev c (h.mem_iff.2 hm) d (h.mem_iff.2 hd)
  unfold evOk at *
  rw [← hk]; exact this
theorem Closed.par_gen {L:List Commit} (h:Closed L) {x y:ID} (hp:par L x y):Xbs L y < Xbs L x:=by
 obtain ⟨c,h1,rfl,h3,_⟩:=hp
 rw [Xb5 h.nodup h1,(h.fine c h1).gen]
 have:=Xmf L c.parents y h3
 omega
theorem Closed.knows_gen {L:List Commit} (h:Closed L) {x y:ID} (hp:Xb0 L x y):Xbs L y < Xbs L x:=by
 induction hp with
 | single h1=>exact h.par_gen h1
 | tail _ h1 ih=>exact Int.lt_trans (h.par_gen h1) ih
theorem Closed.irrefl {L:List Commit} (h:Closed L) (x:ID):¬ Xb0 L x x:=fun hk=>Int.lt_irrefl _ (h.knows_gen hk)
theorem Xfw {L:List Commit} {x y:ID} (h:Xb0 L x y):x∈cids L∧y∈cids L:=by
 have hp:∀ {x y},par L x y→x∈cids L∧y∈cids L:=fun ⟨c,h1,h2,_,h4⟩=>⟨Xas.2 ⟨c,h1,h2⟩,h4⟩
 induction h with
 | single h1=>exact hp h1
 | tail _ h1 ih=>exact ⟨ih.1,(hp h1).2⟩
theorem Xqu {L:List Commit} {x y z:ID} (h:Xb0 L x y) (k:Xb0 L y z):Xb0 L x z:=Relation.TransGen.trans h k
theorem Xv6 {L:List Commit} (hn:(cids L).Nodup) {c:Commit} (hc:c∈L) (hh:∀ p∈c.parents,p∈cids L) (y:ID) :
  Xb0 L (idC c) y↔∃ p∈c.parents,y=p∨Xb0 L p y:=by
 constructor
 ·intro h
  have key:∀ {x y},Relation.TransGen (par L) x y→∃ z,par L x z∧(y=z∨Relation.TransGen (par L) z y):=by
   intro x y h
   induction h with
   | single h1=>exact ⟨_,h1, .inl rfl⟩
   | tail _ h1 ih =>
    obtain ⟨z,h2,h3⟩:=ih
    refine ⟨z,h2, .inr ?_⟩
    rcases h3 with rfl | h3
    ·exact .single h1
    ·exact .tail h3 h1
  obtain ⟨z,⟨d,h1,h2,h3,_⟩,h4⟩:=key h
  have:d=c:=Xo5 hn h1 hc h2
  subst this
  exact ⟨z,h3,h4⟩
 ·rintro ⟨p,hp,h⟩
  have h1:par L (idC c) p:=⟨c,hc,rfl,hp,hh p hp⟩
  rcases h with rfl | h
  ·exact .single h1
  ·exact Relation.TransGen.trans (.single h1) h
theorem Xey {L M:List Commit} (hs:∀ c∈M,c∈L) (hn:(cids L).Nodup) (hh:∀ c∈M,∀ p∈c.parents,p∈cids M) {x:ID} (hx:x∈cids M) (y:ID) :
  Xb0 M x y↔Xb0 L x y:=by
 have hi:∀ z,z∈cids M→z∈cids L:=fun z hz=>by
  obtain ⟨c,hc,rfl⟩:=Xas.1 hz; exact Xas.2 ⟨c,hs c hc,rfl⟩
 constructor
 ·intro h
  refine Relation.TransGen.rec (motive:=fun y _=>Xb0 L x y) ?_ ?_ h
  ·rintro y ⟨c,h1,h2,h3,h4⟩; exact .single ⟨c,hs c h1,h2,h3,hi _ h4⟩
  ·rintro y z _ ⟨c,h1,h2,h3,h4⟩ ih; exact .tail ih ⟨c,hs c h1,h2,h3,hi _ h4⟩
 ·intro h
  have step:∀ {x y},x∈cids M→par L x y→par M x y∧y∈cids M:=by
   rintro x y hx ⟨c,h1,h2,h3,_⟩
   obtain ⟨d,hd,he⟩:=Xas.1 hx
   have:d=c:=Xo5 hn (hs d hd) h1 (he.trans h2.symm)
   subst this
   exact ⟨⟨d,hd,he,h3,hh d hd y h3⟩,hh d hd y h3⟩
  have:Xb0 M x y∧y∈cids M:=by
   refine Relation.TransGen.rec (motive:=fun y _=>Xb0 M x y∧y∈cids M) ?_ ?_ h
   ·intro y h1; exact ⟨.single (step hx h1).1,(step hx h1).2⟩
   ·intro y z _ h1 ih; exact ⟨.tail ih.1 (step ih.2 h1).1,(step ih.2 h1).2⟩
  exact this.1
theorem Xkx {L M:List Commit} (hs:∀ c∈M,c∈L) (hn:(cids L).Nodup) (hm:(cids M).Nodup) {x:ID} (hx:x∈cids M):Xbs M x=Xbs L x:=by
 obtain ⟨c,hc,rfl⟩:=Xas.1 hx
 rw [Xb5 hm hc,Xb5 hn (hs c hc)]
theorem Xo7 {L M:List Commit} (hn:(cids L).Nodup) (hs:M.Sublist L):(cids M).Nodup:=hn.sublist (hs.map _)
theorem Closed.sub {L M:List Commit} (h:Closed L) (hs:∀ c∈M,c∈L) (hm:(cids M).Nodup) (hh:∀ c∈M,∀ p∈c.parents,p∈cids M):Closed M:=by
 refine ⟨fun c hc=>h.may c (hs c hc),hm,fun c hc=>?_,fun c hc d hd=>?_⟩
 ·have hf:=h.fine c (hs c hc)
  refine ⟨hf.merge,hh c hc,fun p hp q hq hk=>hf.free p hp q hq ((Xey hs h.nodup hh (hh c hc p hp) q).1 hk),?_⟩
  rw [hf.gen,Xdk fun p hp=>(Xkx hs h.nodup hm (hh c hc p hp))]
 ·have:=h.ev c (hs c hc) d (hs d hd)
  intro h1 h2
  obtain ⟨h3,h4⟩:=this h1 h2
  exact ⟨h3,fun h5=>(Xey hs h.nodup hh (Xas.2 ⟨c,hc,rfl⟩) _).2 (h4 h5)⟩
def Xao (G:List (Commit × List ID)):List Commit:=G.map (·.1)
def Xdr (G:List (Commit × List ID)) (q:ID):List ID:=match G.find? (fun g=>decide (idC g.1=q)) with | some g=>g.2 | none=>[]
def Xno (G:List (Commit × List ID)) (c:Commit):Bool:=c.parents.all (fun p=>decide (p∈cids (Xao G))) && c.parents.all (fun p=>c.parents.all fun q=>decide (p∉Xdr G q))
def Xrz (G:List (Commit × List ID)) (c:Commit):Bool:=decide (c.gen=Xce (Xao G) c.parents+1)
def Xqv (G:List (Commit × List ID)) (c:Commit) (S:List ID):Prop:=∀ x,x∈S↔∃ p∈c.parents,x=p∨x∈Xdr G p
inductive Built:List (Commit × List ID)→Prop
 | nil:Built []
 | snoc {G:List (Commit × List ID)} {c:Commit} {S:List ID}:Built G→idC c∉cids (Xao G)→merge c=false→Xno G c=true→Xrz G c=true→Xqv G c S→Built (G++[(c,S)])
theorem Xcz (G:List (Commit × List ID)) (c:Commit) (S:List ID):Xao (G++[(c,S)])=Xao G++[c]:=by simp [Xao]
theorem Xky (L M:List Commit):cids (L++M)=cids L++cids M:=by simp [cids]
theorem Xhi (L:List Commit) (c:Commit):cids (L++[c])=cids L++[idC c]:=by simp [cids]
theorem Xh8 {G:List (Commit × List ID)} (h:(cids (Xao G)).Nodup) {g:Commit × List ID} (hg:g∈G):Xdr G (idC g.1)=g.2:=by
 unfold Xdr
 cases hf:G.find? (fun d=>decide (idC d.1=idC g.1)) with
 | none=>exact absurd (List.find?_eq_none.1 hf g hg) (by simp)
 | some d =>
  have h1:=List.find?_some hf
  have h2:=List.mem_of_find?_eq_some hf
  have h3:idC d.1=idC g.1:=by simpa using h1
  have:d=g:=by
   clear hf h1
   induction G with
   | nil=>cases hg
   | cons a G ih =>
    simp only [Xao,cids,List.map_cons,List.nodup_cons,List.mem_map,not_exists,not_and] at h
    rcases List.mem_cons.1 h2 with e1 | h2'
    ·rcases List.mem_cons.1 hg with e2 | hg'
     ·rw [e1,e2]
     ·exact (h.1 g.1 ⟨g,hg',rfl⟩ (by rw [← e1,h3])).elim
    ·rcases List.mem_cons.1 hg with e2 | hg'
     ·exact (h.1 d.1 ⟨d,h2',rfl⟩ (by rw [← e2,h3])).elim
     ·exact ih h.2 hg' h2'
  rw [this]
theorem Xo8 {G:List (Commit × List ID)} {c:Commit} {S:List ID} {q:ID} (h:q∈cids (Xao G)):Xdr (G++[(c,S)]) q=Xdr G q:=by
 obtain ⟨c',hc',he⟩:=Xas.1 h
 obtain ⟨g,hg,rfl⟩:=List.mem_map.1 hc'
 unfold Xdr
 rw [List.find?_append]
 cases hf:G.find? (fun d=>decide (idC d.1=q)) with
 | none=>exact absurd (List.find?_eq_none.1 hf g hg) (by simpa using he)
 | some d=>rfl
theorem Xfx (G:List (Commit × List ID)) (c:Commit):Xno G c=true↔(∀ p∈c.parents,p∈cids (Xao G))∧∀ p∈c.parents,∀ q∈c.parents,p∉Xdr G q:=by
 simp only [Xno,Bool.and_eq_true,List.all_eq_true,decide_eq_true_eq]
structure BuiltR (G:List (Commit × List ID)):Prop where
 nodup:(cids (Xao G)).Nodup
 here:∀ c∈Xao G,∀ p∈c.parents,p∈cids (Xao G)
 known:∀ q∈cids (Xao G),∀ x,x∈Xdr G q↔Xb0 (Xao G) q x
 fine:∀ c∈Xao G,Fine (Xao G) c
theorem Built.right {G:List (Commit × List ID)} (h:Built G):BuiltR G:=by
 induction h with
 | nil=>exact ⟨by simp [Xao,cids],by simp [Xao],by simp [Xao,cids],by simp [Xao]⟩
 | snoc h1 h2 h3 h4 h5 h6 ih =>
  rename_i G c S
  have hn:(cids (Xao (G++[(c,S)]))).Nodup:=by
   rw [Xcz,Xhi]
   exact List.nodup_append.2 ⟨ih.nodup,by simp,fun a ha b hb=>by simp at hb; subst hb; exact fun e=>h2 (e ▸ ha)⟩
  obtain ⟨h7,h8⟩:=(Xfx G c).1 h4
  have hs:∀ d∈Xao G,d∈Xao (G++[(c,S)]):=fun d hd=>by rw [Xcz]; exact List.mem_append_left _ hd
  have hi:∀ x∈cids (Xao G),x∈cids (Xao (G++[(c,S)])):=fun x hx=>by rw [Xcz,Xky]; exact List.mem_append_left _ hx
  have hc:c∈Xao (G++[(c,S)]):=by rw [Xcz]; simp
  have hsub:∀ {x},x∈cids (Xao G)→∀ y,Xb0 (Xao G) x y↔Xb0 (Xao (G++[(c,S)])) x y:=fun hx y=>Xey hs hn ih.here hx y
  have hgen:∀ x∈cids (Xao G),Xbs (Xao G) x=Xbs (Xao (G++[(c,S)])) x:=fun x hx=>Xkx hs hn ih.nodup hx
  have hcc:∀ x,x∈S↔Xb0 (Xao (G++[(c,S)])) (idC c) x:=by
   intro x
   rw [h6 x,Xv6 hn hc (fun p hp=>hi p (h7 p hp))]
   constructor
   ·rintro ⟨p,hp,h9⟩
    exact ⟨p,hp,h9.imp id fun h9=>(hsub (h7 p hp) x).1 ((ih.known p (h7 p hp) x).1 h9)⟩
   ·rintro ⟨p,hp,h9⟩
    exact ⟨p,hp,h9.imp id fun h9=>(ih.known p (h7 p hp) x).2 ((hsub (h7 p hp) x).2 h9)⟩
  refine ⟨hn,fun d hd p hp=>?_,fun q hq x=>?_,fun d hd=>?_⟩
  ·rw [Xcz] at hd
   rcases List.mem_append.1 hd with hd | hd
   ·exact hi p (ih.here d hd p hp)
   ·simp at hd; subst hd; exact hi p (h7 p hp)
  ·by_cases hq':q∈cids (Xao G)
   ·rw [Xo8 hq',ih.known q hq',hsub hq']
   ·have:q=idC c:=by
     rw [Xcz,Xhi] at hq
     rcases List.mem_append.1 hq with hq | hq
     ·exact (hq' hq).elim
     ·simpa using hq
    subst this
    rw [Xh8 hn (g:=(c,S)) (by simp)]
    exact hcc x
  ·rw [Xcz] at hd
   rcases List.mem_append.1 hd with hd | hd
   ·have hf:=ih.fine d hd
    refine ⟨hf.merge,fun p hp=>hi p (hf.here p hp),fun p hp q hq hk=>hf.free p hp q hq ((hsub (hf.here p hp) q).2 hk),?_⟩
    rw [hf.gen,Xdk fun p hp=>hgen p (hf.here p hp)]
   ·simp at hd; subst hd
    refine ⟨h3,fun p hp=>hi p (h7 p hp),fun p hp q hq hk=>h8 q hq p hp ((ih.known p (h7 p hp) q).2 ((hsub (h7 p hp) q).2 hk)),?_⟩
    have:=of_decide_eq_true h5
    rw [this,Xdk fun p hp=>hgen p (h7 p hp)]
theorem Built.closed {G:List (Commit × List ID)} (h:Built G) (hm:∀ c∈Xao G,may c=true) (he:∀ c∈Xao G,∀ d∈Xao G,evOk (Xao G) c d):Closed (Xao G) :=
 ⟨hm,h.right.nodup,h.right.fine,he⟩
theorem Closed.step {Lo:List Commit} (h:Closed Lo) (hs:Lo.Pairwise (fun c d=>c.gen≤d.gen)) {G:List (Commit × List ID)} (hb:Built G) {k:Nat} (hk:k < Lo.length) (hG:Xao G=Lo.take k) :
  idC Lo[k]∉cids (Xao G)∧merge Lo[k]=false∧Xno G Lo[k]=true∧Xrz G Lo[k]=true:=by
 have hm:=List.getElem_mem hk
 have hf:=h.fine _ hm
 have hr:=hb.right
 have hsub:∀ c∈Xao G,c∈Lo:=fun c hc=>by rw [hG] at hc; exact List.mem_of_mem_take hc
 have hpar:∀ p∈Lo[k].parents,p∈cids (Xao G):=by
  intro p hp
  obtain ⟨d,hd,rfl⟩:=Xas.1 (hf.here p hp)
  have hlt:d.gen < Lo[k].gen:=by
   have:=h.par_gen (x:=idC Lo[k]) (y:=idC d) ⟨_,hm,rfl,hp,hf.here _ hp⟩
   rwa [Xb5 h.nodup hd,Xb5 h.nodup hm] at this
  obtain ⟨j,hj,rfl⟩:=List.getElem_of_mem hd
  have hjk:j < k:=by
   apply Classical.byContradiction
   intro hge
   by_cases he:j=k
   ·subst he; omega
   ·have:=List.pairwise_iff_getElem.1 hs k j hk hj (by omega)
    omega
  rw [hG]
  refine Xas.2 ⟨Lo[j],?_,rfl⟩
  rw [List.mem_take_iff_getElem]
  exact ⟨j,by omega,rfl⟩
 refine ⟨?_,hf.merge,(Xfx G _).2 ⟨hpar,fun p hp q hq hk'=>?_⟩,?_⟩
 ·intro hc
  obtain ⟨d,hd,he⟩:=Xas.1 hc
  rw [hG,List.mem_take_iff_getElem] at hd
  obtain ⟨j,hj,rfl⟩:=hd
  have h1:=List.pairwise_iff_getElem.1 (show (cids Lo).Pairwise _ from h.nodup) j k (by simp [cids]; omega) (by simpa [cids] using hk) (by omega)
  simp [cids] at h1
  exact h1 he
 ·exact hf.free q hq p hp ((Xey hsub h.nodup hr.here (hpar q hq) p).1 ((hr.known q (hpar q hq) p).1 hk'))
 ·refine decide_eq_true ?_
  rw [hf.gen,Xdk fun p hp=>(Xkx hsub h.nodup hr.nodup (hpar p hp)).symm]
def X1a (L:List Commit) (i j:Nat):Prop:=∃ h:i < L.length,∃ p∈L[i].parents,(cids L).findIdx? (fun x=>decide (x=p))=some j
def Xr0 (L:List Commit) (i j:Nat):Prop:=Relation.TransGen (X1a L) i j
theorem Xcu (L:List Commit):(cids L).length=L.length:=by simp [cids]
theorem Xjh (L:List Commit) (i:Nat) (h:i < (cids L).length):(cids L)[i]=idC (L[i]'(by simpa [cids] using h)):=by simp [cids]
def oneI (L:List Commit) (i:Nat):Prop:=∃ h:i < L.length,(∀ p∈L[i].parents,p∈cids L) ∧
 (∀ a b,X1a L i a→X1a L i b→¬ Xr0 L a b)∧L[i].gen=Xce L L[i].parents+1
def evI (L:List Commit) (i j:Nat):Prop:=∃ hi:i < L.length,∃ hj:j < L.length,L[i].ev.node=L[j].ev.node →
 L[i].ev.seq≠L[j].ev.seq∧(L[j].ev.seq < L[i].ev.seq→Xr0 L i j)∧(L[i].ev.seq < L[j].ev.seq→Xr0 L j i)
def fewC (c:Commit):Bool:=decide (c.parents.length≤20) && decide (c.op.key.size≤100) && decide (c.op.elem.size≤100)
theorem X1b (c:Commit) (a:Option Addr) (k:Nat):GivesV prog 38 [Xbk c a k] w F (.bool (fewC c)):=by
 refine Xaa func38 rfl ntmps38 rfl rfl [] (.start w F) ?_
 (repeat (refine wE ?_; intro _)); refine wA ?_
 refine JO.test 7 (fun h1=>?_) (fun h1=>?_)
 ·refine wA ?_
  refine JO.test 14 (fun h2=>?_) (fun h2=>?_)
  ·refine wA ?_
   refine Xab () ?_
   have h1:c.parents.length≤20:=by omega
   have h2:c.op.key.size≤100:=by omega
   have h3:((c.op.elem.size:Int)≤100)↔c.op.elem.size≤100:=by omega
   simp [Xaf,fewC,h1,h2,h3]
  ·refine wz8 ?_
   refine Xab () ?_
   have h2:¬ c.op.key.size≤100:=by omega
   simp [Xaf,fewC,h2]
 ·refine wz8 ?_
  refine Xab () ?_
  have h1:¬ c.parents.length≤20:=by omega
  simp [Xaf,fewC,h1]
def fewL (L:List Commit) (m:Nat):Bool:=decide (L.length≤m) && L.all fewC
theorem X1c (a:Option Addr) (c:Nat) (L:List Commit) (m:Nat) (h:(sl a c L).holds F w) :
  GivesV prog 12 [.slice a L.length c, .int .i64 (m:Int)] w F (.bool (fewL L m)):=by
 have hL:L.length < 9223372036854775807:=by have:=h.2.2.1; simp only [lim] at this; omega
 refine Xaa func12 rfl ntmps12 rfl rfl [.st (sl a c L)] (.start1 h) ?_
 refine wz5 ?_
 refine JC.test (fun h1=>?_) (fun h1=>?_)
 ·refine wz9 ?_
  refine Xab () ?_
  have h1:¬ L.length≤m:=by omega
  simp [Xaf,fewL,h1]
 ·have h1:L.length≤m:=by omega
  refine wz7 ?_
  refine Xaj (fun k0:Nat=>[(0, .slice a L.length c),(5, .int .i64 (k0:Int))]) (fun _=>[.st (sl a c L)])
   (fun k0=>k0≤L.length∧(L.take k0).all fewC=true) (fun k0=>L.length - k0) 0 ⟨Nat.zero_le _,rfl⟩ iI ?_
  intro k0 ⟨hk,heq⟩
  refine wz11 ?_
  refine JC.test (fun hlt=>?_) (fun hge=>?_)
  ·have hlt':k0 < L.length:=by omega
   refine wz14 ?_
   refine Xb6 rfl hlt' ?_
   intro b1 o1 p1 q1
   refine wz6 ?_
   refine JR.callV rfl (fun w1 hw=>X1b w1 _ L[k0] p1 q1) ?_
   refine wz7 ?_
   refine JC.test (fun hne=>?_) (fun heq2=>?_)
   ·refine wz5 ?_
    refine Xab () ?_
    have h3:L.all fewC=false:=by
     rw [← Bool.not_eq_true]
     intro h4
     exact hne (List.all_eq_true.1 h4 _ (List.getElem_mem hlt'))
    simp only [Xaf,fewL,h3,Bool.and_false]
   ·refine wz2 ?_
    refine ⟨k0+1,⟨by omega,?_⟩,by omega,iI⟩
    have heq2:fewC L[k0]=true:=by simpa using heq2
    rw [List.take_succ_eq_append_getElem hlt',List.all_append,heq]
    simp [heq2]
  ·have hk0:k0=L.length:=by omega
   subst hk0
   rw [List.take_length] at heq
   refine wz3 ?_
   refine Xab () ?_
   simp only [Xaf,fewL,heq,h1,decide_true,Bool.and_self]
section
attribute [local irreducible] Xat
theorem Xnp (c:Commit):((Xat c).2=0)↔may c=true:=by
 unfold Xat; cases may c <;> simp
def idsP (L:List Commit):List ID:=if L.all may then cids L else []
theorem Xji {L:List Commit} (h:∀ c∈L,may c=true):idsP L=cids L:=by
 rw [idsP,if_pos (List.all_eq_true.2 h)]
theorem Xr1 {L:List Commit} {c:Commit} (hc:c∈L) (h:may c=false):idsP L=[]:=by
 rw [idsP,if_neg]
 intro h'
 have:=List.all_eq_true.1 h' c hc
 rw [h] at this; cases this
theorem Xlq {L:List Commit} {i:Nat} (h:i < L.length):cids (L.take (i+1))=cids (L.take i)++[idC L[i]]:=by
 rw [List.take_succ_eq_append_getElem h,Xky]; rfl
theorem Xv7 (a:Option Addr) (k:Nat) (L:List Commit) (h:(sl a k L).holds F w) (hl:L.length < 34359738368) (hf:∀ x∈L,fine x) :
  Xcp prog 34 [.slice a L.length k] w F (idsP L):=by
 refine Xaa func34 rfl ntmps34 rfl rfl [.st (sl a k L)] (.start1 h) ?_
 refine wz4 ?_
 refine JC.buf_nil (α:=ID) 72 ?_
 refine Xcg (fun (i:Nat) p q=>[(3, .slice p (cids (L.take i)).length q),(8, .slice a L.length k),(9, .int .i64 (L.length:Int)),(10, .int .i64 (i:Int))])
  (fun i p q=>[.res (buf p q 72 (cids (L.take i))), .st (sl a k L)])
  (fun i _ _=>i≤L.length∧∀ c∈L.take i,may c=true) (fun i _ _=>L.length - i) 0 none 0 ⟨Nat.zero_le _,by simp⟩ (by rw [List.take_zero,show cids []=[] from rfl]; infer_instance) ?_
 intro i p q ⟨hi,hm⟩
 refine wz11 ?_
 refine JC.test (fun hlt=>?_) (fun hge=>?_)
 ·have hlt':i < L.length:=by omega
  have hfx:=hf _ (List.getElem_mem hlt')
  refine wz14 ?_
  refine Xb6 rfl hlt' ?_
  intro b1 o1 p1 q1
  (repeat (refine wE ?_; intro _)); refine wA ?_
  refine JR.callV rfl (fun w1 hw=>Xgv w1 _ (L[i]) p1 q1 hw.get hfx.1) ?_
  (repeat (refine wE ?_; intro _)); refine wA ?_
  refine JC.test (fun h0=>?_) (fun h0=>?_)
  ·have hmay:may L[i]=false:=by
    rw [← Bool.not_eq_true,← Xnp]; exact h0
   refine wz5 ?_
   rw [Xr1 (List.getElem_mem hlt') hmay]
   exact CT.done (none,0) rfl (fun w ho=>(ho.ent:Hold _ _ [.st (sl a k L)] w).tail.add Xau)
  ·have hmay:may L[i]=true:=(Xnp _).1 (by simpa using h0)
   have h1:(cids (L.take i)).length≤i:=by simp [cids]; omega
   (repeat (refine wE ?_; intro _)); refine wA ?_
   refine Xap (u:=idC L[i]) rfl (by exact ⟨rfl,rfl,by decide⟩) (by omega) ?_
   intro r s
   refine wz2 ?_
   refine ⟨i+1,r,s,⟨by omega,fun c hc=>?_⟩,by omega,by rw [Xlq hlt']; infer_instance⟩
   rw [List.take_succ_eq_append_getElem hlt',List.mem_append,List.mem_singleton] at hc
   rcases hc with hc | rfl
   ·exact hm c hc
   ·exact hmay
 ·obtain rfl:i=L.length:=by omega
  rw [List.take_length] at hm ⊢
  refine JC.more (fun w1 ho=>ho.pub) ?_
  refine wz3 ?_
  rw [Xji hm]
  exact CT.done (p,q) rfl (fun w ho=>(ho.ent:Hold _ _ [.st (sl p q (cids L))] w))
theorem Xv8 (c:Commit) (a:Option Addr) (k:Nat) (h:(sl a k c.parents).holds F w) (hp:c.parents.length≤34359738368) :
  Gives prog 65 [Xbk c a k] w F (fun y:Option Addr × Nat=>Xbk c y.1 y.2) (fun y=>[.st (sl y.1 y.2 c.parents)]):=by
 refine Xaa func65 rfl ntmps65 rfl rfl [.st (sl a k c.parents)] (.start1 h) ?_
 (repeat (refine wE ?_; intro _)); refine wA ?_
 refine JR.callBuf rfl (fun w1 hw=>Xm2 w1 _ a k c.parents hw.get hp) ?_
 intro p q
 refine JO.more (fun w1 ho=>ho.pub) ?_
 refine wz9 ?_
 exact Xab (p,q) rfl
def Xo9 (L:List Commit) (x:ID):Option Commit:=L.find? (fun c=>decide (Xlp c=some x))
def Xcf (L:List Commit) (x:ID):Commit × Bool:=match Xo9 L x with | some c=>(c,true) | none=>(commit0,false)
theorem Xkz (c:Commit) (x:ID):decide (Xlp c=some x)=(decide ((Xat c).2=0) && decide (x=(Xat c).1)):=by
 unfold Xlp
 by_cases h0:(Xat c).2=0
 ·simp only [h0,if_true,Option.some.injEq,decide_true,Bool.true_and]
  exact decide_eq_decide.2 ⟨Eq.symm,Eq.symm⟩
 ·simp [h0]
theorem Xyw (a:Option Addr) (k:Nat) (L:List Commit) (x:ID) (h:(sl a k L).holds F w) (hf:∀ c∈L,fine c) :
  Gives prog 159 [.slice a L.length k, .agg ⟨idc x⟩] w F (fun y:Option Addr × Nat=>.tuple ⟨[Xbk (Xcf L x).1 y.1 y.2, .bool (Xcf L x).2]⟩) (fun y=>[.st (sl y.1 y.2 (Xcf L x).1.parents)]):=by
 have hL:L.length < 9223372036854775807:=by have:=h.2.2.1; simp only [lim] at this; omega
 refine Xaa func159 rfl ntmps159 rfl rfl [.st (sl a k L)] (.start1 h) ?_
 (repeat (refine wE ?_; intro _)); refine wA ?_
 rename_i bx bc
 refine Xaj (fun (i:Nat)=>[(3, .pointer (some ⟨bx,0,none⟩)),(4, .pointer (some ⟨bc,0,none⟩)),(5, .bool false),(10, .slice a L.length k),(11, .int .i64 (L.length:Int)),(12, .int .i64 (i:Int))])
  (fun i=>[.st (sl a k L), .own bx 72 (idc x), .own bc 31 [.int .i64 0, .int .i64 0, .int .i64 0, .slice none 0 0, .int .i64 0, .string .empty, .string .empty, .int .i64 0]])
  (fun i=>i≤L.length∧∀ c∈L.take i,decide (Xlp c=some x)=false) (fun i=>L.length - i) 0 ⟨Nat.zero_le _,by simp⟩ iI ?_
 intro i ⟨hi,hno⟩
 refine wz11 ?_
 refine JC.test (fun hlt=>?_) (fun hge=>?_)
 ·have hlt':i < L.length:=by omega
  have hfx:=hf _ (List.getElem_mem hlt')
  refine wz14 ?_
  refine Xb6 rfl hlt' ?_
  intro b1 o1 p1 q1
  (repeat (refine wE ?_; intro _)); refine wA ?_
  refine JR.callV rfl (fun w1 hw=>Xgv w1 _ (L[i]) p1 q1 hw.get hfx.1) ?_
  (repeat (refine wE ?_; intro _)); refine wA ?_
  refine JO.test 23 (fun h0=>?_) (fun h0=>?_)
  ·refine wA ?_
   refine JC.test (fun he=>?_) (fun hne=>?_)
   ·have hd:decide (Xlp L[i]=some x)=true:=by rw [Xkz,decide_eq_true h0,decide_eq_true he]; rfl
    have hfd:Xo9 L x=some L[i]:=by
     rw [Xo9,List.find?_eq_some_iff_getElem]
     refine ⟨hd,i,hlt',rfl,fun j hj=>?_⟩
     rw [hno _ (List.mem_take_iff_getElem.2 ⟨j,by omega,rfl⟩)]; rfl
    have e1:Xcf L x=(L[i],true):=by simp [Xcf,hfd]
    rw [e1]
    refine wz9 ?_
    refine JR.call1 rfl (fun w1 hw=>Xv8 w1 _ (L[i]) p1 q1 hw.get hfx.2) ?_
    rintro ⟨p2,q2⟩
    dsimp only
    refine wA ?_
    exact Xab (p2,q2) rfl
   ·have hd:decide (Xlp L[i]=some x)=false:=by rw [Xkz,decide_eq_false hne,Bool.and_false]
    refine wz2 ?_
    refine ⟨i+1,⟨by omega,fun c hc=>?_⟩,by omega,iI⟩
    rw [List.take_succ_eq_append_getElem hlt',List.mem_append,List.mem_singleton] at hc
    rcases hc with hc | rfl
    ·exact hno c hc
    ·exact hd
  ·have hd:decide (Xlp L[i]=some x)=false:=by rw [Xkz,decide_eq_false h0,Bool.false_and]
   refine wX ?_
   refine ⟨i+1,⟨by omega,fun c hc=>?_⟩,by omega,iI⟩
   rw [List.take_succ_eq_append_getElem hlt',List.mem_append,List.mem_singleton] at hc
   rcases hc with hc | rfl
   ·exact hno c hc
   ·exact hd
 ·obtain rfl:i=L.length:=by omega
  rw [List.take_length] at hno
  have hfd:Xo9 L x=none:=by
   rw [Xo9,List.find?_eq_none]
   intro c hc; rw [hno c hc]; simp
  have e1:Xcf L x=(commit0,false):=by simp [Xcf,hfd]
  rw [e1]
  refine wz3 ?_
  refine Wf (OpV.build [.int .i64 0, .int .i64 0, .int .i64 0, .slice none 0 0, .int .i64 0, .string .empty, .string .empty, .int .i64 0] (by kernel_rfl)) rfl ?_
  refine wz9 ?_
  exact CT.done (none,0) rfl (fun w ho=>(ho.ent:Hold _ _ [.st (sl a k L)] w).tail.add Xau)
end
theorem Xr2 (a:Option Addr) (c:Nat) (L:List ID) (h:(sl a c L).holds F w) (hl:L.length≤34359738368) :
  GivesBuf prog 33 [.slice a L.length c] w F 72 (Xcq (Xdw L)):=by
 refine Xaa func33 rfl ntmps33 rfl rfl [.st (sl a c L)] (.start1 h) ?_
 refine wz10 ?_
 refine JR.call1 rfl (fun w1 hw=>Xzt w1 _ a c L hw.get) ?_
 intro m
 refine JO.more (fun w ho=>ho.pubMap) ?_
 refine wz13 ?_
 refine JR.callBuf rfl (fun w1 hw=>Xrs w1 _ m _ (Xcd L) (Nat.le_trans (Xft L) hl) hw.get) ?_
 intro a2 c2
 refine wz10 ?_
 exact Xab (a2,c2) rfl
section
attribute [local irreducible] ents Xat
abbrev Row:=(Commit × List ID) × (Option Addr × Nat × Nat)
def ofM (R:List Row):List (ID × Value):=R.map fun r=>(idC r.1.1,Xbk r.1.1 r.2.1 r.2.2.1)
def knM (R:List Row):List (ID × Value):=R.map fun r=>(idC r.1.1, .map (some r.2.2.2))
def grOf (R:List Row):List (Commit × List ID):=R.map (·.1)
def rowA (r:Row):List Asn:=[sl r.2.1 r.2.2.1 r.1.1.parents,rmap r.2.2.2 (ents idV (sety r.1.2)) r.1.2.length]
def Xa3 (R:List Row):Asn where
 holds F w:=∀ r∈R,∀ A∈rowA r,A.holds F w
 mono F G w h hh:=fun r hr A hA=>A.mono F G w h (hh r hr A hA)
 frame F w w' hk h:=fun r hr A hA=>A.frame F w w' hk (h r hr A hA)
 within F w h:=fun r hr A hA=>A.within F w (h r hr A hA)
theorem Xhj (R:List Row):Xao (grOf R)=R.map (·.1.1):=by simp [Xao,grOf]
theorem Xmg (R:List Row):cids (Xao (grOf R))=R.map (fun r=>idC r.1.1):=by simp [Xhj,cids]
theorem Xjj (R:List Row):(ofM R).map (·.1)=cids (Xao (grOf R)):=by simp [Xmg,ofM]
theorem Xjk (R:List Row):(knM R).map (·.1)=cids (Xao (grOf R)):=by simp [Xmg,knM]
theorem Xr3 {R:List Row} {p:ID} (hn:(cids (Xao (grOf R))).Nodup) (hp:p∈cids (Xao (grOf R))) :
  ∃ r∈R,idC r.1.1=p∧Xa4 (ofM R) p=some (Xbk r.1.1 r.2.1 r.2.2.1)∧Xa4 (knM R) p=some (.map (some r.2.2.2))∧Xdr (grOf R) p=r.1.2:=by
 rw [Xmg] at hp
 obtain ⟨r,hr,he⟩:=List.mem_map.1 hp
 cases hf:R.find? (fun r=>decide (idC r.1.1=p)) with
 | none=>exact absurd (List.find?_eq_none.1 hf r hr) (by simpa using he)
 | some q =>
  have h1:=List.find?_some hf
  have h1':idC q.1.1=p:=by simpa using h1
  have h2:=List.mem_of_find?_eq_some hf
  refine ⟨q,h2,h1',?_,?_,?_⟩
  ·simp only [Xa4,ofM,List.find?_map,Function.comp_def]
   rw [hf]; rfl
  ·simp only [Xa4,knM,List.find?_map,Function.comp_def]
   rw [hf]; rfl
  ·have:=Xh8 (G:=grOf R) hn (g:=q.1) (List.mem_map.2 ⟨q,h2,rfl⟩)
   rw [← h1']; exact this
theorem Xnq {R:List Row} {p:ID} (hp:p∉cids (Xao (grOf R))):Xa4 (ofM R) p=none∧Xa4 (knM R) p=none:=by
 rw [Xmg] at hp
 have hf:R.find? (fun r=>decide (idC r.1.1=p))=none:=by
  rw [List.find?_eq_none]
  intro r hr h
  exact hp (List.mem_map.2 ⟨r,hr,by simpa using h⟩)
 constructor
 ·simp only [Xa4,ofM,List.find?_map,Function.comp_def]
  rw [hf]; rfl
 ·simp only [Xa4,knM,List.find?_map,Function.comp_def]
  rw [hf]; rfl
theorem Xv9 {K:Type} [DecidableEq K] {M:List (K × Value)} {k:K} (v:Value) (h:k∉M.map (·.1)):upd M k v=M++[(k,v)]:=by
 have:plc M k=none:=by
  simp only [plc,List.findIdx?_eq_none_iff,decide_eq_false_iff_not]
  intro p hp e
  exact h (List.mem_map.2 ⟨p,hp,e⟩)
 simp [upd,this]
theorem Xa2 {α:Type} {L:List α} {i:Nat} (h:i < L.length) {x:α}:x∈L.take (i+1)↔x∈L.take i∨x=L[i]:=by
 rw [List.take_succ_eq_append_getElem h,List.mem_append,List.mem_singleton]
theorem Xqw (L:List Commit) (ps:List ID) (p:ID):Xce L (ps++[p])=max (Xce L ps) (Xbs L p):=by simp [Xce]
theorem Xlr {G:List (Commit × List ID)} {c:Commit} {p:ID} (hp:p∈c.parents) (h:p∉cids (Xao G)):Xno G c=false:=by
 rw [← Bool.not_eq_true,Xfx]; exact fun h'=>h (h'.1 p hp)
theorem Xfy {G:List (Commit × List ID)} {c:Commit} {p q:ID} (hp:p∈c.parents) (hq:q∈c.parents) (h:p∈Xdr G q):Xno G c=false:=by
 rw [← Bool.not_eq_true,Xfx]; exact fun h'=>h'.2 p hp q hq h
theorem Xez {R:List Row} {F:Nat→Prop} {w:World} (h:(Xa3 R).holds F w) {r:Row} (hr:r∈R):(sl r.2.1 r.2.2.1 r.1.1.parents).holds F w∧(rmap r.2.2.2 (ents idV (sety r.1.2)) r.1.2.length).holds F w :=
 ⟨h r hr _ (by simp [rowA]),h r hr _ (by simp [rowA])⟩
theorem Xtn {R:List Row} {F:Nat→Prop} {w:World} (h:(Xa3 R).holds F w) {c:Commit} {S:List ID} {a:Option Addr} {k b:Nat} (h1:(sl a k c.parents).holds F w) (h2:(rmap b (ents idV (sety S)) S.length).holds F w) :
  (Xa3 (R++[((c,S),(a,k,b))])).holds F w:=by
 intro r hr A hA
 rcases List.mem_append.1 hr with hr | hr
 ·exact h r hr A hA
 ·simp only [List.mem_singleton] at hr
  subst hr
  simp only [rowA,List.mem_cons,List.not_mem_nil,or_false] at hA
  rcases hA with rfl | rfl
  ·exact h1
  ·exact h2
theorem Xwa {F:Nat→Prop} {w:World}:(Xa3 []).holds F w:=fun r hr=>by cases hr
theorem Xyx (R:List Row) (c:Commit) (S:List ID) (a:Option Addr) (k b:Nat):ofM (R++[((c,S),(a,k,b))])=ofM R++[(idC c,Xbk c a k)]:=by simp [ofM]
theorem Xyy (R:List Row) (c:Commit) (S:List ID) (a:Option Addr) (k b:Nat):knM (R++[((c,S),(a,k,b))])=knM R++[(idC c, .map (some b))]:=by simp [knM]
theorem Xpa (R:List Row) (c:Commit) (S:List ID) (a:Option Addr) (k b:Nat):grOf (R++[((c,S),(a,k,b))])=grOf R++[(c,S)]:=by simp [grOf]
end
section
attribute [local irreducible] JN
section
attribute [local irreducible] ents Xat Xa3
abbrev AddY (R:List Row) (c:Commit):={ y:List ID × Nat × Bool // y.2.2=(Xno (grOf R) c && Xrz (grOf R) c)∧(y.2.2=true→y.1.Nodup∧Xqv (grOf R) c y.1) }
abbrev addB (bo bk:Nat) (R:List Row) (c:Commit) (a:Option Addr) (k:Nat) (Γ:List Fact) (S:List ID) (ba:Nat):List Fact :=
 .omap bo (ents idV (ofM (R++[((c,S),(a,k,ba))]))) (ofM (R++[((c,S),(a,k,ba))])).length::.omap bk (ents idV (knM (R++[((c,S),(a,k,ba))]))) (knM (R++[((c,S),(a,k,ba))])).length::.st (Xa3 (R++[((c,S),(a,k,ba))]))::Γ
theorem Xwb {w0 w:World} {F:Nat→Prop} {Γ:List Fact} {bo bk:Nat} {R:List Row} {c:Commit} {a:Option Addr} {k:Nat}
  (hn:(cids (Xao (grOf R))).Nodup) (hS:∀ r∈R,r.1.2.Nodup) (hnew:idC c∉cids (Xao (grOf R))) (hg:∀ r∈R,0≤r.1.1.gen∧r.1.1.gen≤1048576)
  (ho:Hold w0 F (.omap bo (ents idV (ofM R)) (ofM R).length::.omap bk (ents idV (knM R)) (knM R).length::.st (Xa3 R)::.st (sl a k c.parents)::Γ) w) :
  Calls prog 119 ⟨[.agg ⟨[.map (some bo), .map (some bk)]⟩, .agg ⟨idc (idC c)⟩,Xbk c a k]⟩ w fun x w' =>
   ∃ y:AddY R c,x = .returned (.bool y.1.2.2)∧Hold w0 F (if y.1.2.2=true then addB bo bk R c a k Γ y.1.1 y.1.2.1 else Γ) w':=by
 have hpl:c.parents.length < 9223372036854775807:=by
  have h1:(sl a k c.parents).holds _ w:=ho.sat (.st (sl a k c.parents)) (by simp)
  have:=h1.2.2.1; simp only [lim] at this; omega
 have hkO:((ofM R).map (·.1)).Nodup:=by rw [Xjj]; exact hn
 have hkK:((knM R).map (·.1)).Nodup:=by rw [Xjk]; exact hn
 refine Xbu (v:=fun y:AddY R c=>.bool y.1.2.2) (B:=fun y=>if y.1.2.2=true then addB bo bk R c a k Γ y.1.1 y.1.2.1 else Γ) func119 rfl ntmps119 rfl rfl _ ho ?_
 (repeat (refine wE ?_; intro _)); refine wA ?_
 rename_i b3 b4 b5
 refine Xhu idV rfl ?_
 intro ba
 refine wA ?_
 refine Xcg (fun (i:Nat) (A:List ID) (g:Int)=>[(3, .pointer (some ⟨b3,0,none⟩)),(4, .pointer (some ⟨b4,0,none⟩)),(5, .pointer (some ⟨b5,0,none⟩)),(7, .int .i64 g),(8, .map (some ba)),(20, .slice a c.parents.length k),(21, .int .i64 (c.parents.length:Int)),(22, .int .i64 (i:Int))])
  (fun i A g=>.omap bo (ents idV (ofM R)) (ofM R).length::.omap bk (ents idV (knM R)) (knM R).length::.own b3 103 [.map (some bo), .map (some bk)]::.own b4 72 (idc (idC c))::.own b5 31 [.int .i64 c.ev.node, .int .i64 c.ev.seq, .int .i64 c.gen, .slice a c.parents.length k, .int .i64 c.op.kind, .string c.op.key, .string c.op.elem, .int .i64 c.op.n]::.omap ba (ents idV (sety A)) A.length::.st (Xa3 R)::.st (sl a k c.parents)::Γ)
  (fun i A g=>i≤c.parents.length∧A.Nodup∧(∀ p∈c.parents.take i,p∈cids (Xao (grOf R)))∧(∀ x,x∈A↔∃ p∈c.parents.take i,x∈Xdr (grOf R) p)∧g=Xce (Xao (grOf R)) (c.parents.take i)∧0≤g∧g≤1048576)
  (fun i _ _=>c.parents.length - i) 0 [] 0 ⟨Nat.zero_le _,List.nodup_nil,by simp,by simp,by simp [Xce],by decide,by decide⟩ iI ?_
 intro i A g ⟨hi,hA,hin,hmem,hmax,hg0,hg1⟩
 refine wz11 ?_
 refine JC.test (fun hlt=>?_) (fun hge=>?_)
 ·have hlt':i < c.parents.length:=by omega
  refine wz14 ?_
  refine Xbx rfl hlt' ?_
  intro bp op
  (repeat (refine wE ?_; intro _)); refine wA ?_
  have hpm:c.parents[i]∈c.parents:=List.getElem_mem hlt'
  by_cases hin':c.parents[i]∈cids (Xao (grOf R))
  ·obtain ⟨r,hr,hre,hgo,hgk,hkn⟩:=Xr3 hn hin'
   have hga:Xbs (Xao (grOf R)) c.parents[i]=r.1.1.gen:=by
    rw [← hre]; exact Xb5 hn (by rw [Xhj]; exact List.mem_map.2 ⟨r,hr,rfl⟩)
   obtain ⟨hr0,hr1⟩:=hg r hr
   refine Wf (Xbp (M:=ofM R) (v:=Xbk r.1.1 r.2.1 r.2.2.1) (is:=true) c.parents[i] hkO (by rw [hgo]; rfl) (by rw [hgo]; rfl)) rfl ?_
   (repeat (refine wE ?_; intro _)); refine wA ?_
   refine Wf (Xf8 (L:=A) c.parents[i] hA) rfl ?_
   refine wz7 ?_
   refine JC.test (fun hy=>?_) (fun hno=>?_)
   ·obtain ⟨q,hq,hqk⟩:=(hmem _).1 (by simpa using hy)
    refine wz5 ?_
    exact CT.done ⟨([],0,false),by rw [Xfy hpm (List.mem_of_mem_take hq) hqk]; rfl,by simp⟩ rfl (fun w ho=>(ho.ent:Hold w0 F Γ w))
   ·refine wz1 ?_
    refine Wf OpV.max rfl ?_
    refine wz9 ?_
    refine Wf (Xay (M:=knM R) (v:=.map (some r.2.2.2)) c.parents[i] hkK (by rw [hgk]; rfl)) rfl ?_
    refine JO.more (fun w1 ho=>ho.add (A:=rmap r.2.2.2 (ents idV (sety r.1.2)) r.1.2.length) (Xez (ho.get (A:=Xa3 R)) hr).2) ?_
    refine We rfl ?_
    refine Xj2 rfl ?_
    intro ri
    refine wz4 ?_
    refine Xdt (fun (S:List Nat) (A':List ID)=>[(3, .pointer (some ⟨b3,0,none⟩)),(4, .pointer (some ⟨b4,0,none⟩)),(5, .pointer (some ⟨b5,0,none⟩)),(7, .int .i64 (max g r.1.1.gen)),(8, .map (some ba)),(20, .slice a c.parents.length k),(21, .int .i64 (c.parents.length:Int)),(22, .int .i64 (i:Int)),(48, .pointer (some ⟨ri,0,none⟩))])
     (fun S A'=>.omap bo (ents idV (ofM R)) (ofM R).length::.omap bk (ents idV (knM R)) (knM R).length::.own b3 103 [.map (some bo), .map (some bk)]::.own b4 72 (idc (idC c))::.own b5 31 [.int .i64 c.ev.node, .int .i64 c.ev.seq, .int .i64 c.gen, .slice a c.parents.length k, .int .i64 c.op.kind, .string c.op.key, .string c.op.elem, .int .i64 c.op.n]::.omap ba (ents idV (sety A')) A'.length::.obj ri (.mapIter (some r.2.2.2) r.1.2.length S.toArray r.1.2.length)::.st (rmap r.2.2.2 (ents idV (sety r.1.2)) r.1.2.length)::.st (Xa3 R)::.st (sl a k c.parents)::Γ)
     (fun S A'=>S.Nodup∧(∀ j∈S,j < r.1.2.length)∧A'.Nodup∧∀ x,x∈A'↔x∈A∨∃ j∈S,r.1.2[j]? = some x)
     (fun S _=>r.1.2.length - S.length) [] A ⟨List.nodup_nil,by simp,hA,by simp⟩ iI ?_
    intro S A' ⟨hS1,hS2,hA',hmem'⟩
    have hSl:S.length≤r.1.2.length:=Xcl hS1 hS2
    refine wz14 ?_
    refine Xmy rfl hS2 (fun hall=>?_) (fun j hj hjS=>?_)
    ·refine wA ?_
     refine ⟨i+1,A',max g r.1.1.gen,⟨by omega,hA',fun p hp=>?_,fun x=>?_,?_,by omega,by omega⟩,by omega,iI⟩
     ·rcases (Xa2 hlt').1 hp with hp | rfl
      ·exact hin p hp
      ·exact hin'
     ·rw [hmem',hmem]
      constructor
      ·rintro (⟨q,hq,hx⟩ | ⟨j,hj,hx⟩)
       ·exact ⟨q,(Xa2 hlt').2 (.inl hq),hx⟩
       ·exact ⟨c.parents[i],(Xa2 hlt').2 (.inr rfl),by rw [hkn]; exact List.mem_of_getElem? hx⟩
      ·rintro ⟨q,hq,hx⟩
       rcases (Xa2 hlt').1 hq with hq | rfl
       ·exact .inl ⟨q,hq,hx⟩
       ·rw [hkn] at hx
        obtain ⟨j,hj,rfl⟩:=List.getElem_of_mem hx
        exact .inr ⟨j,hall j hj,List.getElem?_eq_getElem hj⟩
     ·rw [List.take_succ_eq_append_getElem hlt',Xqw,← hmax,hga]
    ·refine wA ?_
     refine Wf (Xhv hj) rfl ?_
     (repeat (refine wE ?_; intro _)); refine wA ?_
     refine Xg2 r.1.2[j] hA' ?_
     have hS3:(S++[j]).Nodup:=List.nodup_append.2 ⟨hS1,by simp,fun x hx y hy=>by simp at hy; subst hy; exact fun e=>hjS (e ▸ hx)⟩
     have hS4:∀ i∈S++[j],i < r.1.2.length:=fun i hi=>by
      rcases List.mem_append.1 hi with hi | hi
      ·exact hS2 i hi
      ·simp at hi; subst hi; exact hj
     have hlt2:=Xcl hS3 hS4
     refine wz2 ?_
     refine ⟨S++[j],addK A' r.1.2[j],⟨hS3,hS4,Xch hA' _,fun x=>?_⟩,by simp at hlt2 ⊢; omega,iI⟩
     rw [Xdv,hmem']
     constructor
     ·rintro ((h | ⟨q,hq,hx⟩) | rfl)
      ·exact .inl h
      ·exact .inr ⟨q,by simp [hq],hx⟩
      ·exact .inr ⟨j,by simp,List.getElem?_eq_getElem hj⟩
     ·rintro (h | ⟨q,hq,hx⟩)
      ·exact .inl (.inl h)
      ·rcases List.mem_append.1 hq with hq | hq
       ·exact .inl (.inr ⟨q,hq,hx⟩)
       ·simp at hq; subst hq
        rw [List.getElem?_eq_getElem hj] at hx
        injection hx with hx
        exact .inr hx.symm
  ·obtain ⟨hgo,hgk⟩:=Xnq hin'
   refine Wf (Xbp (M:=ofM R) (v:=.agg ⟨[.int .i64 0, .int .i64 0, .int .i64 0, .slice none 0 0, .int .i64 0, .string .empty, .string .empty, .int .i64 0]⟩) (is:=false) c.parents[i] hkO (by rw [hgo]; rfl) (by rw [hgo]; rfl)) rfl ?_
   (repeat (refine wF ?_; intro _)); refine wX ?_
   exact CT.done ⟨([],0,false),by rw [Xlr hpm hin']; rfl,by simp⟩ rfl (fun w ho=>(ho.ent:Hold w0 F Γ w))
 ·obtain rfl:i=c.parents.length:=by omega
  rw [List.take_length] at hin hmem hmax
  refine wA ?_
  refine Xaj (fun (i:Nat)=>[(3, .pointer (some ⟨b3,0,none⟩)),(4, .pointer (some ⟨b4,0,none⟩)),(5, .pointer (some ⟨b5,0,none⟩)),(7, .int .i64 g),(8, .map (some ba)),(57, .slice a c.parents.length k),(58, .int .i64 (c.parents.length:Int)),(59, .int .i64 (i:Int))])
   (fun i=>.omap bo (ents idV (ofM R)) (ofM R).length::.omap bk (ents idV (knM R)) (knM R).length::.own b3 103 [.map (some bo), .map (some bk)]::.own b4 72 (idc (idC c))::.own b5 31 [.int .i64 c.ev.node, .int .i64 c.ev.seq, .int .i64 c.gen, .slice a c.parents.length k, .int .i64 c.op.kind, .string c.op.key, .string c.op.elem, .int .i64 c.op.n]::.omap ba (ents idV (sety A)) A.length::.st (Xa3 R)::.st (sl a k c.parents)::Γ)
   (fun i=>i≤c.parents.length∧∀ p∈c.parents.take i,p∉A) (fun i=>c.parents.length - i) 0 ⟨Nat.zero_le _,by simp⟩ iI ?_
  intro i ⟨hi,hfree⟩
  refine wz11 ?_
  refine JC.test (fun hlt=>?_) (fun hge=>?_)
  ·have hlt':i < c.parents.length:=by omega
   refine wz14 ?_
   refine Xbx rfl hlt' ?_
   intro bp op
   (repeat (refine wE ?_; intro _)); refine wA ?_
   refine Wf (Xf8 (L:=A) c.parents[i] hA) rfl ?_
   refine wz10 ?_
   refine JC.test (fun hy=>?_) (fun hno=>?_)
   ·obtain ⟨q,hq,hqk⟩:=(hmem _).1 (by simpa using hy)
    refine wz5 ?_
    exact CT.done ⟨([],0,false),by rw [Xfy (List.getElem_mem hlt') hq hqk]; rfl,by simp⟩ rfl (fun w ho=>(ho.ent:Hold w0 F Γ w))
   ·refine wz2 ?_
    refine ⟨i+1,⟨by omega,fun p hp=>?_⟩,by omega,iI⟩
    rcases (Xa2 hlt').1 hp with hp | rfl
    ·exact hfree p hp
    ·simpa using hno
  ·obtain rfl:i=c.parents.length:=by omega
   rw [List.take_length] at hfree
   have hok:Xno (grOf R) c=true:=(Xfx _ _).2 ⟨hin,fun p hp q hq hk=>hfree p hp ((hmem p).2 ⟨q,hq,hk⟩)⟩
   refine wA ?_
   refine Xdt (fun (i:Nat) (A':List ID)=>[(3, .pointer (some ⟨b3,0,none⟩)),(4, .pointer (some ⟨b4,0,none⟩)),(5, .pointer (some ⟨b5,0,none⟩)),(7, .int .i64 g),(8, .map (some ba)),(68, .slice a c.parents.length k),(69, .int .i64 (c.parents.length:Int)),(70, .int .i64 (i:Int))])
    (fun i A'=>.omap bo (ents idV (ofM R)) (ofM R).length::.omap bk (ents idV (knM R)) (knM R).length::.own b3 103 [.map (some bo), .map (some bk)]::.own b4 72 (idc (idC c))::.own b5 31 [.int .i64 c.ev.node, .int .i64 c.ev.seq, .int .i64 c.gen, .slice a c.parents.length k, .int .i64 c.op.kind, .string c.op.key, .string c.op.elem, .int .i64 c.op.n]::.omap ba (ents idV (sety A')) A'.length::.st (Xa3 R)::.st (sl a k c.parents)::Γ)
    (fun i A'=>i≤c.parents.length∧A'.Nodup∧∀ x,x∈A'↔x∈A∨x∈c.parents.take i) (fun i _=>c.parents.length - i) 0 A ⟨Nat.zero_le _,hA,by simp⟩ iI ?_
   intro i A' ⟨hi,hA',hmem'⟩
   refine wz11 ?_
   refine JC.test (fun hlt=>?_) (fun hge=>?_)
   ·have hlt':i < c.parents.length:=by omega
    refine wz14 ?_
    refine Xbx rfl hlt' ?_
    intro bp op
    (repeat (refine wE ?_; intro _)); refine wA ?_
    refine Xg2 c.parents[i] hA' ?_
    refine wz2 ?_
    refine ⟨i+1,addK A' c.parents[i],⟨by omega,Xch hA' _,fun x=>?_⟩,by omega,iI⟩
    rw [Xdv,hmem',Xa2 hlt',or_assoc]
   ·obtain rfl:i=c.parents.length:=by omega
    rw [List.take_length] at hmem'
    refine wz3 ?_
    have hkn:Xqv (grOf R) c A':=fun x=>by
     rw [hmem',hmem]
     constructor
     ·rintro (⟨q,hq,hx⟩ | h)
      ·exact ⟨q,hq, .inr hx⟩
      ·exact ⟨x,h, .inl rfl⟩
     ·rintro ⟨q,hq,(rfl | hx)⟩
      ·exact .inr hq
      ·exact .inl ⟨q,hq,hx⟩
    have eO:upd (ofM R) (idC c) (.agg ⟨[.int .i64 c.ev.node, .int .i64 c.ev.seq, .int .i64 c.gen, .slice a c.parents.length k, .int .i64 c.op.kind, .string c.op.key, .string c.op.elem, .int .i64 c.op.n]⟩)=ofM (R++[((c,A'),(a,k,ba))]):=by
     rw [Xv9 _ (by rw [Xjj]; exact hnew),Xyx]
    have eK:upd (knM R) (idC c) (.map (some ba))=knM (R++[((c,A'),(a,k,ba))]):=by
     rw [Xv9 _ (by rw [Xjk]; exact hnew),Xyy]
    refine Xjb [.own b3 103 [.map (some bo), .map (some bk)], .own b4 72 (idc (idC c)), .own b5 31 [.int .i64 c.ev.node, .int .i64 c.ev.seq, .int .i64 c.gen, .slice a c.parents.length k, .int .i64 c.op.kind, .string c.op.key, .string c.op.elem, .int .i64 c.op.n]] mixed ?_
    refine JN.take 0 rfl (by kernel_rfl) rfl Vd rfl rfl ?_
    refine JN.take 1 rfl (by kernel_rfl) rfl Vc rfl rfl ?_
    refine JN.take 2 rfl (by kernel_rfl) rfl Vc rfl rfl ?_
    refine JN.take 3 rfl (by kernel_rfl) rfl Vd rfl rfl ?_
    refine JN.take 4 rfl (by kernel_rfl) rfl Vc rfl rfl ?_
    refine JN.take 5 rfl (by kernel_rfl) rfl Vc rfl rfl ?_
    refine JN.take 6 rfl (by kernel_rfl) rfl Vc rfl rfl ?_
    refine JN.take 7 rfl (by kernel_rfl) rfl Va rfl rfl ?_
    refine JN.op 8 (by kernel_rfl) rfl rfl (Xbo (M:=ofM R) (k:=idC c) (.inl rfl) hkO (Wd ⟨rfl,iI,?_⟩))
    refine JN.op 9 (by kernel_rfl) rfl rfl (Xbo (M:=knM R) (k:=idC c) (.inl rfl) hkK (Wd ⟨rfl,iI,?_⟩))
    refine JN.nil (by kernel_rfl) ?_
    rw [eO,eK]
    refine wA ?_
    refine CT.done ⟨(A',ba,decide (c.gen=g+1)),by rw [hok,hmax]; rfl,fun _=>⟨hA',hkn⟩⟩ rfl (fun w ho=>?_)
    have h1:Hold _ _ (.omap ba (ents idV (sety A')) A'.length::.omap bo (ents idV (ofM (R++[((c,A'),(a,k,ba))]))) (ofM (R++[((c,A'),(a,k,ba))])).length::.omap bk (ents idV (knM (R++[((c,A'),(a,k,ba))]))) (knM (R++[((c,A'),(a,k,ba))])).length::.st (Xa3 R)::.st (sl a k c.parents)::Γ) w:=ho.ent
    have h2:=h1.pubMap
    have h3:=h2.add (Xtn (S:=A') (h2.get (A:=Xa3 R)) (h2.get (A:=sl a k c.parents)) (h2.get (A:=rmap ba (ents idV (sety A')) A'.length)))
    by_cases hb:c.gen=g+1
    ·rw [if_pos (by simpa using hb)]; exact h3.ent
    ·rw [if_neg (by simpa using hb)]; exact h3.ent
end
end
section
attribute [local irreducible] ents Xat Xa3
def Xe0 (r s:Row):Bool:=decide (idC r.1.1≠idC s.1.1) && decide (r.1.1.ev.node=s.1.1.ev.node) && (decide (r.1.1.ev.seq=s.1.1.ev.seq) || (decide (s.1.1.ev.seq < r.1.1.ev.seq) && decide (idC s.1.1∉r.1.2)))
def evG (R:List Row):Bool:=R.all fun r=>R.all fun s=>!Xe0 r s
theorem Xwc (R:List Row) (j:Nat) (h:j < (ofM R).length):(ofM R)[j]=(idC (R[j]'(by simpa [ofM] using h)).1.1,Xbk (R[j]'(by simpa [ofM] using h)).1.1 (R[j]'(by simpa [ofM] using h)).2.1 (R[j]'(by simpa [ofM] using h)).2.2.1):=by simp [ofM]
theorem Xgb (R:List Row):(ofM R).length=R.length:=by simp [ofM]
theorem Xpb {R:List Row} {r s:Row} (hr:r∈R) (hs:s∈R) (h:Xe0 r s=true):evG R=false:=by
 rw [← Bool.not_eq_true]
 intro he
 have:=List.all_eq_true.1 (List.all_eq_true.1 he r hr) s hs
 rw [h] at this; cases this
theorem Xpc (bo bk:Nat) (R:List Row) (hn:(cids (Xao (grOf R))).Nodup) (hS:∀ r∈R,r.1.2.Nodup)
  (h1:(rmap bo (ents idV (ofM R)) (ofM R).length).holds F w) (h2:(rmap bk (ents idV (knM R)) (knM R).length).holds F w) (h3:(Xa3 R).holds F w) :
  GivesV prog 120 [.agg ⟨[.map (some bo), .map (some bk)]⟩] w F (.bool (evG R)):=by
 have hkK:((knM R).map (·.1)).Nodup:=by rw [Xjk]; exact hn
 refine Xaa func120 rfl ntmps120 rfl rfl [.st (rmap bo (ents idV (ofM R)) (ofM R).length), .st (rmap bk (ents idV (knM R)) (knM R).length), .st (Xa3 R)] (.start3 h1 h2 h3) ?_
 (repeat (refine wE ?_; intro _)); refine wA ?_
 rename_i bg
 refine JR.range (M:=ofM R) rfl ?_
 intro r1
 refine wz4 ?_
 refine Xaj (fun (S:List Nat)=>[(1, .pointer (some ⟨bg,0,none⟩)),(9, .pointer (some ⟨r1,0,none⟩))])
  (fun S=>[.obj r1 (.mapIter (some bo) (ofM R).length S.toArray (ofM R).length), .own bg 103 [.map (some bo), .map (some bk)], .st (rmap bo (ents idV (ofM R)) (ofM R).length), .st (rmap bk (ents idV (knM R)) (knM R).length), .st (Xa3 R)])
  (fun S=>S.Nodup∧(∀ j∈S,j < (ofM R).length)∧∀ j∈S,∀ hj:j < R.length,∀ s∈R,Xe0 R[j] s=false) (fun S=>(ofM R).length - S.length) [] ⟨List.nodup_nil,by simp,by simp⟩ iI ?_
 intro S ⟨hS1,hS2,hok⟩
 refine wz14 ?_
 refine JR.next (M:=ofM R) rfl hS2 (fun hall=>?_) (fun j hj hjS=>?_)
 ·have e1:evG R=true:=by
   refine List.all_eq_true.2 fun r hr=>List.all_eq_true.2 fun s hs=>?_
   obtain ⟨j,hj,rfl⟩:=List.getElem_of_mem hr
   rw [hok j (hall j (by rw [Xgb]; exact hj)) hj s hs]; rfl
  rw [e1]
  refine wA ?_
  exact Xab () rfl
 ·have hjR:j < R.length:=by rw [Xgb] at hj; exact hj
  obtain ⟨r,hr⟩:∃ r,r=R[j]:=⟨_,rfl⟩
  have hrm:r∈R:=by rw [hr]; exact List.getElem_mem hjR
  have eg:=Xwc R j hj
  rw [← hr] at eg
  have hS3:(S++[j]).Nodup:=List.nodup_append.2 ⟨hS1,by simp,fun x hx y hy=>by simp at hy; subst hy; exact fun e=>hjS (e ▸ hx)⟩
  have hS4:∀ i∈S++[j],i < (ofM R).length:=fun i hi=>by
   rcases List.mem_append.1 hi with hi | hi
   ·exact hS2 i hi
   ·simp at hi; subst hi; exact hj
  have hlt2:=Xcl hS3 hS4
  refine wA ?_
  refine Wf (OpV.entry (M:=ofM R) hj) rfl ?_
  refine JO.reslot 12 (.tuple ⟨[idV (idC r.1.1),Xbk r.1.1 r.2.1 r.2.2.1]⟩) (by rw [eg]) ?_
  refine JO.more (fun w1 ho=>(ho.add (A:=sl r.2.1 r.2.2.1 r.1.1.parents) (Xez (ho.get (A:=Xa3 R)) hrm).1).add (A:=rmap r.2.2.2 (ents idV (sety r.1.2)) r.1.2.length) (Xez (ho.add (A:=sl r.2.1 r.2.2.1 r.1.1.parents) (Xez (ho.get (A:=Xa3 R)) hrm).1 |>.get (A:=Xa3 R)) hrm).2) ?_
  (repeat (refine wE ?_; intro _)); refine wA ?_
  rename_i b3 b4
  refine JR.range (M:=ofM R) rfl ?_
  intro r2
  refine wz4 ?_
  refine Xaj (fun (S2:List Nat)=>[(1, .pointer (some ⟨bg,0,none⟩)),(9, .pointer (some ⟨r1,0,none⟩)),(3, .pointer (some ⟨b3,0,none⟩)),(4, .pointer (some ⟨b4,0,none⟩)),(17, .pointer (some ⟨r2,0,none⟩))])
   (fun S2=>[.obj r2 (.mapIter (some bo) (ofM R).length S2.toArray (ofM R).length), .own b3 72 (idc (idC r.1.1)), .own b4 31 [.int .i64 r.1.1.ev.node, .int .i64 r.1.1.ev.seq, .int .i64 r.1.1.gen, .slice r.2.1 r.1.1.parents.length r.2.2.1, .int .i64 r.1.1.op.kind, .string r.1.1.op.key, .string r.1.1.op.elem, .int .i64 r.1.1.op.n],
    .obj r1 (.mapIter (some bo) (ofM R).length (S++[j]).toArray (ofM R).length), .own bg 103 [.map (some bo), .map (some bk)], .st (rmap r.2.2.2 (ents idV (sety r.1.2)) r.1.2.length), .st (rmap bo (ents idV (ofM R)) (ofM R).length), .st (rmap bk (ents idV (knM R)) (knM R).length), .st (Xa3 R)])
   (fun S2=>S2.Nodup∧(∀ j∈S2,j < (ofM R).length)∧∀ j∈S2,∀ hj:j < R.length,Xe0 r R[j]=false) (fun S2=>(ofM R).length - S2.length) [] ⟨List.nodup_nil,by simp,by simp⟩ iI ?_
  intro S2 ⟨hT1,hT2,hok2⟩
  refine wz14 ?_
  refine JR.next (M:=ofM R) rfl hT2 (fun hall=>?_) (fun i hi hiS=>?_)
  ·refine wA ?_
   refine ⟨S++[j],⟨hS3,hS4,fun x hx hxR s hs=>?_⟩,by simp at hlt2 ⊢; omega,iI⟩
   rcases List.mem_append.1 hx with hx | hx
   ·exact hok x hx hxR s hs
   ·simp only [List.mem_singleton] at hx
    subst hx
    obtain ⟨y,hy,rfl⟩:=List.getElem_of_mem hs
    rw [← hr]
    exact hok2 y (hall y (by rw [Xgb]; exact hy)) hy
  ·have hiR:i < R.length:=by rw [Xgb] at hi; exact hi
   obtain ⟨s,hs⟩:∃ s,s=R[i]:=⟨_,rfl⟩
   have hsm:s∈R:=by rw [hs]; exact List.getElem_mem hiR
   have eg2:=Xwc R i hi
   rw [← hs] at eg2
   have hT3:(S2++[i]).Nodup:=List.nodup_append.2 ⟨hT1,by simp,fun x hx y hy=>by simp at hy; subst hy; exact fun e=>hiS (e ▸ hx)⟩
   have hT4:∀ x∈S2++[i],x < (ofM R).length:=fun x hx=>by
    rcases List.mem_append.1 hx with hx | hx
    ·exact hT2 x hx
    ·simp at hx; subst hx; exact hi
   have hlt3:=Xcl hT3 hT4
   have next:Xe0 r s=false→∀ x∈S2++[i],∀ hx:x < R.length,Xe0 r R[x]=false:=fun hb x hx hxR=>by
    rcases List.mem_append.1 hx with hx | hx
    ·exact hok2 x hx hxR
    ·simp only [List.mem_singleton] at hx; subst hx; rw [← hs]; exact hb
   refine wA ?_
   refine Wf (OpV.entry (M:=ofM R) hi) rfl ?_
   refine JO.reslot 20 (.tuple ⟨[idV (idC s.1.1),Xbk s.1.1 s.2.1 s.2.2.1]⟩) (by rw [eg2]) ?_
   refine JO.more (fun w1 ho=>ho.add (A:=sl s.2.1 s.2.2.1 s.1.1.parents) (Xez (ho.get (A:=Xa3 R)) hsm).1) ?_
   (repeat (refine wE ?_; intro _)); refine wA ?_
   refine JO.test 26 (fun he=>?_) (fun he=>?_)
   ·have hb:Xe0 r s=false:=by simp [Xe0,he]
    refine wz12 ?_
    exact ⟨S2++[i],⟨hT3,hT4,next hb⟩,by simp at hlt3 ⊢; omega,iI⟩
   refine wX ?_
   refine JC.test (fun hnd=>?_) (fun hnd=>?_)
   ·have hb:Xe0 r s=false:=by simp only [ne_eq] at hnd; simp [Xe0,hnd]
    refine wz3 ?_
    exact ⟨S2++[i],⟨hT3,hT4,next hb⟩,by simp at hlt3 ⊢; omega,iI⟩
   have hnd':r.1.1.ev.node=s.1.1.ev.node:=by simpa using hnd
   refine wz14 ?_
   have hgk:Xa4 (knM R) (idC r.1.1)=some (.map (some r.2.2.2)):=by
    obtain ⟨q,hq,hqe,_,hqk,_⟩:=Xr3 hn (p:=idC r.1.1) (by rw [Xmg]; exact List.mem_map.2 ⟨r,hrm,rfl⟩)
    have:q=r:=by
     obtain ⟨x,hx,hxq⟩:=List.getElem_of_mem hq
     obtain ⟨y,hy,hyr⟩:=List.getElem_of_mem hrm
     rw [Xmg] at hn
     rcases Nat.lt_trichotomy x y with h | h | h
     ·have:=List.pairwise_iff_getElem.1 hn x y (by simpa using hx) (by simpa using hy) h
      simp [hxq,hyr,hqe] at this
     ·subst h; rw [← hxq,← hyr]
     ·have:=List.pairwise_iff_getElem.1 hn y x (by simpa using hy) (by simpa using hx) h
      simp [hxq,hyr,hqe] at this
    rw [← this]; rw [this] at hqk ⊢; exact hqk
   refine Xbe mixed (by kernel_rfl) ?_
   refine wY ?_
   by_cases hsq:r.1.1.ev.seq=s.1.1.ev.seq
   ·have hb:Xe0 r s=true:=by simp [Xe0,he,hnd',hsq]
    refine JQ.reslot 42 (.bool true) (by simp [hsq]) ?_
    refine wY ?_
    refine wz8 ?_
    rw [Xpb hrm hsm hb]
    exact Xab () rfl
   refine JQ.reslot 42 (.bool false) (by simp [hsq]) ?_
   refine wY ?_
   by_cases hlt:s.1.1.ev.seq < r.1.1.ev.seq
   ·refine JQ.reslot 50 (.bool true) (by simp [hlt]) ?_
    refine wY ?_
    refine Wy rfl (Xay (M:=knM R) (v:=.map (some r.2.2.2)) (idC r.1.1) hkK (by rw [hgk]; rfl)) rfl ?_
    refine wY ?_
    refine Wy rfl (Xf8 (L:=r.1.2) (idC s.1.1) (hS r hrm)) rfl ?_
    refine wY ?_
    refine wz13 ?_
    refine JC.test (fun hk=>?_) (fun hk=>?_)
    ·have hb:Xe0 r s=true:=by
      have hk':idC s.1.1∉r.1.2:=by simpa using hk
      simp [Xe0,he,hnd',hlt,hk']
     refine wz5 ?_
     rw [Xpb hrm hsm hb]
     exact Xab () rfl
    ·have hb:Xe0 r s=false:=by
      have hk':idC s.1.1∈r.1.2:=by simpa using hk
      simp [Xe0,hsq,hk']
     refine wz2 ?_
     exact ⟨S2++[i],⟨hT3,hT4,next hb⟩,by simp at hlt3 ⊢; omega,iI⟩
   ·have hb:Xe0 r s=false:=by simp [Xe0,hsq,hlt]
    refine JQ.reslot 50 (.bool false) (by simp [hlt]) ?_
    refine wY ?_
    refine wz2 ?_
    exact ⟨S2++[i],⟨hT3,hT4,next hb⟩,by simp at hlt3 ⊢; omega,iI⟩
end
end
section
open Go Go.RowKit Go.Sort Go.Shelf
theorem Xk0 [dr:Dr] (hdr:Dr.on) {w w':World} (h:Bel w.heap.size w w'):∃ q os,w'=grow (w.drewN q) os:=by
 refine ⟨w'.drawn - w.drawn,w'.heap.extract w.heap.size,?_⟩
 have h1:=h.drawn hdr
 have h2:=h.os; have h3:=h.tape; have h4:=h.output
 have hh:w.heap++w'.heap.extract w.heap.size=w'.heap:=by
  apply Array.ext_getElem?
  intro i
  by_cases hi:i < w.heap.size
  ·rw [Array.getElem?_append_left hi]; exact (h.block i hi).symm
  ·rw [Array.getElem?_append_right (by omega),Array.getElem?_extract]
   have:=h.size
   by_cases hi':i < w'.heap.size
   ·rw [if_pos (by omega)]; congr 1; omega
   ·rw [if_neg (by omega),Array.getElem?_eq_none (by omega)]
 cases w; cases w'
 simp only [World.drewN,grow] at *
 subst h2 h3 h4
 simp only [hh]
 congr 1
 omega
abbrev X1d {m:Nat} (cf:Fin (m+1)→Fin (m+1)→Int):={ O:List (Fin (m+1)) // O.Perm (List.finRange (m+1))∧O.Pairwise (fun i j=>Go.Proofs.ltOf cf j i=false) }
theorem Xqx [Dr] {P:Program} {ρ:Ren} (Ly:Go.Proofs.SlLaysF.n6 P ρ) {m:Nat} (cf:Fin (m+1)→Fin (m+1)→Int) (hO:SWO (Go.Proofs.ltOf cf)) (g:FuncId) (caps:List Value) [eg:Body P g] {w0 w:World} {F:Nat→Prop} {Γ:List Fact} {b c:Nat} {el:TypeId}
  (hm:m < 1000000) (ho:Hold w0 F (.own b el ((List.range (m+1)).map natV)::Γ) w)
  (hc:∀ W:World,(∀ A:Asn,A.holds (fp w0 F (.own b el ((List.range (m+1)).map natV)::Γ)) w→A.holds (fp w0 F (.own b el ((List.range (m+1)).map natV)::Γ)) W) →
   ∀ x y:Fin (m+1),@GivesV ⟨True⟩ P g ([natV x.1,natV y.1]++caps) W (fp w0 F (.own b el ((List.range (m+1)).map natV)::Γ)) (.int .i64 (cf x y))) :
  Calls P (ρ.f 6) ⟨[.slice (some ⟨b,0,none⟩) (m+1) c, .func (.func g) ⟨[]⟩ ⟨caps⟩]⟩ w fun x w'=>∃ O:X1d cf,x = .returned (.tuple ⟨[]⟩)∧Hold w0 F (.own b el (O.1.map fun i=>natV i.1)::Γ) w':=by
 have hw:w.heap[b]? = some (.cells ((List.range (m+1)).map natV).toArray el (0,0)):=ho.sat (.own b el _) (by simp)
 have hlt:b < w.heap.size:=(Array.getElem?_eq_some_iff.1 hw).1
 obtain ⟨enc,henc⟩:∃ enc:Fin (m+1)→Value,enc=fun i=>natV i.1:=⟨_,rfl⟩
 obtain ⟨d,hd⟩:∃ d:Array (Fin (m+1)),d=(List.finRange (m+1)).toArray:=⟨_,rfl⟩
 have hds:d.size=m+1:=by rw [hd]; simp
 have hdg:∀ j,j < m+1→enc d[j]! = natV j:=by
  intro j hj
  rw [henc,hd]
  simp [hj]
 have hH:Holds enc w b 0 d:=by
  intro j hj
  rw [hds] at hj
  rw [hdg j hj]
  constructor
  ·rw [Nat.zero_add,cell_of_row w b j _ el _ hw]
   simp [hj]
  ·simp [World.frozen?,hw]
 have h1:Go.Proofs.OneCell enc:=fun x=>by rw [henc]; rfl
 have hcmp:Go.Proofs.CmpLays1 P g ⟨caps⟩ enc cf b 0 d.size w:=by
  intro q os dk hdk x y
  have hold:∀ k,k < w.heap.size→k≠b→(Go.Proofs.sortWorld enc w b 0 q dk os).heap[k]? = w.heap[k]?:=by
   intro k hk hkb
   unfold Go.Proofs.sortWorld
   rw [heap_grow_old]
   ·simp [Go.Sort.putRow,Go.Sort.mapBlock,Array.getElem?_modify,Ne.symm hkb,Go.Sort.ahead]
   ·simp [Go.Sort.putRow,Go.Sort.mapBlock,Go.Sort.ahead]; exact hk
  have hx:=hc (Go.Proofs.sortWorld enc w b 0 q dk os) (fun A hA=>by
   have hA2:=A.within _ _ hA
   refine A.mono _ _ _ (fun k hk=>hk.1) (A.frame _ _ _ (fun k hk=>?_) hA2)
   exact hold k hk.2 (fun e=>hk.1.2 (.own b el ((List.range (m+1)).map natV)) (by simp) e)) x y
  have e1:(#[enc x,enc y]++(⟨caps⟩:Array Value))=⟨[natV x.1,natV y.1]++caps⟩:=by rw [henc]; apply Array.ext'; simp
  rw [e1]
  refine Calls.mono hx ?_
  rintro e w' ⟨_,he,hb,_⟩
  exact ⟨he,Xk0 (dr:=⟨True⟩) trivial hb⟩
 have hs:=Go.Proofs.Any.slices_SortFunc Ly enc h1 cf hO g ⟨caps⟩ b 0 c d w eg.ok hcmp hH hlt (by rw [hds]; omega)
 rw [hds] at hs
 refine Calls.mono hs ?_
 rintro x w' ⟨hx,d',q,os,hp,hsrt,rfl⟩
 obtain ⟨hp1,_,hp3⟩:=hp
 have hd's:d'.size=m+1:=by rw [hp1,hds]
 have hperm:d'.toList.Perm (List.finRange (m+1)):=by
  have e1:(d'.extract 0 (m+1)).toList=d'.toList:=by rw [Array.extract_eq_self_of_le (by omega)]
  have e2:(d.extract 0 (m+1)).toList=d.toList:=by rw [Array.extract_eq_self_of_le (by omega)]
  rw [e1,e2] at hp3
  rw [hd] at hp3
  exact hp3
 have hpair:d'.toList.Pairwise (fun i j=>Go.Proofs.ltOf cf j i=false):=by
  rw [List.pairwise_iff_getElem]
  intro i j hi hj hij
  have hi':i < d'.size:=by simpa using hi
  have hj':j < d'.size:=by simpa using hj
  have:=hsrt i j (Nat.zero_le _) hij (by omega)
  rw [getElem!_pos d' j hj',getElem!_pos d' i hi'] at this
  simpa using this
 refine ⟨⟨d'.toList,hperm,hpair⟩,hx,?_⟩
 have hrow:(Go.Sort.putRow enc (Go.Sort.ahead w q) b 0 d').heap[b]? = some (.cells (d'.toList.map fun i=>natV i.1).toArray el (0,0)):=by
  have:(Go.Sort.ahead w q).heap[b]? = some (.cells ((List.range (m+1)).map natV).toArray el (0,0)):=hw
  simp only [Go.Sort.putRow,Go.Sort.mapBlock,Array.getElem?_modify,this]
  simp only [if_true,Option.map_some,Go.Sort.onCells]
  congr 2
  apply Array.ext_getElem?
  intro k
  simp only [Go.Sort.putCells,Array.getElem?_mapIdx]
  by_cases hk:k < m+1
  ·have hk':k < d'.size:=by omega
   simp [hk,hk',henc]
  ·have hk':¬ k < d'.size:=by omega
   simp [hk,hk']
 have h2:Hold w0 F (.own b el (d'.toList.map fun i=>natV i.1)::Γ) (Go.Sort.putRow enc (Go.Sort.ahead w q) b 0 d') :=
  ho.swap (b:=b) (fun _=>Iff.rfl) (fun _=>Iff.rfl) rfl rfl rfl (by simp [Go.Sort.putRow,Go.Sort.mapBlock,Go.Sort.ahead])
   (fun k hk=>by simp [Go.Sort.putRow,Go.Sort.mapBlock,Array.getElem?_modify,Ne.symm hk,Go.Sort.ahead]) hrow (hdr:=Nat.le_add_right _ _)
 exact h2.of_below ⟨rfl,rfl,rfl,by simp [Go.Proofs.sortWorld,grow,Go.Sort.putRow,Go.Sort.mapBlock,Go.Sort.ahead],fun k hk=>heap_grow_old _ _ hk,fun _=>Nat.le_refl _⟩
abbrev X1e (cf:Nat→Nat→Int) (n:Nat):={ O:List Nat // O.Perm (List.range n)∧O.Pairwise (fun i j=>¬ cf j i < 0) }
theorem Xto [Dr] {P:Program} {ρ:Ren} (Ly:Go.Proofs.SlLaysF.n6 P ρ) (cf:Nat→Nat→Int) (hO:SWO (Go.Proofs.ltOf cf)) (g:FuncId) (caps:List Value) [eg:Body P g] {w0 w:World} {F:Nat→Prop} {Γ:List Fact} {b c n:Nat} {el:TypeId}
  (hm:n≤1000000) (ho:Hold w0 F (.own b el ((List.range n).map natV)::Γ) w)
  (hc:∀ W:World,(∀ A:Asn,A.holds (fp w0 F (.own b el ((List.range n).map natV)::Γ)) w→A.holds (fp w0 F (.own b el ((List.range n).map natV)::Γ)) W) →
   ∀ x y:Nat,x < n→y < n→@GivesV ⟨True⟩ P g ([natV x,natV y]++caps) W (fp w0 F (.own b el ((List.range n).map natV)::Γ)) (.int .i64 (cf x y))) :
  Calls P (ρ.f 6) ⟨[.slice (some ⟨b,0,none⟩) n c, .func (.func g) ⟨[]⟩ ⟨caps⟩]⟩ w fun x w'=>∃ O:X1e cf n,x = .returned (.tuple ⟨[]⟩)∧Hold w0 F (.own b el (O.1.map natV)::Γ) w':=by
 cases n with
 | zero =>
  refine Calls.mono (Go.Proofs.AnyF.slices_SortFunc_none (P:=P) (ρ:=ρ) { Ly with } (some ⟨b,0,none⟩) c _ w) ?_
  rintro x w' ⟨hx,rfl⟩
  exact ⟨⟨[],by simp,by simp⟩,hx,ho⟩
 | succ m =>
  have:=Xqx Ly (m:=m) (c:=c) (fun x y=>cf x.1 y.1) ⟨fun x=>hO.irrefl x.1,fun x y z h1 h2=>hO.trans x.1 y.1 z.1 h1 h2,fun x y z h1 h2=>hO.ntrans x.1 y.1 z.1 h1 h2⟩ g caps (by omega) ho (fun W hW x y=>hc W hW x.1 y.1 x.2 y.2)
  refine Calls.mono this ?_
  rintro x w' ⟨O,hx,hO'⟩
  refine ⟨⟨O.1.map (·.1),?_,?_⟩,hx,by rw [List.map_map]; exact hO'⟩
  ·have:=O.2.1.map (·.1)
   have e:(List.finRange (m+1)).map (fun x=>x.1)=List.range (m+1):=by
    apply List.ext_getElem
    ·simp
    ·intro i h1 h2; simp
   rwa [e] at this
  ·rw [List.pairwise_map]
   refine O.2.2.imp ?_
   intro i j h
   simpa [Go.Proofs.ltOf] using h
end
def Xqy:Go.Shelf.Ren:=⟨fun | 6=>60 | 14=>121 | 15=>122 | 20=>181 | 21=>182 | 22=>183 | 23=>184 | 24=>185 | 25=>186 | 26=>187 | 27=>188 | 28=>189 | 29=>190 | 46=>242 | 47=>243 | 48=>244 | 49=>245 | 50=>246 | 57=>301 | n=>n,fun | 22=>48 | 24=>3 | 25=>108 | 39=>175 | 45=>225 | 46=>226 | 50=>230 | 53=>195 | 55=>192 | 66=>274 | 70=>278 | 76=>317 | 77=>318 | n=>n,fun | n=>n⟩
open Go.Shelf Go.Proofs in
theorem X1f:SlLaysF.n6 prog Xqy where
 mixed:=by kernel_rfl
 f6:=⟨ "slices.SortFunc[[]int,int]", by decide,func60.trans (congrArg some (by kernel_rfl))⟩
 f14:=⟨ "slices.pdqsortCmpFunc[int]", by decide,func121.trans (congrArg some (by kernel_rfl))⟩
 f15:=func122.trans (congrArg some (by kernel_rfl))
 f20:=⟨ "slices.insertionSortCmpFunc[int]", by decide,func181.trans (congrArg some (by kernel_rfl))⟩
 f21:=⟨ "slices.heapSortCmpFunc[int]", by decide,func182.trans (congrArg some (by kernel_rfl))⟩
 f22:=⟨ "slices.breakPatternsCmpFunc[int]", by decide,func183.trans (congrArg some (by kernel_rfl))⟩
 f23:=⟨ "slices.choosePivotCmpFunc[int]", by decide,func184.trans (congrArg some (by kernel_rfl))⟩
 f24:=⟨ "slices.reverseRangeCmpFunc[int]", by decide,func185.trans (congrArg some (by kernel_rfl))⟩
 f25:=⟨ "slices.partialInsertionSortCmpFunc[int]", by decide,func186.trans (congrArg some (by kernel_rfl))⟩
 f26:=⟨ "slices.partitionEqualCmpFunc[int]", by decide,func187.trans (congrArg some (by kernel_rfl))⟩
 f27:=⟨ "slices.partitionCmpFunc[int]", by decide,func188.trans (congrArg some (by kernel_rfl))⟩
 f28:=func189.trans (congrArg some (by kernel_rfl))
 f29:=func190.trans (congrArg some (by kernel_rfl))
 f46:=⟨ "slices.siftDownCmpFunc[int]", by decide,func242.trans (congrArg some (by kernel_rfl))⟩
 f47:=func243.trans (congrArg some (by kernel_rfl))
 f48:=func244.trans (congrArg some (by kernel_rfl))
 f49:=⟨ "slices.medianAdjacentCmpFunc[int]", by decide,func245.trans (congrArg some (by kernel_rfl))⟩
 f50:=⟨ "slices.medianCmpFunc[int]", by decide,func246.trans (congrArg some (by kernel_rfl))⟩
 f57:=⟨ "slices.order2CmpFunc[int]", by decide,func301.trans (congrArg some (by kernel_rfl))⟩
 t0:=underlying0
 a0:=Tryz.isAgg0
 z0:=Tryz.sizeOf0
 v0:=Tryz.zeroValue0
 t3:=underlying3
 a3:=Tryz.isAgg3
 z3:=Tryz.sizeOf3
 v3:=Tryz.zeroValue3
 t4:=underlying4
 a4:=Tryz.isAgg4
 z4:=Tryz.sizeOf4
 v4:=Tryz.zeroValue4
 t5:=underlying5
 a5:=Tryz.isAgg5
 z5:=Tryz.sizeOf5
 v5:=Tryz.zeroValue5
 t9:=underlying9
 a9:=Tryz.isAgg9
 z9:=Tryz.sizeOf9
 v9:=Tryz.zeroValue9
 t22:=underlying48
 a22:=Tryz.isAgg48
 z22:=Tryz.sizeOf48
 v22:=Tryz.zeroValue48
 a24:=Tryz.isAgg3
 z24:=Tryz.sizeOf3
 t25:=underlying108
 a25:=Tryz.isAgg108
 z25:=Tryz.sizeOf108
 v25:=Tryz.zeroValue108
 t39:=underlying175
 a39:=Tryz.isAgg175
 z39:=Tryz.sizeOf175
 v39:=Tryz.zeroValue175
 t45:=underlying225
 a45:=Tryz.isAgg225
 z45:=Tryz.sizeOf225
 v45:=Tryz.zeroValue225
 t46:=underlying226
 a46:=Tryz.isAgg226
 z46:=Tryz.sizeOf226
 v46:=Tryz.zeroValue226
 t50:=underlying230
 a50:=Tryz.isAgg230
 z50:=Tryz.sizeOf230
 v50:=Tryz.zeroValue230
 t53:=underlying195
 a53:=Tryz.isAgg195
 z53:=Tryz.sizeOf195
 v53:=Tryz.zeroValue195
 t55:=underlying192
 a55:=Tryz.isAgg192
 z55:=Tryz.sizeOf192
 v55:=Tryz.zeroValue192
 t66:=underlying274
 a66:=Tryz.isAgg274
 z66:=Tryz.sizeOf274
 v66:=Tryz.zeroValue274
 t70:=underlying278
 a70:=Tryz.isAgg278
 z70:=Tryz.sizeOf278
 v70:=Tryz.zeroValue278
 t76:=underlying317
 a76:=Tryz.isAgg317
 z76:=Tryz.sizeOf317
 v76:=Tryz.zeroValue317
 t77:=underlying318
 a77:=Tryz.isAgg318
 z77:=Tryz.sizeOf318
 v77:=Tryz.zeroValue318
section
attribute [local irreducible] JC JO JR JQ andThen inBlock OpV Gives Xae JM JS
section
attribute [local irreducible] ents Xat Xa3
theorem X1g {R:List Row} (hb:BuiltR (grOf R)):evG R=true↔∀ c∈Xao (grOf R),∀ d∈Xao (grOf R),evOk (Xao (grOf R)) c d:=by
 have hk:∀ r∈R,∀ x,x∈r.1.2↔Xb0 (Xao (grOf R)) (idC r.1.1) x:=by
  intro r hr x
  have hg:r.1∈grOf R:=List.mem_map.2 ⟨r,hr,rfl⟩
  have h1:=Xh8 hb.nodup hg
  rw [← h1]
  exact hb.known _ (Xas.2 ⟨r.1.1,by rw [Xhj]; exact List.mem_map.2 ⟨r,hr,rfl⟩,rfl⟩) x
 have hn:∀ c,c∈Xao (grOf R)↔∃ r∈R,r.1.1=c:=fun c=>by rw [Xhj]; exact List.mem_map
 have key:∀ r∈R,∀ s∈R,Xe0 r s=false↔evOk (Xao (grOf R)) r.1.1 s.1.1:=by
  intro r hr s hs
  unfold Xe0 evOk
  have:=hk r hr (idC s.1.1)
  rw [← this]
  by_cases h1:idC r.1.1=idC s.1.1
  ·simp [h1]
  by_cases h2:r.1.1.ev.node=s.1.1.ev.node
  ·simp [h1,h2]
  ·simp [h2]
 rw [evG,List.all_eq_true]
 simp only [List.all_eq_true,Bool.not_eq_true']
 constructor
 ·intro h c hc d hd
  obtain ⟨r,hr,rfl⟩:=(hn c).1 hc
  obtain ⟨s,hs,rfl⟩:=(hn d).1 hd
  exact (key r hr s hs).1 (h r hr s hs)
 ·intro h r hr s hs
  exact (key r hr s hs).2 (h _ ((hn _).2 ⟨r,hr,rfl⟩) _ ((hn _).2 ⟨s,hs,rfl⟩))
structure OfR where
 bo:Nat
 bk:Nat
 R:List Row
 I:List ID
 p:Option Addr
 q:Nat
 b:Bool
structure OfOk (L:List Commit) (y:OfR):Prop where
 iff:y.b=true↔Closed L
 len:y.I.length≤L.length
 ids:y.b=true→y.I=cids L
 built:y.b=true→Built (grOf y.R)
 perm:y.b=true→(Xao (grOf y.R)).Perm L
 nodup:y.b=true→∀ r∈y.R,r.1.2.Nodup
abbrev OfY (L:List Commit):={ y:OfR // OfOk L y }
abbrev ofV {L:List Commit} (y:OfY L):Value:=.tuple ⟨[.agg ⟨[.map (some y.1.bo), .map (some y.1.bk)]⟩, .slice y.1.p y.1.I.length y.1.q, .bool y.1.b]⟩
abbrev ofB {L:List Commit} (y:OfY L):List Fact:=if y.1.b=true then [.st (rmap y.1.bo (ents idV (ofM y.1.R)) (ofM y.1.R).length), .st (rmap y.1.bk (ents idV (knM y.1.R)) (knM y.1.R).length), .st (Xa3 y.1.R), .st (sl y.1.p y.1.q y.1.I)] else [.st (sl y.1.p y.1.q y.1.I)]
theorem Xnr {L:List Commit} {bo bk q:Nat} {R:List Row} {I:List ID} {p:Option Addr} (h:¬ Closed L) (hl:I.length≤L.length):OfOk L ⟨bo,bk,R,I,p,q,false⟩ :=
 ⟨⟨fun h=>Bool.noConfusion h,fun h'=>(h h').elim⟩,hl,fun h=>Bool.noConfusion h,fun h=>Bool.noConfusion h,fun h=>Bool.noConfusion h,fun h=>Bool.noConfusion h⟩
def genC (L:List Commit) (i:Nat):Int:=(L.getD i commit0).gen
def byO (L:List Commit) (O:List Nat):List Commit:=O.map fun i=>L.getD i commit0
theorem Xyz {L:List Commit} {O:List Nat} (h:O.Perm (List.range L.length)):(byO L O).Perm L:=by
 have h1:=h.map (fun i=>L.getD i commit0)
 have e:(List.range L.length).map (fun i=>L.getD i commit0)=L:=by
  apply List.ext_getElem
  ·simp
  ·intro i h1 h2; simp [List.getD_eq_getElem?_getD,h2]
 rwa [e] at h1
theorem Xwd (a b:Int):cmpI a b < 0↔a < b:=by
 unfold cmpI
 split
 ·simp [*]
 ·split <;> simp [*]
theorem X1h (L:List Commit):Go.Sort.SWO (Go.Proofs.ltOf fun i j=>cmpI (genC L i) (genC L j)):=by
 have h:∀ i j,Go.Proofs.ltOf (fun i j=>cmpI (genC L i) (genC L j)) i j=decide (genC L i < genC L j):=fun i j=>by
  simp only [Go.Proofs.ltOf,Xwd]
 refine ⟨fun x=>?_,fun x y z=>?_,fun x y z=>?_⟩
 ·rw [h]; simp
 ·rw [h,h,h]; simp only [decide_eq_true_eq]; omega
 ·rw [h,h,h]; simp only [decide_eq_false_iff_not]; omega
theorem Xpd {w0 w:World} {F:Nat→Prop} {Γ:List Fact} {b c el bl k:Nat} {a:Option Addr} {L:List Commit} (hl:L.length≤1000000)
  (ho:Hold w0 F (.own b el ((List.range L.length).map natV)::.st (ro bl 0 [.slice a L.length k])::.st (sl a k L)::Γ) w) :
  Calls prog 60 ⟨[.slice (some ⟨b,0,none⟩) L.length c, .func (.func 118) ⟨[]⟩ ⟨[.pointer (some ⟨bl,0,none⟩)]⟩]⟩ w fun x w' =>
   ∃ O:X1e (fun i j=>cmpI (genC L i) (genC L j)) L.length,x = .returned (.tuple ⟨[]⟩)∧Hold w0 F (.own b el (O.1.map natV)::.st (ro bl 0 [.slice a L.length k])::.st (sl a k L)::Γ) w':=by
 refine Xto X1f _ (X1h L) _ _ hl ho (fun W hW x y hx hy=>?_)
 have h1:=hW (sl a k L) (ho.get (A:=sl a k L))
 have h2:=hW (ro bl 0 [.slice a L.length k]) (ho.get (A:=ro bl 0 [.slice a L.length k]))
 have:=@X0q ⟨True⟩ W _ a k bl L x y hx hy h1 h2
 simpa [genC,List.getD_eq_getElem?_getD,hx,hy] using this
theorem X1i {c:Commit} (h:may c=true):1≤c.gen∧c.gen≤1048576:=by
 unfold may at h
 split at h
 ·cases h
 ·rename_i hn
  simp only [Bool.or_eq_true,Bool.not_eq_true',not_or,Bool.not_eq_false,inB,Bool.and_eq_true,decide_eq_true_eq] at hn
  exact hn.1.1.1
end
section
attribute [local irreducible] JN
section
attribute [local irreducible] ents Xat Xa3
theorem Xwe (a:Option Addr) (k:Nat) (L:List Commit) (h:(sl a k L).holds F w) (hl:L.length≤1000000) (hf:∀ x∈L,fine x) :
  Gives prog 59 [.slice a L.length k] w F (fun y:OfY L=>ofV y) (fun y=>ofB y):=by
 refine Xaa func59 rfl ntmps59 rfl rfl [.st (sl a k L)] (.start1 h) ?_
 (repeat (refine wE ?_; intro _)); refine wA ?_
 rename_i b1 b2
 refine JR.makeMap idV rfl ?_
 intro bo
 refine We rfl ?_
 refine JR.makeMap idV rfl ?_
 intro bk
 refine We rfl ?_
 refine Wf (OpV.build [.map (some bo), .map (some bk)] (by kernel_rfl)) rfl ?_
 (repeat (refine wE ?_; intro _)); refine wA ?_
 rename_i b5
 refine JR.pubOwn b1 ?_
 refine JR.callSl rfl (fun w1 hw=>Xv7 w1 _ a k L hw.get (by omega) hf) ?_
 intro p q
 refine wA ?_
 refine JC.test (fun hne=>?_) (fun heq=>?_)
 ·have hno:¬ Closed L:=fun hc=>hne (by rw [Xji hc.may]; simp [cids])
  refine wz9 ?_
  exact CT.done (Y:=OfY L) ⟨⟨bo,bk,[],[],none,0,false⟩,Xnr hno (Nat.zero_le _)⟩ rfl (fun w ho=>(Hold.add (A:=sl (α:=ID) none 0 []) (ho.ent:Hold _ _ [] w) Xau))
 ·have hmay:∀ c∈L,may c=true:=by
   intro c hc
   rw [← Bool.not_eq_false]
   intro hn
   have h1:(idsP L).length=L.length:=by omega
   rw [Xr1 hc hn,List.length_nil] at h1
   have:=List.length_pos_of_mem hc
   omega
  have hids:=Xji hmay
  have hcl:(cids L).length=L.length:=Xcu L
  refine wA ?_
  refine Xp4 rfl rfl (by omega) ?_
  intro bO
  refine wz4 ?_
  rw [hids]
  refine JC.more (Γ':=.own bO 3 ((List.replicate L.length 0).map natV)::.own b2 103 [.map none, .map none]::.own b5 103 [.map (some bo), .map (some bk)]::.omap bo (ents idV ([]:List (ID × Value))) ([]:List (ID × Value)).length::.omap bk (ents idV ([]:List (ID × Value))) ([]:List (ID × Value)).length::.st (Xa3 [])::.st (ro b1 0 [.slice a L.length k])::.st (sl a k L)::.st (sl p q (cids L))::[]) (fun w1 ho=>(ho.add (A:=Xa3 []) Xwa).ent) ?_
  refine Xaj (fun (i:Nat)=>[(1, .pointer (some ⟨b1,0,none⟩)),(2, .pointer (some ⟨b2,0,none⟩)),(5, .pointer (some ⟨b5,0,none⟩)),(6, .slice p (cids L).length q),(7, .slice (some ⟨bO,0,none⟩) L.length L.length),(28, .int .i64 (L.length:Int)),(29, .int .i64 (i:Int))])
   (fun i=>.own bO 3 ((List.range i++List.replicate (L.length - i) 0).map natV)::.own b2 103 [.map none, .map none]::.own b5 103 [.map (some bo), .map (some bk)]::.omap bo (ents idV ([]:List (ID × Value))) ([]:List (ID × Value)).length::.omap bk (ents idV ([]:List (ID × Value))) ([]:List (ID × Value)).length::.st (Xa3 [])::.st (ro b1 0 [.slice a L.length k])::.st (sl a k L)::.st (sl p q (cids L))::[])
   (fun i=>i≤L.length) (fun i=>L.length - i) 0 (Nat.zero_le _) (by rw [List.range_zero,List.nil_append,Nat.sub_zero]; infer_instance) ?_
  intro i hi
  refine wz11 ?_
  refine JC.test (fun hlt=>?_) (fun hge=>?_)
  ·have hlt':i < L.length:=by omega
   have e:(List.range i++List.replicate (L.length - i) 0).set i i=List.range (i+1)++List.replicate (L.length - (i+1)) 0:=by
    obtain ⟨m,hm⟩:∃ m,L.length - i=m+1:=⟨L.length - i - 1,by omega⟩
    rw [hm,List.replicate_succ,List.set_append_right _ _ (by simp),List.length_range,Nat.sub_self,List.set_cons_zero,List.range_succ,List.append_assoc,show L.length - (i+1)=m by omega]
    rfl
   refine wz7 ?_
   refine Wf (Xdj (k:=i) hlt') rfl ?_
   refine We rfl ?_
   refine Xfn (f:=natV) i i (by simp; omega) (by omega) rfl ?_
   rw [e]
   refine wz2 ?_
   exact ⟨i+1,by omega,by omega,iI⟩
  obtain rfl:i=L.length:=by omega
  rw [show List.range L.length++List.replicate (L.length - L.length) 0=List.range L.length by simp]
  refine wA ?_
  refine Xax (v:=fun _:X1e (fun i j=>cmpI (genC L i) (genC L j)) L.length=>.tuple ⟨[]⟩) rfl (fun w1 hw=>Xpd (el:=3) (a:=a) (k:=k) (bl:=b1) (Γ:=.own b2 103 [.map none, .map none]::.own b5 103 [.map (some bo), .map (some bk)]::.omap bo (ents idV ([]:List (ID × Value))) ([]:List (ID × Value)).length::.omap bk (ents idV ([]:List (ID × Value))) ([]:List (ID × Value)).length::.st (Xa3 [])::.st (sl p q (cids L))::[]) hl hw.ent) ?_
  rintro ⟨O,hO1,hO2⟩
  dsimp only
  have hOl:O.length=L.length:=by rw [hO1.length_eq,List.length_range]
  obtain ⟨Lo,hLo⟩:∃ Lo,Lo=byO L O:=⟨_,rfl⟩
  have hLp:Lo.Perm L:=hLo ▸ Xyz hO1
  have hLl:Lo.length=L.length:=hLp.length_eq
  have hLs:Lo.Pairwise (fun c d=>c.gen≤d.gen):=by
   rw [hLo,byO,List.pairwise_map]
   refine hO2.imp ?_
   intro i j hij
   rw [Xwd] at hij
   simp only [genC] at hij
   omega
  refine wz4 ?_
  refine Xdt (fun (i:Nat) (R:List Row)=>[(1, .pointer (some ⟨b1,0,none⟩)),(2, .pointer (some ⟨b2,0,none⟩)),(5, .pointer (some ⟨b5,0,none⟩)),(6, .slice p (cids L).length q),(40, .slice (some ⟨bO,0,none⟩) L.length L.length),(41, .int .i64 (L.length:Int)),(42, .int .i64 (i:Int))])
   (fun i R=>.own bO 3 (O.map natV)::.own b2 103 [.map none, .map none]::.own b5 103 [.map (some bo), .map (some bk)]::.omap bo (ents idV (ofM R)) (ofM R).length::.omap bk (ents idV (knM R)) (knM R).length::.st (Xa3 R)::.st (ro b1 0 [.slice a L.length k])::.st (sl a k L)::.st (sl p q (cids L))::[])
   (fun i R=>i≤L.length∧Built (grOf R)∧Xao (grOf R)=Lo.take i∧∀ r∈R,r.1.2.Nodup) (fun i _=>L.length - i) 0 [] ⟨Nat.zero_le _, .nil,rfl,by simp⟩ (by rw [show ofM []=[] from rfl,show knM []=[] from rfl]; infer_instance) ?_
  intro i R ⟨hi,hB,hnd,hS⟩
  have hR:=hB.right
  have hgen:∀ r∈R,0≤r.1.1.gen∧r.1.1.gen≤1048576:=fun r hr=>by
   have h1:r.1.1∈Xao (grOf R):=by rw [Xhj]; exact List.mem_map.2 ⟨r,hr,rfl⟩
   rw [hnd] at h1
   have h2:=X1i (hmay _ (hLp.mem_iff.1 (List.mem_of_mem_take h1)))
   omega
  refine wz11 ?_
  refine JC.test (fun hlt=>?_) (fun hge=>?_)
  ·have hlt':i < L.length:=by omega
   have hiO:i < O.length:=by omega
   obtain ⟨j,hj⟩:∃ j,j=O[i]:=⟨_,rfl⟩
   have hjn:j < L.length:=by rw [hj]; exact List.mem_range.1 (hO1.mem_iff.1 (List.getElem_mem hiO))
   have hLi:i < Lo.length:=by omega
   have hLoi:Lo[i]=L[j]:=by
    subst hLo
    simp [byO,← hj,List.getD_eq_getElem?_getD,hjn]
   have hjm:L[j]∈L:=List.getElem_mem hjn
   have hxe:(cids L)[j]'(by omega)=idC L[j]:=Xjh L j (by omega)
   have hstep:Closed L→idC L[j]∉cids (Xao (grOf R))∧merge L[j]=false∧Xno (grOf R) L[j]=true∧Xrz (grOf R) L[j]=true:=fun hc=>by
    have:=(Closed.perm hLp.symm hc).step hLs hB hLi hnd
    rwa [hLoi] at this
   have hkO:((ofM R).map (·.1)).Nodup:=by rw [Xjj]; exact hR.nodup
   refine wz14 ?_
   refine Wf (Xdj (k:=i) (by omega)) rfl ?_
   refine We rfl ?_
   refine Wf (Xbh (f:=natV) i (by omega) (by omega) rfl) rfl ?_
   refine JO.reslot 45 (natV j) (by rw [hj]) ?_
   refine wz10 ?_
   refine Xg1 (L:=cids L) (.slice p (cids L).length q) j (by omega) ?_
   intro bi oi
   rw [hxe]
   by_cases hd:idC L[j]∈cids (Xao (grOf R))
   ·have hno:¬ Closed L:=fun hc=>(hstep hc).1 hd
    obtain ⟨r,hr,hre,hgo,hgk,hkn⟩:=Xr3 hR.nodup hd
    refine Xjb [.own b5 103 [.map (some bo), .map (some bk)], .omap bo (ents idV (ofM R)) (ofM R).length, .st (elA (.slice p (cids L).length q) j 32 bi oi), .st (ro bi oi (idc (idC L[j])))] mixed ?_
    refine JN.take 0 rfl (by kernel_rfl) rfl Vd rfl rfl ?_
    refine JN.take 1 rfl (by kernel_rfl) rfl Vc rfl rfl ?_
    refine JN.take 2 rfl (by kernel_rfl) rfl Va rfl rfl ?_
    refine JN.take 3 rfl (by kernel_rfl) rfl Va rfl rfl ?_
    refine JN.take 4 rfl (by kernel_rfl) rfl Ve rfl rfl ?_
    refine JN.take 5 rfl (by kernel_rfl) rfl Vc rfl rfl ?_
    refine JN.take 6 rfl (by kernel_rfl) rfl (Xbp (M:=ofM R) (v:=Xbk r.1.1 r.2.1 r.2.2.1) (is:=true) (idC L[j]) hkO (by rw [hgo]; rfl) (by rw [hgo]; rfl)) rfl rfl ?_
    refine JN.take 7 rfl (by kernel_rfl) rfl Va rfl rfl ?_
    refine JN.take 8 rfl (by kernel_rfl) rfl Vq rfl rfl ?_
    refine JN.take 9 rfl (by kernel_rfl) rfl Vq rfl rfl ?_
    refine JN.op 10 (by kernel_rfl) rfl rfl (Wg rfl (fun b11=>Wd ⟨rfl,iI,?_⟩))
    refine JN.op 11 (by kernel_rfl) rfl rfl (Wi (Wd ⟨rfl,iI,?_⟩))
    refine JN.op 12 (by kernel_rfl) rfl rfl (Wf Vb rfl (Wd ⟨rfl,iI,?_⟩))
    refine JN.nil (by kernel_rfl) ?_
    refine wz14 ?_
    refine Xbe mixed (by kernel_rfl) ?_
    refine wY ?_
    refine wA ?_
    exact CT.done (Y:=OfY L) ⟨⟨bo,bk,[],[],none,0,false⟩,Xnr hno (Nat.zero_le _)⟩ rfl (fun w ho=>(Hold.add (A:=sl (α:=ID) none 0 []) (ho.ent:Hold _ _ [] w) Xau))
   ·obtain ⟨hgo,hgk⟩:=Xnq hd
    refine Xjb [.own b5 103 [.map (some bo), .map (some bk)], .omap bo (ents idV (ofM R)) (ofM R).length, .st (elA (.slice p (cids L).length q) j 32 bi oi), .st (ro bi oi (idc (idC L[j])))] mixed ?_
    refine JN.take 0 rfl (by kernel_rfl) rfl Vd rfl rfl ?_
    refine JN.take 1 rfl (by kernel_rfl) rfl Vc rfl rfl ?_
    refine JN.take 2 rfl (by kernel_rfl) rfl Va rfl rfl ?_
    refine JN.take 3 rfl (by kernel_rfl) rfl Va rfl rfl ?_
    refine JN.take 4 rfl (by kernel_rfl) rfl Ve rfl rfl ?_
    refine JN.take 5 rfl (by kernel_rfl) rfl Vc rfl rfl ?_
    refine JN.take 6 rfl (by kernel_rfl) rfl (Xbp (M:=ofM R) (v:=.agg ⟨[.int .i64 0, .int .i64 0, .int .i64 0, .slice none 0 0, .int .i64 0, .string .empty, .string .empty, .int .i64 0]⟩) (is:=false) (idC L[j]) hkO (by rw [hgo]; rfl) (by rw [hgo]; rfl)) rfl rfl ?_
    refine JN.take 7 rfl (by kernel_rfl) rfl Va rfl rfl ?_
    refine JN.take 8 rfl (by kernel_rfl) rfl Vq rfl rfl ?_
    refine JN.take 9 rfl (by kernel_rfl) rfl Vq rfl rfl ?_
    refine JN.op 10 (by kernel_rfl) rfl rfl (Wg rfl (fun b11=>Wd ⟨rfl,iI,?_⟩))
    refine JN.op 11 (by kernel_rfl) rfl rfl (Wi (Wd ⟨rfl,iI,?_⟩))
    refine JN.op 12 (by kernel_rfl) rfl rfl (Wf Vb rfl (Wd ⟨rfl,iI,?_⟩))
    refine JN.nil (by kernel_rfl) ?_
    refine wz14 ?_
    refine Xe4 (L:=L) (.slice a L.length k) j hjn ?_
    intro bc oc pc qc
    have hfx:=hf _ hjm
    cases hmer:merge L[j] with
    | true =>
     have hno:¬ Closed L:=fun hc=>by have:=(hstep hc).2.1; rw [hmer] at this; cases this
     refine Xbe mixed (by kernel_rfl) ?_
     refine wQ ?_
     refine JQ.call rfl rfl (fun w1 hw=>Xir w1 _ (L[j]) pc qc hw.get hfx.1) ?_
     refine JQ.reslot 62 (.bool true) (by rw [hmer]) ?_
     refine wY ?_
     refine wA ?_
     exact CT.done (Y:=OfY L) ⟨⟨bo,bk,[],[],none,0,false⟩,Xnr hno (Nat.zero_le _)⟩ rfl (fun w ho=>(Hold.add (A:=sl (α:=ID) none 0 []) (ho.ent:Hold _ _ [] w) Xau))
    | false =>
     refine Xca 18 mixed ?_
     refine JM.tv 0 ?_
     refine JM.tv 1 ?_
     refine JM.tv 2 ?_
     refine JM.tv 3 ?_
     refine JM.tv 4 ?_
     refine JM.tv 5 ?_
     refine JM.takeCall 6 rfl (by kernel_rfl) rfl (fun w1 hw=>Xir w1 _ (L[j]) pc qc hw.get hfx.1) rfl rfl ?_
     refine JM.reslot 62 (.bool false) (by rw [hmer]) ?_
     refine JM.tv 7 ?_
     refine JM.tv 8 ?_
     refine JM.tv 9 ?_
     refine JM.tv 10 ?_
     refine JM.tv 11 ?_
     refine JM.tv 12 ?_
     refine JM.tv 13 ?_
     refine JM.tv 14 ?_
     refine JM.tv 15 ?_
     refine JM.tv 16 ?_
     refine JM.tv 17 ?_
     refine Xah 18 (by kernel_rfl) rfl rfl rfl (Xax (v:=fun y:AddY R L[j]=>.bool y.1.2.2) rfl (fun w1 hw=>Xwb (a:=pc) (k:=qc) (Γ:=.own bO 3 (O.map natV)::.own b2 103 [.map none, .map none]::.own b5 103 [.map (some bo), .map (some bk)]::.st (ro b1 0 [.slice a L.length k])::.st (sl a k L)::.st (sl p q (cids L))::[]) hR.nodup hS hd hgen hw.ent) (fun y=>?_))
     rcases y with ⟨⟨S,ba,ok⟩,hy1,hy2⟩
     dsimp only at hy1 hy2 ⊢
     cases ok with
     | false =>
      have hno:¬ Closed L:=fun hc=>by
       have:=hstep hc
       rw [this.2.2.1,this.2.2.2] at hy1; cases hy1
      rw [if_neg (by simp)]
      refine Wd ⟨rfl,?_⟩
      refine Xah 19 (by kernel_rfl) rfl rfl rfl (Wf Vh rfl (Wd ⟨rfl,?_⟩))
      refine Xah 20 (by kernel_rfl) rfl rfl rfl (Wf Vj rfl (Wd ⟨rfl,?_⟩))
      refine JM.nil (by kernel_rfl) ?_
      refine wA ?_
      exact CT.done (Y:=OfY L) ⟨⟨bo,bk,[],[],none,0,false⟩,Xnr hno (Nat.zero_le _)⟩ rfl (fun w ho=>(Hold.add (A:=sl (α:=ID) none 0 []) (ho.ent:Hold _ _ [] w) Xau))
     | true =>
      obtain ⟨hSn,hSk⟩:=hy2 rfl
      have hy1':=hy1.symm
      rw [Bool.and_eq_true] at hy1'
      rw [if_pos rfl]
      refine Wd ⟨rfl,?_⟩
      refine Xah 19 (by kernel_rfl) rfl rfl rfl (Wf Vh rfl (Wd ⟨rfl,?_⟩))
      refine Xah 20 (by kernel_rfl) rfl rfl rfl (Wf Vj rfl (Wd ⟨rfl,?_⟩))
      refine JM.nil (by kernel_rfl) ?_
      refine wz2 ?_
      refine ⟨i+1,R++[((L[j],S),(pc,qc,ba))],⟨by omega,?_,?_,fun r hr=>?_⟩,by omega,iI⟩
      ·rw [Xpa]; exact .snoc hB hd hmer hy1'.1 hy1'.2 hSk
      ·rw [Xpa,Xcz,hnd,List.take_succ_eq_append_getElem hLi,hLoi]
      ·rcases List.mem_append.1 hr with hr | hr
       ·exact hS r hr
       ·simp only [List.mem_singleton] at hr; subst hr; exact hSn
  ·obtain rfl:i=L.length:=by omega
   rw [List.take_of_length_le (by omega)] at hnd
   have hfin:Closed L↔evG R=true:=by
    rw [X1g hR]
    constructor
    ·intro hc c hcm d hdm
     rw [hnd] at hcm hdm ⊢
     exact (Closed.perm hLp.symm hc).ev c hcm d hdm
    ·intro he
     have:=hB.closed (fun c hc=>hmay c (by rw [hnd] at hc; exact hLp.mem_iff.1 hc)) he
     rw [hnd] at this
     exact Closed.perm hLp this
   refine JC.more (Γ':=.st (rmap bo (ents idV (ofM R)) (ofM R).length)::.st (rmap bk (ents idV (knM R)) (knM R).length)::.st (Xa3 R)::.own b2 103 [.map none, .map none]::.own b5 103 [.map (some bo), .map (some bk)]::.st (ro b1 0 [.slice a L.length k])::.st (sl a k L)::.st (sl p q (cids L))::[]) (fun w1 ho=>?_) ?_
   ·have h1:Hold _ _ (.omap bo (ents idV (ofM R)) (ofM R).length::.omap bk (ents idV (knM R)) (knM R).length::.st (Xa3 R)::.own b2 103 [.map none, .map none]::.own b5 103 [.map (some bo), .map (some bk)]::.st (ro b1 0 [.slice a L.length k])::.st (sl a k L)::.st (sl p q (cids L))::[]) w1:=ho.ent
    have h2:Hold _ _ (.omap bk (ents idV (knM R)) (knM R).length::.st (rmap bo (ents idV (ofM R)) (ofM R).length)::.st (Xa3 R)::.own b2 103 [.map none, .map none]::.own b5 103 [.map (some bo), .map (some bk)]::.st (ro b1 0 [.slice a L.length k])::.st (sl a k L)::.st (sl p q (cids L))::[]) w1:=(h1.pubMap).ent
    exact (h2.pubMap).ent
   refine wz3 ?_
   refine Xjb [.own b5 103 [.map (some bo), .map (some bk)]] mixed ?_
   refine JN.take 0 rfl (by kernel_rfl) rfl Vc rfl rfl ?_
   refine JN.take 1 rfl (by kernel_rfl) rfl Va rfl rfl ?_
   refine JN.take 2 rfl (by kernel_rfl) rfl Vc rfl rfl ?_
   refine JN.op 3 (by kernel_rfl) rfl rfl (JR.callV rfl (fun w1 hw=>Xpc w1 _ bo bk R hR.nodup hS hw.get hw.get hw.get) (Wd ⟨rfl,iI,?_⟩))
   refine JN.op 4 (by kernel_rfl) rfl rfl (Wi (Wd ⟨rfl,iI,?_⟩))
   refine JN.op 5 (by kernel_rfl) rfl rfl (Wf Vb rfl (Wd ⟨rfl,iI,?_⟩))
   refine JN.op 6 (by kernel_rfl) rfl rfl (Wf Vb rfl (Wd ⟨rfl,iI,?_⟩))
   refine JN.nil (by kernel_rfl) ?_
   refine wz13 ?_
   refine CT.done (Y:=OfY L) ⟨⟨bo,bk,R,cids L,p,q,evG R⟩,⟨hfin.symm,by show (cids L).length≤_; omega,fun _=>rfl,fun _=>hB,fun _=>by rw [hnd]; exact hLp,fun _=>hS⟩⟩ rfl (fun w ho=>?_)
   by_cases hev:evG R=true
   ·rw [ofB,if_pos hev]; exact ho.ent
   ·rw [ofB,if_neg hev]; exact ho.ent
end
end
section
attribute [local irreducible] ents Xat Xa3
theorem Xwf {L:List Commit} {bo bk q:Nat} {R:List Row} {I:List ID} {p:Option Addr} (hy:OfOk L ⟨bo,bk,R,I,p,q,true⟩) :
  ofB (L:=L) ⟨⟨bo,bk,R,I,p,q,true⟩,hy⟩=[.st (rmap bo (ents idV (ofM R)) (ofM R).length), .st (rmap bk (ents idV (knM R)) (knM R).length), .st (Xa3 R), .st (sl p q I)]:=if_pos rfl
theorem Xy0 {L:List Commit} {bo bk q:Nat} {R:List Row} {I:List ID} {p:Option Addr} (hy:OfOk L ⟨bo,bk,R,I,p,q,false⟩) :
  ofB (L:=L) ⟨⟨bo,bk,R,I,p,q,false⟩,hy⟩=[.st (sl p q I)]:=if_neg (by simp)
abbrev Xr4 (L:List Commit):={ b:Bool // b=true↔Closed L }
theorem Xh9 (a:Option Addr) (k:Nat) (L:List Commit) (h:(sl a k L).holds F w) (hl:L.length≤1000000) (hf:∀ x∈L,fine x) :
  Gives prog 17 [.slice a L.length k] w F (fun y:Xr4 L=>.bool y.1) (fun _=>[]):=by
 refine Xaa func17 rfl ntmps17 rfl rfl [.st (sl a k L)] (.start1 h) ?_
 refine wz10 ?_
 refine JR.call (v:=fun y:OfY L=>ofV y) rfl (fun w1 hw=>Xwe w1 _ a k L hw.get hl hf) ?_
 rintro ⟨⟨bo,bk,R,I,p,q,b⟩,hy⟩
 dsimp only [ofV]
 refine JO.more (Γ':=[]) (fun w1 ho=>ho.ent) ?_
 (repeat (refine wE ?_; intro _)); refine wA ?_
 exact Xab (Y:=Xr4 L) ⟨b,hy.iff⟩ rfl
theorem Xfz {α:Type} [DecidableEq α]:∀ (S L:List α),S.Nodup→(∀ x∈S,x∈L)→S.length≤L.length
 | [],_,_,_=>Nat.zero_le _
 | x::S,L,h,hs=>by
  have h1:=List.nodup_cons.1 h
  have:=Xfz S (L.erase x) h1.2 (fun y hy=>(List.mem_erase_of_ne (by intro e; subst e; exact h1.1 hy)).2 (hs y (by simp [hy])))
  have h2:=List.length_erase_of_mem (hs x (by simp))
  have h3:=List.length_pos_of_mem (hs x (by simp))
  simp only [List.length_cons]; omega
def Xtp (L:List Commit) (A:List ID) (x:ID):Prop:=x∈cids L∧(x∈A∨∃ y∈A,Xb0 L y x)
structure AncR (L:List Commit) (A M:List ID):Prop where
 sorted:M.Pairwise (fun x y=>idLt y x=false)
 nodup:M.Nodup
 mem:Closed L→∀ x,x∈M↔Xtp L A x
 not:¬ Closed L→M=[]
theorem AncR.unique {L:List Commit} {A M N:List ID} (h:AncR L A M) (k:AncR L A N):M=N:=by
 by_cases hc:Closed L
 ·exact Xe8 ((List.perm_ext_iff_of_nodup h.nodup k.nodup).2 fun x=>(h.mem hc x).trans (k.mem hc x).symm) h.sorted k.sorted
 ·rw [h.not hc,k.not hc]
abbrev AncY (L:List Commit) (A:List ID):={ y:List ID × Option Addr × Nat // AncR L A y.1 }
theorem X1j (a d:Option Addr) (k m:Nat) (L:List Commit) (A:List ID) (h:(sl a k L).holds F w) (h':(sl d m A).holds F w) (hl:L.length≤1000) (hA:A.length≤1000) (hf:∀ x∈L,fine x) :
  Gives prog 95 [.slice a L.length k, .slice d A.length m] w F (fun y:AncY L A=>.slice y.1.2.1 y.1.1.length y.1.2.2) (fun y=>[.st (sl y.1.2.1 y.1.2.2 y.1.1)]):=by
 refine Xaa func95 rfl ntmps95 rfl rfl [.st (sl a k L), .st (sl d m A)] (.start2 h h') ?_
 refine wz10 ?_
 refine JR.call (v:=fun y:OfY L=>ofV y) rfl (fun w1 hw=>Xwe w1 _ a k L hw.get (by omega) hf) ?_
 rintro ⟨⟨bo,bk,R,I,p,q,b⟩,hy⟩
 dsimp only [ofV]
 cases b with
 | false =>
  have hno:¬ Closed L:=fun hc=>by have:=hy.iff.2 hc; cases this
  refine JO.more (Γ':=[]) (fun w1 ho=>ho.ent) ?_
  (repeat (refine wE ?_; intro _)); refine wA ?_
  exact CT.done (Y:=AncY L A) ⟨([],none,0),⟨List.Pairwise.nil,List.nodup_nil,fun hc=>(hno hc).elim,fun _=>rfl⟩⟩ rfl (fun w ho=>(Hold.add (A:=sl (α:=ID) none 0 []) (ho.ent:Hold _ _ [] w) Xau))
 | true =>
  have hc:=hy.iff.1 rfl
  have hI:=hy.ids rfl
  have hB:=hy.built rfl
  have hP:=hy.perm rfl
  have hS:=hy.nodup rfl
  dsimp only at hI hB hP hS
  have hR:=hB.right
  have hkO:((ofM R).map (·.1)).Nodup:=by rw [Xjj]; exact hR.nodup
  have hkK:((knM R).map (·.1)).Nodup:=by rw [Xjk]; exact hR.nodup
  have hmem:∀ x,x∈cids (Xao (grOf R))↔x∈cids L:=fun x=>(Xec hP).mem_iff
  have hknow:Xb0 (Xao (grOf R))=Xb0 L:=Xmd hP
  refine JO.more (Γ':=[.st (rmap bo (ents idV (ofM R)) (ofM R).length), .st (rmap bk (ents idV (knM R)) (knM R).length), .st (Xa3 R), .st (sl a k L), .st (sl d m A)]) (fun w1 ho=>by rw [Xwf hy] at ho; simp only [List.cons_append,List.nil_append] at ho; exact ho.ent) ?_
  (repeat (refine wE ?_; intro _)); refine wA ?_
  rename_i b5
  refine JC.buf_nil (α:=ID) 72 ?_
  refine Xej (fun (i:Nat) (out:List ID) r s=>[(5, .pointer (some ⟨b5,0,none⟩)),(8, .slice r out.length s),(22, .slice d A.length m),(23, .int .i64 (A.length:Int)),(24, .int .i64 (i:Int))])
   (fun i out r s=>[.res (buf r s 72 out), .own b5 103 [.map (some bo), .map (some bk)], .st (rmap bo (ents idV (ofM R)) (ofM R).length), .st (rmap bk (ents idV (knM R)) (knM R).length), .st (Xa3 R), .st (sl a k L), .st (sl d m A)])
   (fun i out r s=>i≤A.length∧out.length≤i * 1001∧∀ x,x∈out↔∃ y∈A.take i,y∈cids L∧(x=y∨Xb0 L y x)) (fun i _ _ _=>A.length - i) 0 [] none 0 ⟨Nat.zero_le _,by simp,by simp⟩ iI ?_
  intro i out r s ⟨hi,hol,hom⟩
  refine wz11 ?_
  refine JC.test (fun hlt=>?_) (fun hge=>?_)
  ·have hlt':i < A.length:=by omega
   refine wz14 ?_
   refine Xbx rfl hlt' ?_
   intro bi oi
   (repeat (refine wE ?_; intro _)); refine wA ?_
   by_cases hd:A[i]∈cids (Xao (grOf R))
   ·obtain ⟨rw_,hr,hre,hgo,hgk,hkn⟩:=Xr3 hR.nodup hd
    have hSm:∀ x,x∈rw_.1.2↔Xb0 L A[i] x:=fun x=>by rw [← hkn,hR.known _ hd,hknow]
    have hSl:rw_.1.2.length≤1000:=by
     have:=Xfz rw_.1.2 (cids L) (hS rw_ hr) (fun x hx=>(Xfw ((hSm x).1 hx)).2)
     rw [Xcu] at this; omega
    refine Wf (Xbp (M:=ofM R) (v:=Xbk rw_.1.1 rw_.2.1 rw_.2.2.1) (is:=true) A[i] hkO (by rw [hgo]; rfl) (by rw [hgo]; rfl)) rfl ?_
    (repeat (refine wE ?_; intro _)); refine wA ?_
    refine Xap (u:=A[i]) rfl (by exact ⟨rfl,rfl,by decide⟩) (by omega) ?_
    intro r2 s2
    refine wz9 ?_
    refine Wf (Xay (M:=knM R) (v:=.map (some rw_.2.2.2)) A[i] hkK (by rw [hgk]; rfl)) rfl ?_
    refine JO.more (fun w1 ho=>ho.add (A:=rmap rw_.2.2.2 (ents idV (sety rw_.1.2)) rw_.1.2.length) (Xez (ho.get (A:=Xa3 R)) hr).2) ?_
    refine We rfl ?_
    refine Xj2 rfl ?_
    intro ri
    refine wz4 ?_
    refine Xej (fun (S:List Nat) (o2:List ID) r3 s3=>[(5, .pointer (some ⟨b5,0,none⟩)),(8, .slice r3 o2.length s3),(22, .slice d A.length m),(23, .int .i64 (A.length:Int)),(24, .int .i64 (i:Int)),(45, .pointer (some ⟨ri,0,none⟩))])
     (fun S o2 r3 s3=>[.res (buf r3 s3 72 o2), .obj ri (.mapIter (some rw_.2.2.2) rw_.1.2.length S.toArray rw_.1.2.length), .own b5 103 [.map (some bo), .map (some bk)], .st (rmap rw_.2.2.2 (ents idV (sety rw_.1.2)) rw_.1.2.length), .st (rmap bo (ents idV (ofM R)) (ofM R).length), .st (rmap bk (ents idV (knM R)) (knM R).length), .st (Xa3 R), .st (sl a k L), .st (sl d m A)])
     (fun S o2 _ _=>S.Nodup∧(∀ j∈S,j < rw_.1.2.length)∧o2.length=out.length+1+S.length∧∀ x,x∈o2↔x∈out∨x=A[i]∨∃ j∈S,rw_.1.2[j]? = some x)
     (fun S _ _ _=>rw_.1.2.length - S.length) [] (out++[A[i]]) r2 s2 ⟨List.nodup_nil,by simp,by simp,by simp⟩ iI ?_
    intro S o2 r3 s3 ⟨hS1,hS2,hlen,hmem2⟩
    have hSl2:S.length≤rw_.1.2.length:=Xcl hS1 hS2
    refine wz14 ?_
    refine Xmy rfl hS2 (fun hall=>?_) (fun j hj hjS=>?_)
    ·refine wA ?_
     refine ⟨i+1,o2,r3,s3,⟨by omega,by omega,fun x=>?_⟩,by omega,iI⟩
     rw [hmem2,hom]
     constructor
     ·rintro (⟨y,hy,hx⟩ | rfl | ⟨j,hj,hx⟩)
      ·exact ⟨y,(Xa2 hlt').2 (.inl hy),hx⟩
      ·exact ⟨A[i],(Xa2 hlt').2 (.inr rfl),(hmem _).1 hd, .inl rfl⟩
      ·exact ⟨A[i],(Xa2 hlt').2 (.inr rfl),(hmem _).1 hd, .inr ((hSm x).1 (List.mem_of_getElem? hx))⟩
     ·rintro ⟨y,hy,hyc,hx⟩
      rcases (Xa2 hlt').1 hy with hy | rfl
      ·exact .inl ⟨y,hy,hyc,hx⟩
      ·rcases hx with rfl | hx
       ·exact .inr (.inl rfl)
       ·obtain ⟨j,hj,hjx⟩:=List.getElem_of_mem ((hSm x).2 hx)
        exact .inr (.inr ⟨j,hall j hj,by rw [List.getElem?_eq_getElem hj,hjx]⟩)
    ·refine wA ?_
     refine Wf (Xhv hj) rfl ?_
     (repeat (refine wE ?_; intro _)); refine wA ?_
     have hS3:(S++[j]).Nodup:=List.nodup_append.2 ⟨hS1,by simp,fun x hx y hy=>by simp at hy; subst hy; exact fun e=>hjS (e ▸ hx)⟩
     have hS4:∀ i∈S++[j],i < rw_.1.2.length:=fun i hi=>by
      rcases List.mem_append.1 hi with hi | hi
      ·exact hS2 i hi
      ·simp at hi; subst hi; exact hj
     have hlt2:=Xcl hS3 hS4
     refine Xap (u:=rw_.1.2[j]) rfl (by exact ⟨rfl,rfl,by decide⟩) (by omega) ?_
     intro r4 s4
     refine wz2 ?_
     refine ⟨S++[j],o2++[rw_.1.2[j]],r4,s4,⟨hS3,hS4,by simp; omega,fun x=>?_⟩,by simp at hlt2 ⊢; omega,iI⟩
     rw [List.mem_append,hmem2,List.mem_singleton]
     constructor
     ·rintro ((h | h | ⟨y,hy,hx⟩) | rfl)
      ·exact .inl h
      ·exact .inr (.inl h)
      ·exact .inr (.inr ⟨y,by simp [hy],hx⟩)
      ·exact .inr (.inr ⟨j,by simp,List.getElem?_eq_getElem hj⟩)
     ·rintro (h | h | ⟨y,hy,hx⟩)
      ·exact .inl (.inl h)
      ·exact .inl (.inr (.inl h))
      ·rcases List.mem_append.1 hy with hy | hy
       ·exact .inl (.inr (.inr ⟨y,hy,hx⟩))
       ·simp at hy; subst hy
        rw [List.getElem?_eq_getElem hj] at hx
        injection hx with hx
        exact .inr hx.symm
   ·obtain ⟨hgo,hgk⟩:=Xnq hd
    refine Wf (Xbp (M:=ofM R) (v:=.agg ⟨[.int .i64 0, .int .i64 0, .int .i64 0, .slice none 0 0, .int .i64 0, .string .empty, .string .empty, .int .i64 0]⟩) (is:=false) A[i] hkO (by rw [hgo]; rfl) (by rw [hgo]; rfl)) rfl ?_
    (repeat (refine wE ?_; intro _)); refine wA ?_
    refine ⟨i+1,out,r,s,⟨by omega,Nat.le_trans hol (Nat.mul_le_mul_right 1001 (Nat.le_succ i)),fun x=>?_⟩,by omega,iI⟩
    rw [hom]
    constructor
    ·rintro ⟨y,hy,hx⟩; exact ⟨y,(Xa2 hlt').2 (.inl hy),hx⟩
    ·rintro ⟨y,hy,hyc,hx⟩
     rcases (Xa2 hlt').1 hy with hy | rfl
     ·exact ⟨y,hy,hyc,hx⟩
     ·exact (hd ((hmem _).2 hyc)).elim
  ·obtain rfl:i=A.length:=by omega
   rw [List.take_length] at hom
   refine JC.more (fun w1 ho=>ho.pub) ?_
   refine wz3 ?_
   refine JR.callBuf rfl (fun w1 hw=>Xr2 w1 _ r s out hw.get (by omega)) ?_
   intro p3 q3
   refine JO.more (fun w1 ho=>ho.pub) ?_
   refine wz10 ?_
   refine Xab (Y:=AncY L A) ⟨(Xcq (Xdw out),p3,q3),⟨Xb7 _,(Xcr _).nodup_iff.2 (Xcd _),fun _ x=>?_,fun hno=>(hno hc).elim⟩⟩ rfl
   rw [Xfq,Xev,hom,Xtp]
   constructor
   ·rintro ⟨y,hy,hyc,(rfl | hx)⟩
    ·exact ⟨hyc, .inl hy⟩
    ·exact ⟨(Xfw hx).2, .inr ⟨y,hy,hx⟩⟩
   ·rintro ⟨hx,(hxA | ⟨y,hy,hk⟩)⟩
    ·exact ⟨x,hxA,hx, .inl rfl⟩
    ·exact ⟨y,hy,(Xfw hk).1, .inr hk⟩
structure PartR (L:List Commit) (A:List ID) (M:List Commit):Prop where
 part:Closed L→M=L.filter (fun c=>decide (idC c∈A))
 not:¬ Closed L→M=[]
abbrev X1k (L:List Commit) (A:List ID):={ y:List Commit × Option Addr × Nat // PartR L A y.1 }
theorem Xr5 (a d:Option Addr) (k m:Nat) (L:List Commit) (A:List ID) (h:(sl a k L).holds F w) (h':(sl d m A).holds F w) (hl:L.length≤1000) (hf:∀ x∈L,fine x) :
  Gives prog 94 [.slice a L.length k, .slice d A.length m] w F (fun y:X1k L A=>.slice y.1.2.1 y.1.1.length y.1.2.2) (fun y=>[.st (sl y.1.2.1 y.1.2.2 y.1.1)]):=by
 refine Xaa func94 rfl ntmps94 rfl rfl [.st (sl a k L), .st (sl d m A)] (.start2 h h') ?_
 refine wz10 ?_
 refine JR.call (v:=fun y:OfY L=>ofV y) rfl (fun w1 hw=>Xwe w1 _ a k L hw.get (by omega) hf) ?_
 rintro ⟨⟨bo,bk,R,I,p,q,b⟩,hy⟩
 dsimp only [ofV]
 have hIl:I.length≤L.length:=hy.len
 refine JO.more (Γ':=[.st (sl p q I), .st (sl a k L), .st (sl d m A)]) (fun w1 ho=>by
  cases b with
  | false=>rw [Xy0 hy] at ho; simp only [List.cons_append,List.nil_append] at ho; exact ho.ent
  | true=>rw [Xwf hy] at ho; simp only [List.cons_append,List.nil_append] at ho; exact ho.ent) ?_
 (repeat (refine wE ?_; intro _)); refine wA ?_
 refine JC.buf_nil (α:=Commit) 31 ?_
 cases b with
 | false =>
  have hno:¬ Closed L:=fun hc=>by have:=hy.iff.2 hc; cases this
  refine Xaj (fun (i:Nat)=>[(0, .slice a L.length k),(1, .slice d A.length m),(6, .slice p I.length q),(7, .bool false),(8, .slice none 0 0),(17, .int .i64 (I.length:Int)),(18, .int .i64 (i:Int))])
   (fun i=>[.st (sl p q I), .st (sl a k L), .st (sl d m A)]) (fun i=>i≤I.length) (fun i=>I.length - i) 0 (Nat.zero_le _) iI ?_
  intro i hi
  refine wz11 ?_
  refine JC.test (fun hlt=>?_) (fun hge=>?_)
  ·refine wX ?_
   exact ⟨i+1,by omega,by omega,iI⟩
  ·refine wz3 ?_
   exact CT.done (Y:=X1k L A) ⟨([],none,0),⟨fun hc=>(hno hc).elim,fun _=>rfl⟩⟩ rfl (fun w ho=>(Hold.add (A:=sl (α:=Commit) none 0 []) (ho.ent:Hold _ _ [] w) Xau))
 | true =>
  have hc:=hy.iff.1 rfl
  have hI:I=cids L:=hy.ids rfl
  subst hI
  have hcl:(cids L).length=L.length:=Xcu L
  refine Xej (fun (i:Nat) (out:List Commit) r s=>[(0, .slice a L.length k),(1, .slice d A.length m),(6, .slice p (cids L).length q),(7, .bool true),(8, .slice r out.length s),(17, .int .i64 ((cids L).length:Int)),(18, .int .i64 (i:Int))])
   (fun i out r s=>[.res (buf r s 31 out), .st (sl p q (cids L)), .st (sl a k L), .st (sl d m A)]) (fun i out _ _=>i≤L.length∧out.length≤i∧out=(L.take i).filter (fun c=>decide (idC c∈A))) (fun i _ _ _=>L.length - i) 0 [] none 0 ⟨Nat.zero_le _,by simp,by simp⟩ iI ?_
  intro i out r s ⟨hi,hol,hout⟩
  refine wz11 ?_
  refine JC.test (fun hlt=>?_) (fun hge=>?_)
  ·have hlt':i < L.length:=by omega
   have hxe:(cids L)[i]'(by omega)=idC L[i]:=Xjh L i (by omega)
   have hfx:=hf _ (List.getElem_mem hlt')
   have hnx:(L.take (i+1)).filter (fun c=>decide (idC c∈A))=out++(if idC L[i]∈A then [L[i]] else []):=by
    rw [List.take_succ_eq_append_getElem hlt',List.filter_append,← hout]
    congr 1
    by_cases hA:idC L[i]∈A <;> simp [hA]
   refine wz7 ?_
   refine Xbx (L:=cids L) rfl (by omega) ?_
   intro bi oi
   rw [hxe]
   refine wz6 ?_
   refine JR.callV rfl (fun w1 hw=>X0p w1 _ d m A (idC L[i]) hw.get) ?_
   refine wz8 ?_
   refine JC.test (fun hA=>?_) (fun hA=>?_)
   ·refine wz14 ?_
    refine Xb6 rfl hlt' ?_
    intro b1 o1 p1 q1
    refine wz6 ?_
    refine JR.call1 rfl (fun w1 hw=>Xv8 w1 _ (L[i]) p1 q1 hw.get hfx.2) ?_
    rintro ⟨p2,q2⟩
    dsimp only
    (repeat (refine wF ?_; intro _)); refine wX ?_
    refine Xap (u:=L[i]) rfl (by exact ⟨rfl,rfl,by decide⟩) (by omega) ?_
    intro r2 s2
    refine wz2 ?_
    exact ⟨i+1,out++[L[i]],r2,s2,⟨by omega,by simp; omega,by rw [hnx,if_pos hA]⟩,by omega,iI⟩
   ·refine wz2 ?_
    exact ⟨i+1,out,r,s,⟨by omega,by omega,by rw [hnx,if_neg hA,List.append_nil]⟩,by omega,iI⟩
  ·obtain rfl:i=L.length:=by omega
   rw [List.take_length] at hout
   refine JC.more (fun w1 ho=>ho.pub) ?_
   refine wz3 ?_
   exact Xab (Y:=X1k L A) ⟨(out,r,s),⟨fun _=>hout,fun hn=>(hn hc).elim⟩⟩ rfl
def leS (c d:Commit):Prop:=c.gen < d.gen∨(c.gen=d.gen∧idLt (idC d) (idC c)=false)
structure SortedR (L M:List Commit):Prop where
 perm:Closed L→M.Perm L
 sorted:Closed L→M.Pairwise leS
 not:¬ Closed L→M=[]
theorem Xls {L M N:List Commit} (h:(cids L).Nodup) (h1:M.Perm L) (h2:N.Perm L) (h3:M.Pairwise leS) (h4:N.Pairwise leS):M=N:=by
 refine List.Perm.eq_of_pairwise (le:=leS) (fun c d hc hd h5 h6=>?_) h3 h4 (h1.trans h2.symm)
 have e:idC c=idC d:=by
  rcases h5 with h5 | ⟨h5,h7⟩ <;> rcases h6 with h6 | ⟨h6,h8⟩
  ·omega
  ·omega
  ·omega
  ·exact Xhy h8 h7
 exact Xo5 h (h1.mem_iff.1 hc) (h2.mem_iff.1 hd) e
end
section
attribute [local irreducible] Xat
theorem Hold.pubRow {α:Type} [ic:Cell α] {w0 w:World} {F:Nat→Prop} {Γ:List Fact} {b:Nat} {t:TypeId} {vs:List Value} (r:List (α × Cell.Ix α)) (h:Hold w0 F (.own b t vs::Γ) w) (hvs:vs=flat r)
  (hf:∀ p∈r,∀ A∈Cell.facts p.1 p.2, .st A∈Γ) (hl:r.length≤1048576):Hold w0 F (.st (sl (some ⟨b,0,none⟩) r.length (r.map (·.1)))::Γ) w:=by
 have hw:w.heap[b]? = some (.cells vs.toArray t (0,0)):=h.sat (.own b t _) (by simp)
 refine h.publish fun hk=>?_
 have hb:=hk b (.inr rfl)
 refine ⟨by simp,by simp only [maxLen]; omega,by simp only [List.length_map,lim]; omega,fun hne=>⟨b,0,rfl,hb,(Array.getElem?_eq_some_iff.1 hw).1,fun i hi=>?_⟩⟩
 have hi':i < r.length:=by simpa using hi
 refine ⟨(r[i]).2,?_,fun A hA=>?_⟩
 ·intro j v hv
  simp only [List.getElem_map] at hv
  have:=Xjs r i hi' j v hv
  rw [cell_of_row w b _ _ _ _ hw,hvs]
  simpa using this
 ·simp only [List.getElem_map] at hA
  exact h.tail.sat (.st A) (hf _ (List.getElem_mem hi') A hA)
def keyA:ByteArray:=⟨#[97]⟩
def l0:Commit:=⟨⟨0,1⟩,1,[],⟨0,keyA, .empty,1⟩⟩
def idA:ID:=(Xat l0).1
def l1:Commit:=⟨⟨0,2⟩,2,[idA],⟨0,keyA, .empty,2⟩⟩
theorem Xy1:GivesV prog 35 [] w F (Xbk l0 none 0):=by
 refine Xaa func35 rfl ntmps35 rfl rfl [] (.start w F) ?_
 (repeat (refine wE ?_; intro _)); refine wA ?_
 refine Wf (OpV.build [.int .i64 0, .int .i64 1] (by kernel_rfl)) rfl ?_
 refine wz13 ?_
 refine Wf (OpV.build [.int .i64 0, .string keyA, .string .empty, .int .i64 1] (by kernel_rfl)) rfl ?_
 refine wz13 ?_
 refine Wf (OpV.build [.int .i64 0, .int .i64 1, .int .i64 1, .slice none 0 0, .int .i64 0, .string keyA, .string .empty, .int .i64 1] (by kernel_rfl)) rfl ?_
 refine wz9 ?_
 exact Xab () rfl
end
section
attribute [local irreducible] Xat idA l0 l1
theorem Xns {F:Nat→Prop} {w:World} {b:Nat} {x:ID} (h:(ro b 0 (idc x)).holds F w):(sl (some ⟨b,0,none⟩) 1 [x]).holds F w:=by
 refine ⟨by simp,by simp [maxLen],by simp [lim],fun _=>⟨b,0,rfl,h.1,h.2.1,fun i hi=>⟨(),?_,by simp [Cell.facts]⟩⟩⟩
 have h0:i=0:=by simpa using hi
 subst h0
 rw [Nat.zero_mul,Nat.add_zero]
 exact h.2.2
end
section
attribute [local irreducible] Xat
theorem Xmh (a:Option Addr) (k:Nat) (L:List Commit) (h:(sl a k L).holds F w) (hl:L.length≤1000000) (hf:∀ x∈L,fine x) (hc:Closed L) :
  GivesV prog 17 [.slice a L.length k] w F (.bool true):=by
 have h0:=Xh9 w F a k L h hl hf
 unfold Gives at h0
 unfold GivesV Gives
 refine Calls.mono h0 ?_
 rintro e w' ⟨y,rfl,hb,hB⟩
 exact ⟨(),by dsimp only; rw [y.2.2 hc],hb,hB⟩
theorem Xwg (a:Option Addr) (k:Nat) (L:List Commit) (h:(sl a k L).holds F w) (hl:L.length≤1000000) (hf:∀ x∈L,fine x) (hc:¬ Closed L) :
  GivesV prog 17 [.slice a L.length k] w F (.bool false):=by
 have h0:=Xh9 w F a k L h hl hf
 unfold Gives at h0
 unfold GivesV Gives
 refine Calls.mono h0 ?_
 rintro e w' ⟨y,rfl,hb,hB⟩
 refine ⟨(),?_,hb,hB⟩
 have:y.1=false:=by rw [← Bool.not_eq_true]; exact fun h=>hc (y.2.1 h)
 dsimp only
 rw [this]
theorem Xwh (a d:Option Addr) (k m:Nat) (L:List Commit) (A M:List ID) (h:(sl a k L).holds F w) (h':(sl d m A).holds F w) (hl:L.length≤1000) (hA:A.length≤1000) (hf:∀ x∈L,fine x) (hM:AncR L A M) :
  Xcp prog 95 [.slice a L.length k, .slice d A.length m] w F M:=by
 have h0:=X1j w F a d k m L A h h' hl hA hf
 unfold Gives at h0
 unfold Xcp Gives
 refine Calls.mono h0 ?_
 rintro e w' ⟨⟨⟨N,p,q⟩,hN⟩,rfl,hb,hB⟩
 have:N=M:=hN.unique hM
 subst this
 exact ⟨(p,q),rfl,hb,hB⟩
theorem X1l (a d:Option Addr) (k m:Nat) (L:List Commit) (A:List ID) (h:(sl a k L).holds F w) (h':(sl d m A).holds F w) (hl:L.length≤1000) (hf:∀ x∈L,fine x) (hc:Closed L) :
  Xcp prog 94 [.slice a L.length k, .slice d A.length m] w F (L.filter fun c=>decide (idC c∈A)):=by
 have h0:=Xr5 w F a d k m L A h h' hl hf
 unfold Gives at h0
 unfold Xcp Gives
 refine Calls.mono h0 ?_
 rintro e w' ⟨⟨⟨N,p,q⟩,hN⟩,rfl,hb,hB⟩
 have:N=L.filter fun c=>decide (idC c∈A):=hN.part hc
 subst this
 exact ⟨(p,q),rfl,hb,hB⟩
theorem Xzy (L:List Commit) (A:List ID):∃ M,AncR L A M:=by
 by_cases hc:Closed L
 ·refine ⟨Xcq ((cids L).filter fun x=>@decide (Xtp L A x) (Classical.propDecidable _)),Xb7 _,(Xcr _).nodup_iff.2 (hc.nodup.sublist List.filter_sublist),fun _ x=>?_,fun h=>(h hc).elim⟩
  rw [Xfq,List.mem_filter]
  constructor
  ·rintro ⟨_,h⟩; exact @of_decide_eq_true _ (Classical.propDecidable _) h
  ·intro h; exact ⟨h.1,@decide_eq_true _ (Classical.propDecidable _) h⟩
 ·exact ⟨[],List.Pairwise.nil,List.nodup_nil,fun h=>(hc h).elim,fun _=>rfl⟩
theorem X1m {L:List Commit} {A M:List ID} (h:AncR L A M):M.length≤L.length:=by
 by_cases hc:Closed L
 ·have:=Xfz M (cids L) h.nodup (fun x hx=>((h.mem hc x).1 hx).1)
  rwa [Xcu] at this
 ·rw [h.not hc]; simp
theorem Xy2 {c:Commit} (h:fewC c=true):fine c:=by
 simp only [fewC,Bool.and_eq_true,decide_eq_true_eq] at h
 exact ⟨⟨by omega,by omega⟩,by omega⟩
theorem Xy3 {L:List Commit} {m:Nat} (h:fewL L m=true):L.length≤m∧∀ x∈L,fine x:=by
 simp only [fewL,Bool.and_eq_true,decide_eq_true_eq,List.all_eq_true] at h
 exact ⟨h.1,fun x hx=>Xy2 (h.2 x hx)⟩
end
section
attribute [local irreducible] Xat idA l0 l1 ents
theorem X1n {L:List Commit} (hc:Closed L) (i:Nat) (hi:i < L.length):Xcf L (idC L[i])=(L[i],true):=by
 have h1:∀ c∈L,Xlp c=some (idC c):=fun c hm=>by
  have:=(Xnp c).2 (hc.may c hm)
  simp [Xlp,this,idC]
 have hfd:Xo9 L (idC L[i])=some L[i]:=by
  rw [Xo9,List.find?_eq_some_iff_getElem]
  refine ⟨by simp [h1 _ (List.getElem_mem hi)],i,hi,rfl,fun j hj=>?_⟩
  rw [h1 _ (List.getElem_mem (by omega))]
  have:=List.pairwise_iff_getElem.1 (show (cids L).Pairwise _ from hc.nodup) j i (by rw [Xcu]; omega) (by rw [Xcu]; exact hi) hj
  rw [Xjh,Xjh] at this
  simpa using this
 simp [Xcf,hfd]
end
section
attribute [local irreducible] Xat
instance:Cell (List ID) where
 Ix:=Option Addr × Nat
 sz:=1
 cells l y:=[.slice y.1 l.length y.2]
 facts l y:=[sl y.1 y.2 l]
 len _ _:=rfl
 one l y:=by simp [Value.oneCell']
 pos:=by decide
section
variable {P:Program} {n:Nn} {w0:World} {F:Nat→Prop} {ops:Array Oper} {i d:Nat} {t:TypeId} {pos:String} {aft:Array Edge} {g:Option (Nat × Bool)} {os:List Oper} {Q:Cont} {e:E} {Γ:List Fact}
theorem Xk1 [Dr] {x ix:Operand} {v:Value} {L:List (List ID)} {kk:IntKind} {j:Int} {k:Nat} {ty el:TypeId} {sz by_ eb:Nat} {z ez:Value} {ed:TypeDesc}
  [hx:Ev e x v] [hL:HasSl Γ v (List ID) iI L] [hi:Ev e ix (.int kk j)] [hk:NatI j k] [hT:Ty P ty (.slice el) sz by_ z] [hE:Ty P el ed 1 eb ez] (hd:Nat.blt d n.s=true) (h:k < L.length)
  (K:∀ b o p q,JO P n w0 F ops (i+1) os Q ((d, .pointer (some ⟨b,o,none⟩))::e) (.st (ro b o [.slice p (L[k]'h).length q])::.st (sl p q (L[k]'h))::Γ)) :
  JR P n w0 F ops i ⟨some d, .indexAddr ty x ix,t,pos,aft,g⟩ os Q e Γ:=JR.index hd rfl h fun b o (y:Option Addr × Nat)=>K b o y.1 y.2
end
theorem Xy4 (k:Nat) (hk:k≤1048576):GivesBuf prog 285 [.slice none 0 0, .int .i64 (k:Int)] w F 72 ([]:List ID):=by
 refine Xaa func285 rfl ntmps285 rfl rfl [] (.start w F) ?_
 refine wz2 ?_
 refine Wf OpV.cap rfl ?_
 refine wA ?_
 refine JC.reslot 1 (.int .i64 (k:Int)) (by first | rfl | (congr 1 <;> omega)) ?_
 refine JC.test (fun hlt=>?_) (fun hge=>?_)
 ·refine wz14 ?_
  refine Wf OpV.cap rfl ?_
  refine We rfl ?_
  refine Wf (Xbb (k:=0) (fun _ _=>Nat.zero_le _)) rfl ?_
  refine wz6 ?_
  refine Xep (α:=ID) (k:=k) rfl (by exact ⟨rfl,rfl,by decide⟩) ⟨by omega,by omega⟩ ?_
  intro b c hc
  refine wz4 ?_
  refine Wf (Xbb (k:=0) (fun _ _=>Nat.zero_le _)) rfl ?_
  refine wz10 ?_
  exact Xab (some ⟨b,0,none⟩,c) rfl
 ·refine JC.buf_nil (α:=ID) 72 ?_
  refine wz1 ?_
  exact Xab (none,0) rfl
theorem Xtq (a:Option Addr) (c:Nat) (ls:List (List ID)) (h:(sl a c ls).holds F w) (hl:ls.flatten.length≤1048576) (hl2:ls.length≤1048576) :
  GivesBuf prog 234 [.slice a ls.length c] w F 72 ls.flatten:=by
 have hle:∀ k,(ls.take k).flatten.length≤1048576:=fun k=>by
  have h1:=congrArg (fun l=>l.flatten.length) (List.take_append_drop k ls)
  simp only [List.flatten_append,List.length_append] at h1
  omega
 have hnext:∀ k (hk:k < ls.length),(ls.take (k+1)).flatten=(ls.take k).flatten++ls[k]:=fun k hk=>by
  rw [List.take_succ_eq_append_getElem hk,List.flatten_append]; simp
 refine Xaa func234 rfl ntmps234 rfl rfl [.st (sl a c ls)] (.start1 h) ?_
 refine wz4 ?_
 refine JC.reslot 3 (.int .i64 (((ls.take 0).flatten.length:Nat):Int)) rfl ?_
 refine Xaj (fun k:Nat=>[(0, .slice a ls.length c),(3, .int .i64 ((ls.take k).flatten.length:Int)),(9, .slice a ls.length c),(10, .int .i64 (ls.length:Int)),(11, .int .i64 (k:Int))]) (fun k=>[.st (sl a c ls)])
  (fun k=>k≤ls.length) (fun k=>ls.length - k) 0 (Nat.zero_le _) iI ?_
 intro k hk
 refine wz11 ?_
 refine JC.test (fun hlt=>?_) (fun hge=>?_)
 ·have hlt':k < ls.length:=by omega
  have h1:=hle (k+1)
  have h2:=hnext k hlt'
  have h3:(ls.take (k+1)).flatten.length=(ls.take k).flatten.length+(ls[k]).length:=by rw [h2,List.length_append]
  refine wz14 ?_
  refine Xk1 rfl hlt' ?_
  intro b o p q
  refine wA ?_
  exact ⟨k+1,by omega,by omega,by rw [h3]; infer_instance⟩
 ·obtain rfl:k=ls.length:=by omega
  rw [List.take_length]
  refine wz3 ?_
  refine JR.callBuf rfl (fun w1 hw=>Xy4 w1 _ _ hl) ?_
  intro a1 c1
  refine wz4 ?_
  refine Xcg (fun (k:Nat) p q=>[(6, .slice p (ls.take k).flatten.length q),(25, .slice a ls.length c),(26, .int .i64 (ls.length:Int)),(27, .int .i64 (k:Int))]) (fun k p q=>[.st (sl a c ls), .res (buf p q 72 (ls.take k).flatten)])
   (fun k _ _=>k≤ls.length) (fun k _ _=>ls.length - k) 0 a1 c1 (Nat.zero_le _) (by rw [List.take_zero,List.flatten_nil]; infer_instance) ?_
  intro k p q hk
  refine wz11 ?_
  refine JC.test (fun hlt=>?_) (fun hge=>?_)
  ·have hlt':k < ls.length:=by omega
   have h1:=hle (k+1)
   have h2:=hnext k hlt'
   have h3:(ls.take (k+1)).flatten.length=(ls.take k).flatten.length+(ls[k]).length:=by rw [h2,List.length_append]
   refine wz14 ?_
   refine Xk1 rfl hlt' ?_
   intro b o p2 q2
   refine wz9 ?_
   refine Xbq rfl (by exact ⟨rfl,rfl,by decide⟩) (by omega) ?_
   intro p3 q3
   refine wz2 ?_
   exact ⟨k+1,p3,q3,by omega,by omega,by rw [h2]; infer_instance⟩
  ·obtain rfl:k=ls.length:=by omega
   rw [List.take_length]
   refine wz3 ?_
   exact Xab (p,q) rfl
theorem Xy5 (a b:Option Addr) (c k:Nat) (A B:List ID) (h:(sl a c A).holds F w) (h':(sl b k B).holds F w) (hA:A.length≤10000) (hB:B.length≤10000) :
  GivesBuf prog 162 [.slice a A.length c, .slice b B.length k] w F 72 (Xcq (Xdw (A++B))):=by
 refine Xaa func162 rfl ntmps162 rfl rfl [.st (sl a c A), .st (sl b k B)] (.start2 h h') ?_
 (repeat (refine wE ?_; intro _)); refine wA ?_
 rename_i lb
 have e:[A,B].flatten=A++B:=by simp
 refine JR.more (Γ':=.st (sl (some ⟨lb,0,none⟩) 2 [A,B])::[.st (sl a c A), .st (sl b k B)]) (fun w1 ho=>?_) ?_
 ·have h1:Hold _ _ (.own lb 29 [.slice a A.length c, .slice b B.length k]::[.st (sl a c A), .st (sl b k B)]) w1:=ho.ent
  exact Hold.pubRow [(A,((a,c):Cell.Ix (List ID))),(B,((b,k):Cell.Ix (List ID)))] h1 (by simp [flat]; rfl) (by simp [Cell.facts]) (by simp)
 refine JR.callBuf (L:=A++B) rfl (fun w1 hw=>by have:=Xtq w1 _ (some ⟨lb,0,none⟩) 2 [A,B] hw.get (by simp; omega) (by simp); rwa [e] at this) ?_
 intro p q
 refine JO.more (fun w1 ho=>ho.pub) ?_
 refine wz13 ?_
 refine JR.callBuf rfl (fun w1 hw=>Xr2 w1 _ p q (A++B) hw.get (by simp; omega)) ?_
 intro p2 q2
 refine wz10 ?_
 exact Xab (p2,q2) rfl
theorem Xtr (a b:Option Addr) (c k:Nat) (A B:List ID) (h:(sl a c A).holds F w) (h':(sl b k B).holds F w) (hA:A.length≤10000) :
  GivesBuf prog 230 [.slice a A.length c, .slice b B.length k] w F 72 (Xbz A B true):=by
 refine Xaa func230 rfl ntmps230 rfl rfl [.st (sl a c A), .st (sl b k B)] (.start2 h h') ?_
 refine wz10 ?_
 refine JR.callBuf rfl (fun w1 hw=>Xrt w1 _ a b c k A B true hw.get hw.get (by omega)) ?_
 intro p q
 refine wz10 ?_
 exact Xab (p,q) rfl
end
section
attribute [local irreducible] Xat idA l0 l1 ents
theorem AncR.down {L:List Commit} (hc:Closed L) {A X:List ID} (h:AncR L A X) {y x:ID} (hy:y∈X) (hk:Xb0 L y x):x∈X:=by
 rw [h.mem hc] at hy ⊢
 refine ⟨(Xfw hk).2, .inr ?_⟩
 rcases hy.2 with h1 | ⟨z,hz,h1⟩
 ·exact ⟨y,h1,hk⟩
 ·exact ⟨z,hz,Xqu h1 hk⟩
theorem Xqz {L:List Commit} (hc:Closed L) {X:List ID} (h1:X.Pairwise (fun x y=>idLt y x=false)) (h2:X.Nodup) (h3:∀ x∈X,x∈cids L) (h4:∀ y∈X,∀ x,Xb0 L y x→x∈X):AncR L X X :=
 ⟨h1,h2,fun _ x=>⟨fun h=>⟨h3 x h, .inl h⟩,fun h=>h.2.elim id fun ⟨y,hy,hk⟩=>h4 y hy x hk⟩,fun h=>(h hc).elim⟩
theorem AncR.ids {L:List Commit} (hc:Closed L) {A X:List ID} (h:AncR L A X) {x:ID} (hx:x∈X):x∈cids L:=((h.mem hc x).1 hx).1
theorem Xf0 {A B:List ID} {x:ID}:x∈Xbz A B true↔x∈A∧x∈B:=by
 rw [Xbz,Xfq,Xev,Xdp,List.mem_filter]
 simp
theorem Xts {L:List Commit} (hc:Closed L) {A B X Y:List ID} (hX:AncR L A X) (hY:AncR L B Y):AncR L (Xbz X Y true) (Xbz X Y true) :=
 Xqz hc (by unfold Xbz; exact Xb7 _) (by unfold Xbz; exact (Xcr _).nodup_iff.2 (Xcd _)) (fun x hx=>hX.ids hc (Xf0.1 hx).1)
  (fun y hy x hk=>Xf0.2 ⟨hX.down hc (Xf0.1 hy).1 hk,hY.down hc (Xf0.1 hy).2 hk⟩)
theorem Xnt {L:List Commit} (hc:Closed L) {A X:List ID} (hX:AncR L A X) (x:ID):x∈cids (L.filter fun c=>decide (idC c∈X))↔x∈X:=by
 rw [Xas]
 constructor
 ·rintro ⟨c,hcm,rfl⟩; simpa using (List.mem_filter.1 hcm).2
 ·intro hx
  obtain ⟨c,hcm,rfl⟩:=Xas.1 (hX.ids hc hx)
  exact ⟨c,List.mem_filter.2 ⟨hcm,by simpa using hx⟩,rfl⟩
theorem Xgw {L:List Commit} (hc:Closed L) {A X:List ID} (hX:AncR L A X):Closed (L.filter fun c=>decide (idC c∈X)):=by
 refine hc.sub (fun c hcm=>(List.mem_filter.1 hcm).1) (Xo7 hc.nodup List.filter_sublist) (fun c hcm p hp=>?_)
 obtain ⟨h1,h2⟩:=List.mem_filter.1 hcm
 rw [Xnt hc hX]
 exact hX.down hc (by simpa using h2) (.single ⟨c,h1,rfl,hp,(hc.fine c h1).here p hp⟩)
open Classical in
noncomputable def closedB (L:List Commit):Bool:=decide (Closed L)
theorem Xbl {L:List Commit}:closedB L=true↔Closed L:=by simp [closedB]
theorem Xan {L:List Commit} (h:Closed L):closedB L=true:=Xbl.2 h
theorem Xgc {L:List Commit} (h:¬ Closed L):closedB L=false:=by rw [← Bool.not_eq_true,Xbl]; exact h
noncomputable def ancF (L:List Commit) (A:List ID):List ID:=Classical.choose (Xzy L A)
theorem Xed (L:List Commit) (A:List ID):AncR L A (ancF L A):=Classical.choose_spec (Xzy L A)
theorem X1o {L:List Commit} {A M:List ID} (h:AncR L A M):ancF L A=M:=(Xed L A).unique h
noncomputable def partF (L:List Commit) (A:List ID):List Commit:=if closedB L then L.filter (fun c=>decide (idC c∈A)) else []
theorem Xy6 (L:List Commit) (A:List ID):PartR L A (partF L A) :=
 ⟨fun h=>by rw [partF,Xan h,if_pos rfl],fun h=>by rw [partF,Xgc h]; rfl⟩
noncomputable def frontF (L:List Commit):List ID:=if closedB L then Xbz (cids L) (Xbi L) false else []
def topL (L:List Commit):Int:=L.foldl (fun g c=>max g c.gen) 0
def X2t (g:Int) (f:List ID):Commit:=⟨⟨-1,0⟩,g,f,op0⟩
def X2u (g:Int) (f:List ID):Commit × Bool:=if merge (X2t g f) then (X2t g f,true) else (commit0,false)
noncomputable def joinF (L:List Commit) (A:List ID):Commit × Bool :=
 match frontF (partF L (ancF L A)) with
 | []=>(commit0,false)
 | [x]=>Xcf L x
 | f=>X2u (topL (partF L f)+1) f
noncomputable def headF (L:List Commit):Commit × Bool:=joinF L (idsP L)
noncomputable def baseF (L:List Commit) (A B:List ID):List ID:=Xbz (ancF L A) (ancF L B) true
noncomputable def nextC (L:List Commit) (ev:Ev_) (o:Op_):Commit:=⟨ev,topL L+1,frontF L,o⟩
noncomputable def nextF (L:List Commit) (ev:Ev_) (o:Op_):Commit × Bool :=
 if closedB L && may (nextC L ev o) && closedB (L++[nextC L ev o]) then (nextC L ev o,true) else (commit0,false)
theorem Xwi {A B:List ID} {x:ID}:x∈Xbz A B false↔x∈A∧x∉B:=by
 rw [Xbz,Xfq,Xev,Xdp,List.mem_filter]
 simp
theorem Xmi (A B:List ID) (w:Bool):(Xbz A B w).Nodup:=by unfold Xbz; exact (Xcr _).nodup_iff.2 (Xcd _)
theorem Xq0 (A B:List ID) (w:Bool):(Xbz A B w).Pairwise (fun x y=>idLt y x=false):=by unfold Xbz; exact Xb7 _
theorem Xpe {L:List Commit} {x:ID}:x∈Xbi L↔∃ c∈L,x∈c.parents:=by simp [Xbi]
theorem Xck {L:List Commit} (hc:Closed L) {x:ID}:x∈frontF L↔x∈cids L∧∀ c∈L,x∉c.parents:=by
 rw [frontF,Xan hc,if_pos rfl,Xwi,Xpe]
 simp
theorem Xwj {L:List Commit} (hc:¬ Closed L):frontF L=[]:=by rw [frontF,Xgc hc]; rfl
theorem Xdd (L:List Commit):(frontF L).Nodup:=by
 unfold frontF; split
 ·exact Xmi _ _ _
 ·exact List.nodup_nil
theorem Xpf (L:List Commit):(frontF L).Pairwise (fun x y=>idLt y x=false):=by
 unfold frontF; split
 ·exact Xq0 _ _ _
 ·exact List.Pairwise.nil
theorem Xtt {L:List Commit} (hc:Closed L):∀ (n:Nat) (x:ID),x∈cids L→(topL L - Xbs L x).toNat≤n→x∈frontF L∨∃ y∈frontF L,Xb0 L y x:=by
 have htop:∀ x∈cids L,Xbs L x≤topL L:=fun x hx=>by
  obtain ⟨c,hm,rfl⟩:=Xas.1 hx
  rw [Xb5 hc.nodup hm]
  have key:∀ (M:List Commit) (g:Int),g≤M.foldl (fun g c=>max g c.gen) g∧∀ d∈M,d.gen≤M.foldl (fun g c=>max g c.gen) g:=by
   intro M
   induction M with
   | nil=>intro g; exact ⟨Int.le_refl _,by simp⟩
   | cons e M ih =>
    intro g
    obtain ⟨h1,h2⟩:=ih (max g e.gen)
    refine ⟨by simp only [List.foldl_cons]; omega,fun d hd=>?_⟩
    rcases List.mem_cons.1 hd with rfl | hd
    ·simp only [List.foldl_cons]; omega
    ·exact h2 d hd
  exact (key L 0).2 c hm
 intro n
 induction n with
 | zero =>
  intro x hx hn
  refine .inl ((Xck hc).2 ⟨hx,fun c hm hp=>?_⟩)
  have h1:=hc.par_gen (x:=idC c) (y:=x) ⟨c,hm,rfl,hp,hx⟩
  have h2:=htop (idC c) (Xas.2 ⟨c,hm,rfl⟩)
  omega
 | succ n ih =>
  intro x hx hn
  by_cases hf:∀ c∈L,x∉c.parents
  ·exact .inl ((Xck hc).2 ⟨hx,hf⟩)
  ·obtain ⟨c,hm,hp⟩:∃ c,c∈L∧x∈c.parents:=by
    apply Classical.byContradiction
    intro hn'
    exact hf fun c hm hp=>hn' ⟨c,hm,hp⟩
   have hpar:par L (idC c) x:=⟨c,hm,rfl,hp,hx⟩
   have h1:=hc.par_gen hpar
   have h2:=htop (idC c) (Xas.2 ⟨c,hm,rfl⟩)
   rcases ih (idC c) (Xas.2 ⟨c,hm,rfl⟩) (by omega) with h | ⟨y,hy,hk⟩
   ·exact .inr ⟨idC c,h, .single hpar⟩
   ·exact .inr ⟨y,hy, .tail hk hpar⟩
theorem Xwk {L:List Commit} (hc:Closed L) {x:ID} (hx:x∈cids L):x∈frontF L∨∃ y∈frontF L,Xb0 L y x:=Xtt hc _ x hx (Nat.le_refl _)
theorem Xia {L:List Commit} (hc:Closed L) {x y:ID} (hx:x∈frontF L):¬ Xb0 L y x:=by
 intro h
 have key:∃ z,par L z x:=by
  cases h with
  | single h1=>exact ⟨_,h1⟩
  | tail _ h1=>exact ⟨_,h1⟩
 obtain ⟨z,c,hm,_,hp,_⟩:=key
 exact ((Xck hc).1 hx).2 c hm hp
theorem Xtu {L:List Commit} (hc:Closed L) {c d:Commit} (hcm:c∈L) (hdm:d∈L) (h1:idC c∈frontF L) (h2:idC d∈frontF L) (h:c.ev.node=d.ev.node):idC c=idC d:=by
 apply Classical.byContradiction
 intro hne
 obtain ⟨h3,h4⟩:=hc.ev c hcm d hdm hne h
 obtain ⟨h5,h6⟩:=hc.ev d hdm c hcm (fun e=>hne e.symm) h.symm
 rcases Int.lt_trichotomy c.ev.seq d.ev.seq with h7 | h7 | h7
 ·exact Xia hc h1 (h6 h7)
 ·exact h3 h7
 ·exact Xia hc h2 (h4 h7)
theorem X1p {L:List Commit} (hc:Closed L) {c:Commit} (hm:c∈L):0≤c.ev.node∧c.ev.node≤7:=by
 have h1:=hc.may c hm
 have h2:=(hc.fine c hm).merge
 simp only [merge,h1,Bool.and_true,decide_eq_false_iff_not] at h2
 unfold may at h1
 split at h1
 ·cases h1
 ·simp only [h2,if_false,inB,Bool.and_eq_true,decide_eq_true_eq] at h1
  exact ⟨h1.1.1.1,h1.1.1.2⟩
theorem Xhk {L:List Commit} (hc:Closed L):(frontF L).length≤8:=by
 have hpick:∀ x∈frontF L,∃ c∈L,idC c=x:=fun x hx=>Xas.1 ((Xck hc).1 hx).1
 let g:ID→Int:=fun x=>match L.find? (fun c=>decide (idC c=x)) with | some c=>c.ev.node | none=>0
 have hg:∀ c∈L,g (idC c)=c.ev.node:=fun c hm=>by
  show (match L.find? (fun d=>decide (idC d=idC c)) with | some c=>c.ev.node | none=>0)=_
  cases hf:L.find? (fun d=>decide (idC d=idC c)) with
  | none=>exact absurd (List.find?_eq_none.1 hf c hm) (by simp)
  | some d =>
   have:=Xo5 hc.nodup (List.mem_of_find?_eq_some hf) hm (by simpa using List.find?_some hf)
   rw [this]
 have hnd:((frontF L).map g).Nodup:=by
  rw [List.nodup_iff_pairwise_ne,List.pairwise_map]
  have h0:=List.nodup_iff_pairwise_ne.1 (Xdd L)
  refine List.Pairwise.imp_of_mem ?_ h0
  intro x y hx hy hne e
  obtain ⟨c,hcm,rfl⟩:=hpick x hx
  obtain ⟨d,hdm,rfl⟩:=hpick y hy
  rw [hg c hcm,hg d hdm] at e
  exact hne (Xtu hc hcm hdm hx hy e)
 have:=Xfz ((frontF L).map g) [0,1,2,3,4,5,6,7] hnd (fun n hn=>by
  obtain ⟨x,hx,rfl⟩:=List.mem_map.1 hn
  obtain ⟨c,hcm,rfl⟩:=hpick x hx
  have:=X1p hc hcm
  rw [hg c hcm]
  simp only [List.mem_cons,List.not_mem_nil,or_false]
  omega)
 simpa using this
theorem Xnu (M:List Commit):∀ g:Int,g≤M.foldl (fun g c=>max g c.gen) g∧(∀ d∈M,d.gen≤M.foldl (fun g c=>max g c.gen) g)∧(M.foldl (fun g c=>max g c.gen) g=g∨∃ d∈M,d.gen=M.foldl (fun g c=>max g c.gen) g):=by
 induction M with
 | nil=>intro g; exact ⟨Int.le_refl _,by simp, .inl rfl⟩
 | cons e M ih =>
  intro g
  obtain ⟨h1,h2,h3⟩:=ih (max g e.gen)
  simp only [List.foldl_cons]
  refine ⟨by omega,fun d hd=>?_,?_⟩
  ·rcases List.mem_cons.1 hd with rfl | hd
   ·omega
   ·exact h2 d hd
  ·rcases h3 with h3 | ⟨d,hd,h3⟩
   ·by_cases hge:e.gen≤g
    ·left; omega
    ·exact .inr ⟨e,by simp,by omega⟩
   ·exact .inr ⟨d,by simp [hd],h3⟩
theorem X1q (M:List Commit) {d:Commit} (h:d∈M):d.gen≤topL M:=(Xnu M 0).2.1 d h
theorem Xy7 (M:List Commit):0≤topL M:=(Xnu M 0).1
theorem Xmj (L:List Commit) (ps:List ID):∀ g:Int,g≤ps.foldl (fun g p=>max g (Xbs L p)) g∧(ps.foldl (fun g p=>max g (Xbs L p)) g=g∨∃ p∈ps,Xbs L p=ps.foldl (fun g p=>max g (Xbs L p)) g):=by
 induction ps with
 | nil=>intro g; exact ⟨Int.le_refl _, .inl rfl⟩
 | cons e M ih =>
  intro g
  obtain ⟨h1,h3⟩:=ih (max g (Xbs L e))
  simp only [List.foldl_cons]
  refine ⟨by omega,?_⟩
  rcases h3 with h3 | ⟨d,hd,h3⟩
  ·by_cases hge:Xbs L e≤g
   ·left; omega
   ·exact .inr ⟨e,by simp,by omega⟩
  ·exact .inr ⟨d,by simp [hd],h3⟩
theorem Xwl (L:List Commit) (ps:List ID):0≤Xce L ps:=(Xmj L ps 0).1
theorem Xwm (L:List Commit) (ps:List ID) (h:1≤Xce L ps):∃ p∈ps,Xbs L p=Xce L ps:=by
 rcases (Xmj L ps 0).2 with h1 | h1
 ·have:Xce L ps=0:=h1
  omega
 ·exact h1
theorem Xq1 {L:List Commit} (hc:Closed L) {c:Commit} (hm:c∈L):1≤c.gen:=by
 have:=Xwl L c.parents
 rw [(hc.fine c hm).gen]; omega
theorem Xtv {L:List Commit} (hc:Closed L):∀ (n:Nat) (c:Commit),c∈L→c.gen=n→∀ m:Nat,1≤m→m≤n→∃ d∈L,d.gen=m:=by
 intro n
 induction n with
 | zero=>intro c _ _ m h1 h2; omega
 | succ n ih =>
  intro c hm hg m h1 h2
  by_cases he:m=n+1
  ·exact ⟨c,hm,by rw [he,hg]⟩
  ·have h3:Xce L c.parents=n:=by have:=(hc.fine c hm).gen; omega
   obtain ⟨p,hp,hpg⟩:=Xwm L c.parents (by omega)
   obtain ⟨d,hd,rfl⟩:=Xas.1 ((hc.fine c hm).here p hp)
   rw [Xb5 hc.nodup hd] at hpg
   exact ih d hd (by omega) m h1 (by omega)
theorem Xr6 {L:List Commit} (hc:Closed L):topL L≤L.length:=by
 rcases (Xnu L 0).2.2 with h3 | ⟨c,hm,h3⟩
 ·have:topL L=0:=h3
  omega
 ·have h3:c.gen=topL L:=h3
  obtain ⟨n,hn⟩:∃ n:Nat,c.gen=n:=⟨c.gen.toNat,by have:=Xq1 hc hm; omega⟩
  have:=Xfz ((List.range' 1 n).map (fun m:Nat=>(m:Int))) (L.map (·.gen)) (by
   rw [List.nodup_iff_pairwise_ne,List.pairwise_map]
   exact (List.nodup_iff_pairwise_ne.1 (List.nodup_range' (s:=1) (n:=n))).imp fun h e=>h (by omega)) (fun g hg=>by
   obtain ⟨m,hm',rfl⟩:=List.mem_map.1 hg
   rw [List.mem_range'] at hm'
   obtain ⟨i,hi,rfl⟩:=hm'
   obtain ⟨d,hd,hdg⟩:=Xtv hc n c hm hn (1+1 * i) (by omega) (by omega)
   exact List.mem_map.2 ⟨d,hd,hdg⟩)
  simp only [List.length_map,List.length_range'] at this
  omega
theorem Xdx {L:List Commit} (hc:Closed L) {c:Commit} (hm:c∈L):Xcf L (idC c)=(c,true):=by
 obtain ⟨i,hi,rfl⟩:=List.getElem_of_mem hm
 exact X1n hc i hi
theorem Xy8 {L:List Commit} {A:List ID} {c:Commit} (h:c∈partF L A):c∈L:=by
 unfold partF at h
 split at h
 ·exact (List.mem_filter.1 h).1
 ·cases h
theorem Xq2 {L:List Commit} {ev:Ev_} {o:Op_} {c:Commit} (h:nextF L ev o=(c,true)):c=nextC L ev o∧Closed L∧may c=true∧Closed (L++[c]):=by
 unfold nextF at h
 split at h
 ·rename_i hb
  injection h with h1 h2
  subst h1
  simp only [Bool.and_eq_true,Xbl] at hb
  exact ⟨rfl,hb.1.1,hb.1.2,hb.2⟩
 ·injection h with h1 h2; cases h2
theorem Xtw {L:List Commit} {ev:Ev_} {o:Op_} {c:Commit} (h:nextF L ev o=(c,true)):frontF (L++[c])=[idC c]:=by
 obtain ⟨h1,hc,hm,hc2⟩:=Xq2 h
 have hpar:c.parents=frontF L:=by rw [h1]; rfl
 have hnd:=hc2.nodup
 rw [Xhi,List.nodup_append] at hnd
 have hout:idC c∉cids L:=fun hx=>hnd.2.2 _ hx _ (by simp) rfl
 have hmem:∀ x,x∈frontF (L++[c])↔x∈[idC c]:=fun x=>by
  rw [Xck hc2,Xhi,List.mem_append,List.mem_singleton]
  constructor
  ·rintro ⟨hx | hx,hp⟩
   ·exfalso
    rcases Xwk hc hx with h2 | ⟨y,hy,hk⟩
    ·exact hp c (by simp) (by rw [hpar]; exact h2)
    ·have key:∃ z,par L z x:=by
      cases hk with
      | single h1=>exact ⟨_,h1⟩
      | tail _ h1=>exact ⟨_,h1⟩
     obtain ⟨z,d,hd,_,hpd,_⟩:=key
     exact hp d (by simp [hd]) hpd
   ·exact hx
  ·rintro rfl
   refine ⟨.inr rfl,fun d hd hp=>?_⟩
   rcases List.mem_append.1 hd with hd | hd
   ·exact hout ((hc.fine d hd).here _ hp)
   ·rw [List.mem_singleton] at hd
    subst hd
    rw [hpar] at hp
    exact hout ((Xck hc).1 hp).1
 exact Xe8 ((List.perm_ext_iff_of_nodup (Xdd _) (by simp)).2 hmem) (Xpf _) (by simp)
theorem Xk2 {L:List Commit} (hc:Closed L) (A B:List ID):AncR L (baseF L A B) (baseF L A B):=Xts hc (Xed L A) (Xed L B)
theorem Xr7 {L:List Commit} {A B:List ID} {x:ID}:x∈baseF L A B↔x∈ancF L A∧x∈ancF L B:=Xf0
end
section
attribute [local irreducible] Xat
abbrev Memo:=List (ID × State_)
def getS (M:Memo) (k:ID):Option State_:=(M.find? (fun p=>decide (p.1=k))).map (·.2)
def updS (M:Memo) (k:ID) (s:State_):Memo :=
 match M.findIdx? (fun p=>decide (p.1=k)) with
 | some i=>M.modify i fun _=>(k,s)
 | none=>M++[(k,s)]
theorem Xy9 {M:Memo} {k:ID} {s:State_} {p:ID × State_} (h:p∈updS M k s):p∈M∨p=(k,s):=by
 unfold updS at h
 split at h
 ·obtain ⟨j,hj,rfl⟩:=List.getElem_of_mem h
  rw [List.getElem_modify]
  split
  ·exact .inr rfl
  ·exact .inl (List.getElem_mem _)
 ·rcases List.mem_append.1 h with h | h
  ·exact .inl h
  ·exact .inr (List.mem_singleton.1 h)
theorem Xza {M:Memo} {k:ID} {s:State_} (h:getS M k=some s):∃ p∈M,p.2=s:=by
 unfold getS at h
 obtain ⟨p,hp,rfl⟩:=Option.map_eq_some_iff.1 h
 exact ⟨p,List.mem_of_find?_eq_some hp,rfl⟩
def keyF (f:List ID):ID:=sumI (idsL f)
def Xq3 (A B:List ID):List ID:=Xcq (Xdw (A++B))
abbrev OfT:=Memo→List ID→Option (State_ × Memo)
noncomputable def lastE (L:List Commit) (A B:List ID):List ID:=frontF (partF L (baseF L A B))
noncomputable def joinStep (of:OfT) (L:List Commit) (t:State_ × List ID × Memo) (a:ID):Option (State_ × List ID × Memo) :=
 (of t.2.2 (lastE L t.2.1 [a])).bind fun u=>(of u.2 [a]).map fun v=>((stMerge u.1 t.1 v.1).1,Xq3 t.2.1 [a],v.2)
noncomputable def oneF (of:OfT) (L:List Commit) (M:Memo) (a:ID):Option (State_ × Memo) :=
 (of M (Xcf L a).1.parents).map fun u=>((stDo u.1 (Xcf L a).1.op (Xcf L a).1.ev (Xcf L a).1.gen).1,u.2)
noncomputable def stJoin (of:OfT) (L:List Commit) (M:Memo) (a:ID) (rest:List ID):Option (State_ × Memo) :=
 (of M [a]).bind fun u=>(rest.foldlM (joinStep of L) (u.1,[a],u.2)).map fun t=>(t.1,t.2.2)
noncomputable def bodyF (of:OfT) (L:List Commit) (M:Memo):List ID→Option (State_ × Memo)
 | []=>none
 | [a]=>oneF of L M a
 | a::rest=>stJoin of L M a rest
noncomputable def ofF:Nat→List Commit→OfT
 | 0,_=>fun _ _=>none
 | n+1,L=>fun M f =>
  if f=[] then some (st0,M) else
  match getS M (keyF f) with
  | some s=>some (s,M)
  | none=>(bodyF (ofF n L) L M f).map fun u=>(u.1,updS u.2 (keyF f) u.1)
theorem Xfe (n:Nat) (L:List Commit) (M:Memo) (f:List ID):ofF (n+1) L M f=if f=[] then some (st0,M) else
  match getS M (keyF f) with
  | some s=>some (s,M)
  | none=>(bodyF (ofF n L) L M f).map fun u=>(u.1,updS u.2 (keyF f) u.1):=rfl
theorem Xff (of:OfT) (L:List Commit) (M:Memo) (a b:ID) (rest:List ID):bodyF of L M (a::b::rest)=stJoin of L M a (b::rest):=rfl
def Xwn (L:List Commit):List ByteArray:=L.map (·.op.key)
def Xwo (L:List Commit):List Reg_:=L.map fun c=>⟨c.op.key,c.op.elem,c.gen,c.ev⟩
def Xpg (L:List Commit):List Pair_:=L.map fun c=>⟨c.op.key,c.op.elem,c.ev⟩
abbrev Xib (L:List Commit) (s:State_):Prop:=Held (Xwn L) (Xwo L) (Xpg L) s
def Xi6 (L:List Commit) (M:Memo):Prop:=∀ p∈M,Xib L p.2
theorem Xwp (L:List Commit) (a:ID):(Xcf L a).1∈L∨(Xcf L a).1=commit0:=by
 unfold Xcf Xo9
 cases h:L.find? (fun c=>decide (Xlp c=some a)) with
 | none=>exact .inr rfl
 | some c=>exact .inl (List.mem_of_find?_eq_some h)
theorem Xtx (s:State_):(stDo s commit0.op commit0.ev commit0.gen).1=st0:=by
 unfold stDo
 rw [if_neg]
 unfold doOk
 have:Xes commit0.op=false:=by decide
 rw [this]; simp
theorem Xwq {L:List Commit} {s:State_} (h:Xib L s) (a:ID):Xib L (stDo s (Xcf L a).1.op (Xcf L a).1.ev (Xcf L a).1.gen).1:=by
 rcases Xwp L a with hm | hm
 ·exact h.doS (List.mem_map.2 ⟨_,hm,rfl⟩) (List.mem_map.2 ⟨_,hm,rfl⟩) (List.mem_map.2 ⟨_,hm,rfl⟩)
 ·rw [hm,Xtx]; exact Xzu _ _ _
abbrev Xwr (L:List Commit) (of:OfT):Prop:=∀ M f r,of M f=some r→Xi6 L M→Xib L r.1∧Xi6 L r.2
theorem Xws {of:OfT} {L:List Commit} (ih:Xwr L of) {t u:State_ × List ID × Memo} {a:ID} (h:joinStep of L t a=some u) (h1:Xib L t.1) (h2:Xi6 L t.2.2):Xib L u.1∧Xi6 L u.2.2:=by
 unfold joinStep at h
 obtain ⟨x,hx,h⟩:=Option.bind_eq_some_iff.1 h
 obtain ⟨y,hy,rfl⟩:=Option.map_eq_some_iff.1 h
 have h3:=ih _ _ _ hx h2
 have h4:=ih _ _ _ hy h3.2
 exact ⟨h3.1.merge h1 h4.1,h4.2⟩
theorem Xph {of:OfT} {L:List Commit} (ih:Xwr L of):∀ {rest:List ID} {t u:State_ × List ID × Memo},rest.foldlM (joinStep of L) t=some u→Xib L t.1→Xi6 L t.2.2→Xib L u.1∧Xi6 L u.2.2
 | [],t,u,h,h1,h2=>by
  simp only [List.foldlM_nil] at h
  injection h with h; subst h
  exact ⟨h1,h2⟩
 | a::rest,t,u,h,h1,h2=>by
  rw [List.foldlM_cons] at h
  obtain ⟨x,hx,h⟩:=Option.bind_eq_some_iff.1 h
  have h3:=Xws ih hx h1 h2
  exact Xph ih h h3.1 h3.2
theorem Xnv (L:List Commit):∀ n,Xwr L (ofF n L)
 | 0,M,f,r,h,_=>by cases h
 | n+1,M,f,r,h,hM=>by
  have ih:=Xnv L n
  simp only [ofF] at h
  split at h
  ·injection h with h; subst h
   exact ⟨Xzu _ _ _,hM⟩
  ·rename_i hne
   split at h
   ·rename_i s hs
    injection h with h; subst h
    obtain ⟨p,hp,rfl⟩:=Xza hs
    exact ⟨hM p hp,hM⟩
   ·obtain ⟨u,hu,rfl⟩:=Option.map_eq_some_iff.1 h
    have h3:Xib L u.1∧Xi6 L u.2:=by
     match f,hne,hu with
     | [a],_,hu =>
      simp only [bodyF,oneF] at hu
      obtain ⟨x,hx,rfl⟩:=Option.map_eq_some_iff.1 hu
      have:=ih _ _ _ hx hM
      exact ⟨Xwq this.1 a,this.2⟩
     | a::b::rest,_,hu =>
      rw [Xff] at hu
      unfold stJoin at hu
      obtain ⟨x,hx,hu⟩:=Option.bind_eq_some_iff.1 hu
      obtain ⟨y,hy,rfl⟩:=Option.map_eq_some_iff.1 hu
      have h4:=ih _ _ _ hx hM
      exact Xph ih hy h4.1 h4.2
    refine ⟨h3.1,fun p hp=>?_⟩
    rcases Xy9 hp with hp | rfl
    ·exact h3.2 p hp
    ·exact h3.1
theorem Xjl {L:List Commit} (hc:Closed L) {A B:List ID} {x:ID}:x∈lastE L A B→x∈baseF L A B∧x∈cids L:=by
 intro h
 have hb:=Xk2 hc A B
 have hP:Closed (L.filter fun c=>decide (idC c∈baseF L A B)):=Xgw hc hb
 unfold lastE partF at h
 rw [Xan hc,if_pos rfl,Xck hP,Xnt hc hb] at h
 exact ⟨h.1,hb.ids hc h.1⟩
theorem Xzb {L:List Commit} (hc:Closed L) {A:List ID} {a:ID} (m:Nat) (ha:Xbs L a≤m):lastE L A [a]=[a]∨∀ x∈lastE L A [a],Xbs L x≤(m:Int) - 1:=by
 have hb:=Xk2 hc A [a]
 have hP:Closed (L.filter fun c=>decide (idC c∈baseF L A [a])):=Xgw hc hb
 have hin:∀ x∈lastE L A [a],x=a∨Xb0 L a x:=by
  intro x hx
  have h1:=(Xr7.1 (Xjl hc hx).1).2
  have h2:=(((Xed L [a]).mem hc x).1 h1).2
  rcases h2 with h2 | ⟨y,hy,h2⟩
  ·exact .inl (List.mem_singleton.1 h2)
  ·rw [List.mem_singleton.1 hy] at h2; exact .inr h2
 by_cases hal:a∈lastE L A [a]
 ·left
  have hone:∀ x∈lastE L A [a],x=a:=by
   intro x hx
   rcases hin x hx with e | hk
   ·exact e
   ·exfalso
    have hmem:=(Xjl hc hal).1
    have hs:∀ c∈(L.filter fun c=>decide (idC c∈baseF L A [a])),c∈L:=fun c hm=>(List.mem_filter.1 hm).1
    have hk':=(Xey hs hc.nodup (fun c hm p hp=>(hP.fine c hm).here p hp) ((Xnt hc hb a).2 hmem) x).2 hk
    unfold lastE partF at hx
    rw [Xan hc,if_pos rfl] at hx
    exact Xia hP hx hk'
  have hnd:(lastE L A [a]).Nodup:=Xdd _
  match hl:lastE L A [a],hal,hone,hnd with
  | [x],_,h,_=>rw [h x (by simp)]
  | x::y::l,_,h,hn =>
   rw [h x (by simp),h y (by simp)] at hn
   simp at hn
 ·right
  intro x hx
  rcases hin x hx with e | hk
  ·subst e; exact absurd hx hal
  ·have:=hc.knows_gen hk
   omega
theorem Xmk {of:OfT} {L:List Commit} {P:ID→Prop} (h:∀ (A:List ID) (a:ID) (M:Memo),P a→(∃ r,of M (lastE L A [a])=some r)∧∃ r,of M [a]=some r):∀ (rest:List ID) (t:State_ × List ID × Memo),(∀ x∈rest,P x)→∃ u,rest.foldlM (joinStep of L) t=some u
 | [],t,_=>⟨t,rfl⟩
 | a::rest,t,hr=>by
  obtain ⟨u,hu⟩:=(h t.2.1 a t.2.2 (hr a (by simp))).1
  obtain ⟨v,hv⟩:=(h [] a u.2 (hr a (by simp))).2
  have e:joinStep of L t a=some ((stMerge u.1 t.1 v.1).1,Xq3 t.2.1 [a],v.2):=by unfold joinStep; rw [hu,Option.bind_some,hv]; rfl
  rw [List.foldlM_cons,e]
  exact Xmk h rest _ (fun x hx=>hr x (List.mem_cons_of_mem _ hx))
theorem X1r {L:List Commit} (hc:Closed L):∀ (m:Nat) (n:Nat) (M:Memo) (f:List ID),(∀ x∈f,x∈cids L∧Xbs L x≤m)→(2 * m+2≤n∨f.length≤1∧2 * m+1≤n)→∃ r,ofF n L M f=some r:=by
 have hpos:∀ x∈cids L,1≤Xbs L x:=by
  intro x hx
  obtain ⟨c,hm,rfl⟩:=Xas.1 hx
  rw [Xb5 hc.nodup hm]
  exact Xq1 hc hm
 intro m
 induction m with
 | zero =>
  intro n M f hf hn
  have:f=[]:=by
   cases f with
   | nil=>rfl
   | cons x f=>have h1:=hf x (by simp); have h2:=hpos x h1.1; omega
  subst this
  obtain ⟨k,rfl⟩:∃ k,n=k+1:=⟨n - 1,by omega⟩
  exact ⟨_,by simp only [ofF,if_true]; rfl⟩
 | succ m ih =>
  have hone:∀ (n:Nat) (M:Memo) (a:ID),a∈cids L→Xbs L a≤(m+1:Nat)→2 * (m+1)+1≤n→∃ r,ofF n L M [a]=some r:=by
   intro n M a ha hg hn
   obtain ⟨k,rfl⟩:∃ k,n=k+1:=⟨n - 1,by omega⟩
   obtain ⟨c,hm,rfl⟩:=Xas.1 ha
   obtain ⟨r,hr⟩:=ih k M c.parents (fun x hx=>⟨(hc.fine c hm).here x hx,by
    have h1:=Xmf L c.parents x hx
    have h2:=(hc.fine c hm).gen
    rw [Xb5 hc.nodup hm] at hg
    omega⟩) (.inl (by omega))
   simp only [ofF,List.cons_ne_nil,if_false]
   cases hgs:getS M (keyF [idC c]) with
   | some s=>exact ⟨_,rfl⟩
   | none =>
    simp only [bodyF,oneF,Xdx hc hm,hr,Option.map_some]
    exact ⟨_,rfl⟩
  intro n M f hf hn
  match f,hf,hn with
  | [],_,hn =>
   obtain ⟨k,rfl⟩:∃ k,n=k+1:=⟨n - 1,by omega⟩
   exact ⟨_,by simp only [ofF,if_true]; rfl⟩
  | [a],hf,hn=>exact hone n M a (hf a (by simp)).1 (hf a (by simp)).2 (by omega)
  | a::b::rest,hf,hn =>
   have hn':2 * (m+1)+2≤n:=by rcases hn with h | h; exact h; simp at h
   obtain ⟨k,rfl⟩:∃ k,n=k+1:=⟨n - 1,by omega⟩
   simp only [ofF,List.cons_ne_nil,if_false]
   cases hgs:getS M (keyF (a::b::rest)) with
   | some s=>exact ⟨_,rfl⟩
   | none =>
    rw [Xff]
    unfold stJoin
    obtain ⟨u,hu⟩:=hone k M a (hf a (by simp)).1 (hf a (by simp)).2 (by omega)
    obtain ⟨t,ht⟩:=Xmk (of:=ofF k L) (L:=L) (P:=fun x=>x∈cids L∧Xbs L x≤(m+1:Nat)) (fun A x M hx=>⟨by
     rcases Xzb hc (A:=A) (m+1) hx.2 with e | h
     ·rw [e]; exact hone k M x hx.1 hx.2 (by omega)
     ·exact ih k M _ (fun y hy=>⟨(Xjl hc hy).2,by have:=h y hy; omega⟩) (.inl (by omega)),hone k M x hx.1 hx.2 (by omega)⟩) (b::rest) (u.1,[a],u.2) (fun x hx=>hf x (List.mem_cons_of_mem _ hx))
    simp only [hu,Option.bind_some,ht,Option.map_some]
    exact ⟨_,rfl⟩
theorem X1s {L:List Commit} (hc:Closed L) (n:Nat) (hn:2 * L.length+2≤n) (M:Memo) (f:List ID) (hf:∀ x∈f,x∈cids L):∃ r,ofF n L M f=some r :=
 X1r hc L.length n M f (fun x hx=>⟨hf x hx,by
  obtain ⟨c,hm,rfl⟩:=Xas.1 (hf x hx)
  rw [Xb5 hc.nodup hm]
  exact Int.le_trans (X1q L hm) (Xr6 hc)⟩) (.inl hn)
theorem Xpi {L:List Commit} (hc:Closed L):∀ x∈frontF L,x∈cids L:=fun x hx=>((Xck hc).1 hx).1
noncomputable def evalN (n:Nat) (L:List Commit):State_:=match ofF n L [] (frontF L) with | some r=>r.1 | none=>st0
noncomputable def evalS (L:List Commit):State_:=evalN (2 * L.length+2) L
noncomputable def evalF (L:List Commit):State_ × Int:=if closedB L then (evalS L,0) else (st0,1)
theorem Xhl {L:List Commit} (hc:Closed L):∃ M,ofF (2 * L.length+2) L [] (frontF L)=some (evalS L,M):=by
 obtain ⟨r,hr⟩:=X1s hc (2 * L.length+2) (Nat.le_refl _) [] (frontF L) (Xpi hc)
 refine ⟨r.2,?_⟩
 unfold evalS evalN
 rw [hr]
theorem Xpj {L:List Commit} (hc:Closed L):Xib L (evalS L):=by
 obtain ⟨M,hM⟩:=Xhl hc
 exact (Xnv L _ _ _ _ hM (by intro p hp; cases hp)).1
theorem Xwt {of of':OfT} (h:∀ M f r,of M f=some r→of' M f=some r) {L:List Commit} {t u:State_ × List ID × Memo} {a:ID} (hs:joinStep of L t a=some u):joinStep of' L t a=some u:=by
 unfold joinStep at hs ⊢
 obtain ⟨x,hx,hs⟩:=Option.bind_eq_some_iff.1 hs
 obtain ⟨y,hy,rfl⟩:=Option.map_eq_some_iff.1 hs
 rw [h _ _ _ hx,Option.bind_some,h _ _ _ hy]; rfl
theorem Xpk {of of':OfT} (h:∀ M f r,of M f=some r→of' M f=some r) {L:List Commit}:∀ {rest:List ID} {t u:State_ × List ID × Memo},rest.foldlM (joinStep of L) t=some u→rest.foldlM (joinStep of' L) t=some u
 | [],_,_,hs=>hs
 | a::rest,t,u,hs=>by
  rw [List.foldlM_cons] at hs ⊢
  obtain ⟨x,hx,hs⟩:=Option.bind_eq_some_iff.1 hs
  rw [Xwt h hx]
  exact Xpk h hs
theorem Xr8 (L:List Commit):∀ (n:Nat) (M:Memo) (f:List ID) (r:State_ × Memo),ofF n L M f=some r→ofF (n+1) L M f=some r
 | 0,M,f,r,h=>by cases h
 | n+1,M,f,r,h=>by
  have ih:=Xr8 L n
  rw [Xfe] at h ⊢
  split at h
  ·rename_i e; rw [if_pos e]; exact h
  ·rename_i hne
   rw [if_neg hne]
   split at h
   ·exact h
   ·rename_i hs
    obtain ⟨u,hu,rfl⟩:=Option.map_eq_some_iff.1 h
    have:bodyF (ofF (n+1) L) L M f=some u:=by
     match f,hne,hu with
     | [a],_,hu =>
      simp only [bodyF,oneF] at hu ⊢
      obtain ⟨x,hx,rfl⟩:=Option.map_eq_some_iff.1 hu
      rw [ih _ _ _ hx]; rfl
     | a::b::rest,_,hu =>
      rw [Xff] at hu ⊢
      unfold stJoin at hu ⊢
      obtain ⟨x,hx,hu⟩:=Option.bind_eq_some_iff.1 hu
      obtain ⟨y,hy,rfl⟩:=Option.map_eq_some_iff.1 hu
      rw [ih _ _ _ hx,Option.bind_some,Xpk ih hy]; rfl
    simp only [this,Option.map_some]
theorem Xzz (L:List Commit) {n m:Nat} (h:n≤m) {M:Memo} {f:List ID} {r:State_ × Memo} (hr:ofF n L M f=some r):ofF m L M f=some r:=by
 induction h with
 | refl=>exact hr
 | step _ ih=>exact Xr8 L _ M f r ih
theorem Xzc {L:List Commit} (hc:Closed L) {n:Nat} (hn:2 * L.length+2≤n):evalN n L=evalS L:=by
 obtain ⟨M,hM⟩:=Xhl hc
 unfold evalN
 rw [Xzz L hn hM]
structure Ahead (L N:List Commit):Prop where
 sub:∀ c∈L,c∈N
 out:∀ c∈N,c∉L→∀ d∈L,idC c∉d.parents
theorem Xpl {L:List Commit} {c:Commit} (hc:Closed L) (hn:Closed (L++[c])) {A:List ID} (hA:∀ x∈A,x∈cids L):ancF (L++[c]) A=ancF L A:=by
 refine (X1o ?_)
 have h0:=Xed L A
 have hk:∀ y∈cids L,∀ x,Xb0 L y x↔Xb0 (L++[c]) y x:=fun y hy x=>Xey (fun d hd=>List.mem_append_left _ hd) hn.nodup (fun d hd p hp=>(hc.fine d hd).here p hp) hy x
 refine ⟨h0.sorted,h0.nodup,fun _ x=>?_,fun h=>absurd hn h⟩
 rw [h0.mem hc x]
 unfold Xtp
 constructor
 ·rintro ⟨h1,h2⟩
  refine ⟨by rw [cids,List.map_append]; exact List.mem_append_left _ h1,h2.imp id ?_⟩
  rintro ⟨y,hy,h⟩; exact ⟨y,hy,(hk y (hA y hy) x).1 h⟩
 ·rintro ⟨h1,h2⟩
  rcases h2 with h2 | ⟨y,hy,h⟩
  ·exact ⟨hA x h2, .inl h2⟩
  ·have:=(hk y (hA y hy) x).2 h
   exact ⟨(Xfw this).2, .inr ⟨y,hy,this⟩⟩
theorem Xty {L:List Commit} {c:Commit} (hc:Closed L) (hn:Closed (L++[c])) {A B:List ID} (hA:∀ x∈A,x∈cids L) (hB:∀ x∈B,x∈cids L):lastE (L++[c]) A B=lastE L A B:=by
 unfold lastE
 have e:baseF (L++[c]) A B=baseF L A B:=by unfold baseF; rw [Xpl hc hn hA,Xpl hc hn hB]
 rw [e]
 have hout:idC c∉baseF L A B:=by
  intro h
  have h1:=(Xk2 hc A B).ids hc h
  have:=hn.nodup
  rw [cids,List.map_append,List.nodup_append] at this
  exact this.2.2 _ h1 _ (by simp) rfl
 have:partF (L++[c]) (baseF L A B)=partF L (baseF L A B):=by
  unfold partF
  rw [Xan hc,Xan hn,if_pos rfl,if_pos rfl,List.filter_append]
  simp [hout]
 rw [this]
theorem Xtz {L:List Commit} {c:Commit} (hc:Closed L) (hn:Closed (L++[c])) {a:ID} (ha:a∈cids L):Xcf (L++[c]) a=Xcf L a:=by
 obtain ⟨d,hd,rfl⟩:=Xas.1 ha
 rw [Xdx hc hd,Xdx hn (List.mem_append_left _ hd)]
theorem Xml {of of':OfT} {L:List Commit} {c:Commit} (hc:Closed L) (hn:Closed (L++[c])) (ih:∀ M f,(∀ x∈f,x∈cids L)→of' M f=of M f):∀ (rest:List ID) (t:State_ × List ID × Memo),(∀ x∈rest,x∈cids L)→(∀ x∈t.2.1,x∈cids L)→rest.foldlM (joinStep of' (L++[c])) t=rest.foldlM (joinStep of L) t
 | [],_,_,_=>rfl
 | a::rest,t,hr,ht=>by
  have ha:=hr a (by simp)
  have h1:∀ x∈[a],x∈cids L:=fun x hx=>by rw [List.mem_singleton.1 hx]; exact ha
  have e:joinStep of' (L++[c]) t a=joinStep of L t a:=by
   unfold joinStep
   rw [Xty hc hn ht h1,ih _ _ (fun x hx=>(Xjl hc hx).2)]
   congr 1
   funext u
   rw [ih _ _ h1]
  rw [List.foldlM_cons,List.foldlM_cons,e]
  cases hj:joinStep of L t a with
  | none=>rfl
  | some u =>
   have hu:∀ x∈u.2.1,x∈cids L:=by
    unfold joinStep at hj
    obtain ⟨x,hx,hj⟩:=Option.bind_eq_some_iff.1 hj
    obtain ⟨y,hy,rfl⟩:=Option.map_eq_some_iff.1 hj
    intro z hz
    simp only [Xq3] at hz
    rcases List.mem_append.1 ((Xev _ _).1 (Xfq.1 hz)) with hz | hz
    ·exact ht z hz
    ·exact h1 z hz
   exact Xml hc hn ih rest u (fun x hx=>hr x (List.mem_cons_of_mem _ hx)) hu
theorem Xpm {L:List Commit} {c:Commit} (hc:Closed L) (hn:Closed (L++[c])):∀ (n:Nat) (M:Memo) (f:List ID),(∀ x∈f,x∈cids L)→ofF n (L++[c]) M f=ofF n L M f
 | 0,_,_,_=>rfl
 | n+1,M,f,hf=>by
  have ih:=Xpm hc hn n
  simp only [ofF]
  split
  ·rfl
  ·rename_i hne
   cases getS M (keyF f) with
   | some s=>rfl
   | none =>
    simp only
    congr 1
    match f,hne,hf with
    | [a],_,hf =>
     have ha:=hf a (by simp)
     simp only [bodyF,oneF,Xtz hc hn ha]
     obtain ⟨d,hd,rfl⟩:=Xas.1 ha
     rw [ih]
     rw [Xdx hc hd]
     exact fun x hx=>(hc.fine d hd).here x hx
    | a::b::rest,_,hf =>
     have h1:∀ x∈[a],x∈cids L:=fun x hx=>by rw [List.mem_singleton.1 hx]; exact hf a (by simp)
     rw [Xff,Xff]
     unfold stJoin
     rw [ih _ _ h1]
     congr 1
     funext u
     rw [Xml hc hn ih _ _ (fun x hx=>hf x (List.mem_cons_of_mem _ hx)) h1]
theorem Xt0 {L:List Commit} {ev:Ev_} {o:Op_} {c:Commit} (h:nextF L ev o=(c,true)):evalS (L++[c])=(stDo (evalS L) o ev c.gen).1∧doOk (evalS L) o ev c.gen=true:=by
 obtain ⟨h1,hc,hm,hn⟩:=Xq2 h
 have hcm:c∈L++[c]:=by simp
 obtain ⟨M,hM⟩:=Xhl hc
 have hpar:c.parents=frontF L:=by rw [h1]; rfl
 have hop:c.op=o:=by rw [h1]; rfl
 have hev:c.ev=ev:=by rw [h1]; rfl
 constructor
 ·rw [← Xzc hn (n:=2 * (L++[c]).length+2+1) (by omega)]
  unfold evalN
  rw [Xtw h,Xfe,if_neg (List.cons_ne_nil _ _)]
  have hg:getS [] (keyF [idC c])=none:=rfl
  simp only [hg,bodyF,oneF,Xdx hn hcm,hpar]
  rw [Xpm hc hn _ _ _ (Xpi hc),Xzz L (m:=2 * (L++[c]).length+2) (by simp; omega) hM]
  simp only [Option.map_some,hop,hev]
 ·have h2:=(Xpj hc).may
  have h3:Xes o=true∧Xs5 ev=true∧1≤c.gen:=by
   have hfine:=hn.fine c hcm
   have hmg:=hfine.merge
   unfold may at hm
   unfold merge at hmg
   rw [← hop,← hev]
   have hg:1≤c.gen:=Xq1 hn hcm
   split at hm
   ·cases hm
   ·split at hm
    ·rename_i hx
     exfalso
     have hmay:=hn.may c hcm
     rw [hx,hmay] at hmg
     simp at hmg
    ·simp only [inB,Bool.and_eq_true,decide_eq_true_eq] at hm
     refine ⟨hm.2,?_,hg⟩
     simp only [Xs5,Bool.and_eq_true,decide_eq_true_eq]
     omega
  unfold doOk
  rw [h2,h3.1,h3.2.1,decide_eq_true h3.2.2]; rfl
end
end
section
open Go Go.RowKit Go.Sort Go.Shelf
theorem Xz0 {α:Type} (enc:α→List Value) (k:Nat) (hk:∀ x,(enc x).length=k) (h0:0 < k):∀ (L:List α) (t:Nat),t < L.length * k→(fl enc L)[t]? = (L[t / k]?).bind fun x=>(enc x)[t % k]?
 | [],t,h=>by simp at h
 | a::L,t,h=>by
  rw [Xfa]
  by_cases ht:t < k
  ·rw [List.getElem?_append_left (by rw [hk]; exact ht),Nat.div_eq_of_lt ht,Nat.mod_eq_of_lt ht]; rfl
  ·rw [List.getElem?_append_right (by rw [hk]; omega),hk,Xz0 enc k hk h0 L (t - k) (by rw [List.length_cons,Nat.add_mul] at h; omega)]
   have e1:t / k=(t - k) / k+1:=Nat.div_eq_sub_div h0 (by omega)
   have e2:t % k=(t - k) % k:=Nat.mod_eq_sub_mod (by omega)
   rw [e1,e2,List.getElem?_cons_succ]
theorem Xr9 {α:Type} [Inhabited α] (enc:α→List Value) (k:Nat) (hk:∀ x,(enc x).length=k) (h0:0 < k) (d:Array α):flatK enc k d=(fl enc d.toList).toArray:=by
 have hlen:(fl enc d.toList).length=d.size * k:=by
  rw [← Array.length_toList]
  generalize d.toList=L
  induction L with
  | nil=>simp [fl]
  | cons a L ih=>rw [Xfa,List.length_append,hk,ih,List.length_cons,Nat.add_mul]; omega
 apply Array.ext
 ·simp [hlen]
 ·intro t h1 h2
  rw [size_flatK] at h1
  have hq:t / k < d.size:=Nat.div_lt_of_lt_mul (by rw [Nat.mul_comm]; exact h1)
  have hr:t % k < (enc d[t / k]).length:=by rw [hk]; exact Nat.mod_lt _ h0
  have h3:=Xz0 enc k hk h0 d.toList t (by rw [Array.length_toList]; exact h1)
  rw [show d.toList[t / k]? = some d[t / k] by simp [hq],Option.bind_some,List.getElem?_eq_getElem hr] at h3
  rw [← getElem!_pos (flatK enc k d) t (by rw [size_flatK]; exact h1),get_flatK _ _ _ _ h1,getElem!_pos d _ hq,getElem!_pos (enc d[t / k]) _ hr]
  have h4:(fl enc d.toList)[t]? = some ((fl enc d.toList).toArray[t]):=by simp [List.getElem?_eq_getElem (show t < (fl enc d.toList).length by rw [hlen]; exact h1)]
  rw [h3] at h4
  exact Option.some.inj h4
theorem Xzd [Dr] {α:Type} [Inhabited α] {P:Program} {ρ:Ren} (Ly:Go.Proofs.SlLaysF0.n6 P ρ) (k:Nat) (h0:0 < k) (aE:∀ w,(isAgg (ρ.t 24)).run P w = .ok true w) (zE:∀ w,(Go.sizeOf (ρ.t 24)).run P w = .ok k w) (enc:α→List Value)
  (hk:∀ x,(enc x).length=k) (h1:∀ x,∀ v∈enc x,v.oneCell'=true) (cf:α→α→Int) (hO:SWO (Go.Proofs.ltOf cf)) (hT:∀ x y,(Go.Proofs.ltOf cf) x y=false→(Go.Proofs.ltOf cf) y x=false→x=y) (g:FuncId) [eg:Body P g]
  {w0 w:World} {F:Nat→Prop} {Γ:List Fact} {b c:Nat} {el:TypeId} {L:List α} {junk:List Value} (hs:L.length < 4611686018427387904)
  (ho:Hold w0 F (.own b el (fl enc L++junk)::Γ) w)
  (hc:∀ (W:World) (p q:α),@GivesV ⟨True⟩ P g [.agg ⟨enc p⟩, .agg ⟨enc q⟩] W (fun _=>True) (.int .i64 (cf p q))) :
  Calls P (ρ.f 6) ⟨[.slice (some ⟨b,0,none⟩) L.length c, .func (.func g) ⟨[]⟩ ⟨[]⟩]⟩ w fun x w'=>∃ y:Unit,x = .returned (.tuple ⟨[]⟩)∧Hold w0 F (.own b el (fl enc (L.mergeSort fun x y=>!(Go.Proofs.ltOf cf) y x)++junk)::Γ) w':=by
 have hw:w.heap[b]? = some (.cells (fl enc L++junk).toArray el (0,0)):=ho.sat (.own b el _) (by simp)
 have hlt:b < w.heap.size:=(Array.getElem?_eq_some_iff.1 hw).1
 have hfl:flatK enc k L.toArray=(fl enc L).toArray:=by rw [Xr9 enc k hk h0]
 have hH:HoldsK enc k w b 0 L.toArray:=by
  intro j hj
  rw [hfl] at hj ⊢
  have hj':j < (fl enc L).length:=by simpa using hj
  constructor
  ·rw [Nat.zero_add,cell_of_row w b j _ el _ hw,getElem!_pos _ j hj]
   rw [Array.getElem?_eq_getElem (by simp; omega)]
   simp [hj']
  ·simp [World.frozen?,hw]
 have hcmp:Go.Proofs.CmpLays P g #[] enc k cf b 0 L.toArray.size w:=by
  intro q os dk hdk x y
  refine Calls.mono (hc _ x y) ?_
  rintro e w' ⟨_,he,hb,_⟩
  exact ⟨he,Xk0 (dr:=⟨True⟩) trivial hb⟩
 have hx:=Go.Proofs.AnyQ.slices_SortFunc_total Ly k aE zE enc hk h1 cf hO g #[] b 0 c L.toArray w eg.ok hcmp hH hlt (by simpa using hs) hT
 simp only [List.size_toArray] at hx
 refine Calls.mono hx ?_
 rintro x w' ⟨hx,q,os,rfl⟩
 refine ⟨(),hx,?_⟩
 generalize hS:(L.mergeSort fun x y=>!(Go.Proofs.ltOf cf) y x)=S
 have hSl:S.length=L.length:=by rw [← hS]; simp
 have hfS:flatK enc k S.toArray=(fl enc S).toArray:=by rw [Xr9 enc k hk h0]
 have hlenL:(fl enc L).length=L.length * k:=by
  have:=congrArg Array.size hfl
  simpa using this.symm
 have hlenS:(fl enc S).length=(fl enc L).length:=by
  have:=congrArg Array.size hfS
  rw [hlenL,← hSl]
  simpa using this.symm
 have hrow:(Go.Sort.putRow id (Go.Sort.ahead w q) b 0 (fl enc S).toArray).heap[b]? = some (.cells (fl enc S++junk).toArray el (0,0)):=by
  have:(Go.Sort.ahead w q).heap[b]? = some (.cells (fl enc L++junk).toArray el (0,0)):=hw
  simp only [Go.Sort.putRow,Go.Sort.mapBlock,Array.getElem?_modify,this]
  simp only [if_true,Option.map_some,Go.Sort.onCells]
  congr 2
  apply Array.ext_getElem?
  intro i
  simp only [Go.Sort.putCells,Array.getElem?_mapIdx]
  by_cases hi:i < (fl enc S).length
  ·have hi':i < (fl enc L).length:=by omega
   simp [hi,hi',List.getElem?_append_left]
  ·simp only [List.getElem?_toArray]
   rw [List.getElem?_append_right (by omega),List.getElem?_append_right (by omega),hlenS]
   cases junk[i - (fl enc L).length]? with
   | none=>rfl
   | some v=>simp [hi]
 have h2:Hold w0 F (.own b el (fl enc S++junk)::Γ) (Go.Sort.putRow id (Go.Sort.ahead w q) b 0 (fl enc S).toArray) :=
  ho.swap (b:=b) (fun _=>Iff.rfl) (fun _=>Iff.rfl) rfl rfl rfl (by simp [Go.Sort.putRow,Go.Sort.mapBlock,Go.Sort.ahead])
   (fun k hk=>by simp [Go.Sort.putRow,Go.Sort.mapBlock,Array.getElem?_modify,Ne.symm hk,Go.Sort.ahead]) hrow (hdr:=Nat.le_add_right _ _)
 have e9:Go.Proofs.sortWorldK enc k w b 0 q S.toArray os=grow (Go.Sort.putRow id (Go.Sort.ahead w q) b 0 (fl enc S).toArray) os:=by
  unfold Go.Proofs.sortWorldK Go.Sort.putRowK
  rw [hfS]
 rw [e9]
 exact h2.of_below ⟨rfl,rfl,rfl,by simp [grow,Go.Sort.putRow,Go.Sort.mapBlock,Go.Sort.ahead],fun k hk=>heap_grow_old _ _ hk,fun _=>Nat.le_refl _⟩
end
section
variable {P:Program}
theorem Xiu (d:Nat) (w:World) (xs ys:Array Value):∀ (fs:List Field) (bs:List Bool),bs.length=fs.length →
  (∀ (j:Nat) (f:Field) (b:Bool),fs[j]? = some f→bs[j]? = some b→f.name ≠ "_" ∧ ∃ va vb,(part f.type xs f.offset).run P w = .ok va w∧(part f.type ys f.offset).run P w = .ok vb w∧(Op.equalIn d f.type va vb).run P w = .ok b w) →
  (Op.eqFields d xs ys fs).run P w = .ok (bs.all id) w
 | [],bs,hb,_=>by
  have:bs=[]:=List.eq_nil_of_length_eq_zero hb
  subst bs
  simp [Op.eqFields]
 | f::fs,[],hb,_=>by simp at hb
 | f::fs,b::bs,hb,h=>by
  obtain ⟨h1,va,vb,h2,h3,h4⟩:=h 0 f b rfl rfl
  have ih:=Xiu d w xs ys fs bs (by simpa using hb) (fun j g c hg hc=>h (j+1) g c (by simpa using hg) (by simpa using hc))
  simp only [Op.eqFields,h1,ne_eq,not_false_eq_true,if_true,Sem.run_bind,h2,h3,h4,Result.andThen_ok]
  cases b with
  | true=>simp only [Bool.not_true,Bool.false_eq_true,if_false,ih,List.all_cons,id,Bool.true_and]
  | false=>simp
theorem Xwu {ft:TypeId} {fs:Array Field} {sz by_:Nat} {z:Value} (hT:Ty P ft (.struct fs) sz by_ z) (cs:List Value) (off:Nat) (w:World):(part ft ⟨cs⟩ off).run P w = .ok (.agg ⟨(cs.drop off).take sz⟩) w:=by
 have h1:(isAgg ft).run P w = .ok true w:=by
  unfold isAgg
  rw [Sem.run_bind,run_underlying hT.und]; rfl
 have h2:(Go.sizeOf ft).run P w = .ok sz w:=Xbg (P:=P) (t:=ft) w
 simp only [part,Sem.run_bind,h1,Result.andThen_ok,if_true,h2,Sem.run_pure]
 congr 2
 apply Array.ext'
 simp [List.take_drop]
theorem Xf1 (em:Bool) (n:Nat) {t:TypeId} {fs:List Field} (hu:P.underlying t=some (.struct ⟨fs⟩)) (cs:Array Value) (w:World)
  (h:∀ f∈fs,f.name ≠ "_" ∧ ∃ v,(part f.type cs f.offset).run P w = .ok v w∧(Instr.checkKey em n f.type v).run P w = .ok () w):(Instr.checkKey em (n+1) t (.agg cs)).run P w = .ok () w:=by
 rw [Instr.checkKey]
 simp only [Sem.run_bind,run_underlying hu,Result.andThen_ok]
 rw [← Array.forIn_toList]
 simp only
 clear hu
 induction fs with
 | nil=>simp
 | cons f fs ih =>
  obtain ⟨h1,v,h2,h3⟩:=h f (by simp)
  have:=ih (fun g hg=>h g (List.mem_cons_of_mem _ hg))
  simp only [List.forIn_cons,Sem.run_bind,h1,ne_eq,not_false_eq_true,if_true,h2,h3,Result.andThen_ok,Sem.run_pure]
  simpa using this
class Fls (P:Program) (fs:List Field) (o:Nat) (u v:List Value) (bs:outParam (List Bool)):Prop where
 ok:bs.length=fs.length∧∀ (U V:List Value),U.drop o=u→V.drop o=v→∀ (w:World) (j:Nat) (f:Field) (b:Bool),fs[j]? = some f→bs[j]? = some b→f.name ≠ "_" ∧ ∃ va vb,
  (part f.type ⟨U⟩ f.offset).run P w = .ok va w∧(part f.type ⟨V⟩ f.offset).run P w = .ok vb w∧(Op.equalIn 9999 f.type va vb).run P w = .ok b w∧∀ em,(Instr.checkKey em 9999 f.type va).run P w = .ok () w
instance {P:Program} {o:Nat}:Fls P [] o [] [] []:=⟨rfl,by simp⟩
theorem Xgd {U:List Value} {o:Nat} {x:Value} {u:List Value} (h:U.drop o=x::u):U[o]? = some x∧U.drop (o+1)=u:=by
 constructor
 ·have:=congrArg (·[0]?) h
  simpa using this
 ·have:=congrArg (List.drop 1) h
  simpa [Nat.add_comm] using this
theorem Xz1 {o:Nat} {nm tag pp:String} {ft bo:Nat} {em:Bool} {fs:List Field} {a a':Sc} {u v:List Value} {bs:List Bool} (hn:nm ≠ "_") (ha:a.fits P ft) (ha':a'.fits P ft) (h:Fls P fs (o+1) u v bs) :
  Fls P (⟨nm,ft,o,em,tag,pp,bo⟩::fs) o (a.val::u) (a'.val::v) (decide (a=a')::bs):=by
 refine ⟨by simp [h.ok.1],fun U V hU hV w j f b hf hb=>?_⟩
 obtain ⟨hU1,hU2⟩:=Xgd hU
 obtain ⟨hV1,hV2⟩:=Xgd hV
 cases j with
 | zero =>
  simp at hf hb; subst hf hb
  refine ⟨hn,_,_,Xjv ha hU1 w,Xjv ha' hV1 w,Xgh 9998 ha ha' w,fun em=>?_⟩
  cases a with
  | int k n=>exact Go.MapKept.run_checkKey ha (by simp [Go.MapKept.IsKey,Sc.val]) em 9998
  | str s=>exact Go.MapKept.run_checkKey ha (by simp [Go.MapKept.IsKey,Sc.val]) em 9998
 | succ j=>exact h.ok.2 U V hU2 hV2 w j f b (by simpa using hf) (by simpa using hb)
instance {P:Program} {nm tag pp:String} {o ft bo sz by_:Nat} {z:Value} {em:Bool} {fs:List Field} {k:IntKind} {m m':Int} {u v:List Value} {bs:List Bool} [hn:NotBlank nm] [hT:Ty P ft (.int k) sz by_ z] [h:Fls P fs (o+1) u v bs] :
  Fls P (⟨nm,ft,o,em,tag,pp,bo⟩::fs) o (.int k m::u) (.int k m'::v) (decide (m=m')::bs):=by
 have:=Xz1 (o:=o) (tag:=tag) (pp:=pp) (bo:=bo) (em:=em) (a:=.int k m) (a':=.int k m') hn.ok hT.und hT.und h
 rwa [show decide (Sc.int k m=Sc.int k m')=decide (m=m') from decide_eq_decide.2 (by simp)] at this
instance {P:Program} {nm tag pp:String} {o ft bo sz by_:Nat} {z:Value} {em:Bool} {fs:List Field} {s s':ByteArray} {u v:List Value} {bs:List Bool} [hn:NotBlank nm] [hT:Ty P ft .string sz by_ z] [h:Fls P fs (o+1) u v bs] :
  Fls P (⟨nm,ft,o,em,tag,pp,bo⟩::fs) o (.string s::u) (.string s'::v) (decide (s=s')::bs):=by
 have:=Xz1 (o:=o) (tag:=tag) (pp:=pp) (bo:=bo) (em:=em) (a:=.str s) (a':=.str s') hn.ok hT.und hT.und h
 rwa [show decide (Sc.str s=Sc.str s')=decide (s=s') from decide_eq_decide.2 (by simp)] at this
instance {P:Program} {nm tag pp:String} {o ft bo by_:Nat} {z:Value} {em:Bool} {fs es:List Field} {a b a' b':Int} {u v:List Value} {bs:List Bool} [hn:NotBlank nm] [hT:Ty P ft (.struct ⟨es⟩) 2 by_ z] [hp:Plain P ft]
  [h1:Scs P es 0 [.int .i64 a, .int .i64 b] [.int .i64 a, .int .i64 b]] [h2:Scs P es 0 [.int .i64 a', .int .i64 b'] [.int .i64 a', .int .i64 b']] [h:Fls P fs (o+2) u v bs] :
  Fls P (⟨nm,ft,o,em,tag,pp,bo⟩::fs) o (.int .i64 a::.int .i64 b::u) (.int .i64 a'::.int .i64 b'::v) (decide ((⟨a,b⟩:Ev_)=⟨a',b'⟩)::bs):=by
 refine ⟨by simp [h.ok.1],fun U V hU hV w j f c hf hc=>?_⟩
 have hU2:=(Xgd (Xgd hU).2).2
 have hV2:=(Xgd (Xgd hV).2).2
 cases j with
 | zero =>
  simp only [List.getElem?_cons_zero,Option.some.injEq] at hf hc; subst hf hc
  refine ⟨hn.ok, .agg ⟨[.int .i64 a, .int .i64 b]⟩, .agg ⟨[.int .i64 a', .int .i64 b']⟩,?_,?_,?_,fun em=>?_⟩
  ·rw [Xwu hT,hU]; rfl
  ·rw [Xwu hT,hV]; rfl
  ·rw [show 9999=9998+1 from rfl,run_equalIn_struct (P:=P) w 9998 ft _ _ (by rw [Xc8 hT]; exact hT.und) hp.stood,Xc8 hT]
   have:=Xgn 9997 w [.int .i64 a, .int .i64 b] [.int .i64 a', .int .i64 b'] es [.int .i64 a, .int .i64 b] [.int .i64 a', .int .i64 b'] h1.ok.1 h2.ok.1 (fun j f x y hf hx hy=>by
    obtain ⟨p1,p2,_,p4⟩:=h1.ok.2 j f x hf hx
    obtain ⟨_,q2,_,q4⟩:=h2.ok.2 j f y hf hy
    exact ⟨p1,p2,q2,by simpa using p4,by simpa using q4⟩)
   have e9:decide (([.int .i64 a, .int .i64 b]:List Sc)=[.int .i64 a', .int .i64 b'])=decide ((⟨a,b⟩:Ev_)=⟨a',b'⟩):=decide_eq_decide.2 (by simp)
   rw [this,e9]
  ·refine Xf1 em 9998 hT.und _ w fun f hf=>?_
   obtain ⟨j,hj,rfl⟩:=List.getElem_of_mem hf
   have hl:j < 2:=by have h9:2=es.length:=h1.ok.1; omega
   obtain ⟨x,hx⟩:∃ x,([.int .i64 a, .int .i64 b]:List Sc)[j]? = some x:=⟨_,List.getElem?_eq_getElem (by simpa using hl)⟩
   obtain ⟨p1,p2,_,p4⟩:=h1.ok.2 j _ x (List.getElem?_eq_getElem hj) hx
   refine ⟨p1,x.val,Xjv p2 (by simpa using p4) w,?_⟩
   cases x with
   | int k n=>exact Go.MapKept.run_checkKey p2 (by simp [Go.MapKept.IsKey,Sc.val]) em 9997
   | str s=>exact Go.MapKept.run_checkKey p2 (by simp [Go.MapKept.IsKey,Sc.val]) em 9997
 | succ j=>exact h.ok.2 U V hU2 hV2 w j f c (by simpa using hf) (by simpa using hc)
theorem Xdy {ty:TypeId} {fs:List Field} {sz by_:Nat} {z:Value} {u v:List Value} {bs:List Bool} (hT:Ty P ty (.struct ⟨fs⟩) sz by_ z) (hp:Plain P ty) (h:Fls P fs 0 u v bs) (w:World) :
  (Op.equal ty (.agg ⟨u⟩) (.agg ⟨v⟩)).run P w = .ok (bs.all id) w:=by
 unfold Op.equal
 rw [show Op.maxDepth=9999+1 from rfl,run_equalIn_struct (P:=P) w 9999 ty ⟨u⟩ ⟨v⟩ (by rw [Xc8 hT]; exact hT.und) hp.stood,Xc8 hT]
 exact Xiu 9999 w ⟨u⟩ ⟨v⟩ fs bs h.ok.1 fun j f b hf hb=>by
  obtain ⟨h1,va,vb,h2,h3,h4,_⟩:=h.ok.2 u v rfl rfl w j f b hf hb
  exact ⟨h1,va,vb,h2,h3,h4⟩
abbrev Xbd (p:Pair_):Value:=.agg ⟨Xcc p⟩
theorem Xsa (p q:Pair_):([decide (p.key=q.key),decide (p.elem=q.elem),decide (p.ev=q.ev)]:List Bool).all id=decide (p=q):=by
 obtain ⟨k,u,e⟩:=p
 obtain ⟨k',u',e'⟩:=q
 rw [Bool.eq_iff_iff]
 simp
theorem MKey.pair {k:TypeId} {fs:List Field} {by_:Nat} {z:Value} (hT:Ty P k (.struct ⟨fs⟩) 4 by_ z) (hp:Plain P k) (hf:∀ p q:Pair_,Fls P fs 0 (Xcc p) (Xcc q) [decide (p.key=q.key),decide (p.elem=q.elem),decide (p.ev=q.ev)]):MKey P k Xbd:=by
 have heq:∀ (p q:Pair_) (w:World),(Op.equal k (Xbd p) (Xbd q)).run P w = .ok (decide (p=q)) w:=fun p q w=>by
  rw [← Xsa]; exact Xdy hT hp (hf p q) w
 have hinj:∀ a b:Pair_,Xbd a=Xbd b→a=b:=fun a b h=>by
  obtain ⟨k1,u1,⟨n1,s1⟩⟩:=a
  obtain ⟨k2,u2,⟨n2,s2⟩⟩:=b
  simp only [Xbd,Xcc,Value.agg.injEq,Array.mk.injEq,List.cons.injEq,Value.string.injEq,Value.int.injEq,true_and,and_true] at h
  obtain ⟨rfl,rfl,rfl,rfl⟩:=h
  rfl
 have hask:∀ (w:World) (a:Pair_) (es:List MapEntry) (i:Nat),(∀ x∈es,∃ c,x.key=Xbd c) →
   ((Instr.findAsking k (Xbd a) es i).run P w = .ok none w∧∀ x∈es,x.key≠Xbd a)∨∃ j x,(Instr.findAsking k (Xbd a) es i).run P w = .ok (some (i+j,x.val)) w∧es[j]? = some x∧x.key=Xbd a:=by
  intro w a es
  induction es with
  | nil=>intro i _; exact .inl ⟨by simp [Instr.findAsking],by simp⟩
  | cons x es ih =>
   intro i hes
   obtain ⟨c,hc⟩:=hes x (by simp)
   simp only [Instr.findAsking,Sem.run_bind,hc,heq,Result.andThen_ok]
   by_cases e:a=c
   ·subst e
    refine .inr ⟨0,x,by simp,by simp,hc⟩
   ·rw [decide_eq_false e]
    simp only [Bool.false_eq_true,if_false]
    rcases ih (i+1) (fun y hy=>hes y (List.mem_cons_of_mem _ hy)) with ⟨h1,h2⟩ | ⟨j,y,h1,h2,h3⟩
    ·refine .inl ⟨h1,fun y hy=>?_⟩
     rcases List.mem_cons.1 hy with rfl | hy
     ·rw [hc]; exact fun h=>e (hinj _ _ h).symm
     ·exact h2 y hy
    ·exact .inr ⟨j+1,y,by rw [h1]; congr 3; omega,by simpa using h2,h3⟩
 refine ⟨hinj,fun w em a=>?_,fun w a es hes=>?_,fun w a=>?_⟩
 ·refine Xf1 em 9999 hT.und _ w fun f hf'=>?_
  obtain ⟨j,hj,rfl⟩:=List.getElem_of_mem hf'
  have h0:=(hf a a).ok
  have hb:∃ b,([decide (a.key=a.key),decide (a.elem=a.elem),decide (a.ev=a.ev)]:List Bool)[j]? = some b:=⟨_,List.getElem?_eq_getElem (by rw [h0.1]; exact hj)⟩
  obtain ⟨b,hb⟩:=hb
  obtain ⟨h1,va,vb,h2,h3,h4,h5⟩:=h0.2 (Xcc a) (Xcc a) rfl rfl w j _ b (List.getElem?_eq_getElem hj) hb
  exact ⟨h1,va,h2,h5 em⟩
 ·have hk:=hask w a es 0 hes
  simp only [Nat.zero_add] at hk
  unfold Instr.findKey
  simp only [Sem.run_bind,run_underlying hT.und,Result.andThen_ok]
  cases es with
  | nil=>exact .inl ⟨by simp [Instr.findNow],by simp⟩
  | cons x es =>
   obtain ⟨c,hc⟩:=hes x (by simp)
   have:Instr.findNow (.struct ⟨fs⟩) (Xbd a) (x::es) 0=none:=by simp [Instr.findNow,Instr.sameNow]
   simp only [this]
   exact hk
 ·simp [Instr.keyThatStays,Instr.sameBits,Xbd,Xcc,Xzp]
end
section
variable {P:Program} {n:Nn} {w0:World} {F:Nat→Prop} {d:Option Nat} {t:TypeId} {pos:String} {aft:Array Edge} {g:Option (Nat × Bool)} {e:E} {Γ:List Fact}
theorem Xq4 [Dr] {x y:Operand} {ty yt:TypeId} {fs:List Field} {p q:Pair_} {sz by_:Nat} {z:Value} [hx:Ev e x (.agg ⟨Xcc p⟩)] [hy:Ev e y (.agg ⟨Xcc q⟩)] [hp:Plain P ty] [hT:Ty P ty (.struct ⟨fs⟩) sz by_ z]
  (hf:Fls P fs 0 (Xcc p) (Xcc q) [decide (p.key=q.key),decide (p.elem=q.elem),decide (p.ev=q.ev)]):OpV P n w0 F ⟨d, .binOp .neq ty x y yt,t,pos,aft,g⟩ e Γ (.bool (!decide (p=q))) :=
 Xf7 fun w=>by rw [← Xsa]; exact Xdy hT hp hf w
theorem Xt1 [Dr] {x y:Operand} {ty yt:TypeId} {fs:List Field} {p q:Reg_} {sz by_:Nat} {z:Value} [hx:Ev e x (.agg ⟨regC p⟩)] [hy:Ev e y (.agg ⟨regC q⟩)] [hp:Plain P ty] [hT:Ty P ty (.struct ⟨fs⟩) sz by_ z]
  (hf:Fls P fs 0 (regC p) (regC q) [decide (p.key=q.key),decide (p.elem=q.elem),decide (p.gen=q.gen),decide (p.ev=q.ev)]):OpV P n w0 F ⟨d, .binOp .neq ty x y yt,t,pos,aft,g⟩ e Γ (.bool (!decide (p=q))) :=
 Xf7 fun w=>by
  rw [Xdy hT hp hf w]
  congr 1
  obtain ⟨k,u,m,e⟩:=p
  obtain ⟨k',u',m',e'⟩:=q
  rw [Bool.eq_iff_iff]
  simp
theorem Xt2 [Dr] {x y:Operand} {ty yt:TypeId} {fs:List Field} {p q:Ctr_} {sz by_:Nat} {z:Value} [hx:Ev e x (.agg ⟨ctrC p⟩)] [hy:Ev e y (.agg ⟨ctrC q⟩)] [hp:Plain P ty] [hT:Ty P ty (.struct ⟨fs⟩) sz by_ z]
  (hf:Fls P fs 0 (ctrC p) (ctrC q) [decide (p.key=q.key),decide (p.n=q.n)]):OpV P n w0 F ⟨d, .binOp .neq ty x y yt,t,pos,aft,g⟩ e Γ (.bool (!decide (p=q))) :=
 Xf7 fun w=>by
  rw [Xdy hT hp hf w]
  congr 1
  obtain ⟨k,u⟩:=p
  obtain ⟨k',u'⟩:=q
  rw [Bool.eq_iff_iff]
  simp
end
section
variable {K:Type} [DecidableEq K]
abbrev Cnt (K:Type):=List (K × Int)
def cntM (M:Cnt K):List (K × Value):=M.map fun p=>(p.1, .int .i64 p.2)
def Xei (M:Cnt K) (k:K):Int:=match M.find? (fun p=>decide (p.1=k)) with | some p=>p.2 | none=>0
def Xb1 (M:Cnt K) (k:K):Cnt K:=if (M.findIdx? (fun p=>decide (p.1=k))).isSome then M else M++[(k,0)]
def Xf2 (M:Cnt K) (k:K):Nat:=(M.findIdx? (fun p=>decide (p.1=k))).getD M.length
def Xds (M:Cnt K) (i:Nat) (v:Int):Cnt K:=M.modify i fun p=>(p.1,v)
def putN (M:Cnt K) (k:K) (v:Int):Cnt K:=Xds (Xb1 M k) (Xf2 M k) v
theorem Xdl (M:Cnt K):(cntM M).map (·.1)=M.map (·.1):=by simp [cntM,Function.comp_def]
theorem Xee (M:Cnt K):(cntM M).length=M.length:=by simp [cntM]
theorem Xde (M:Cnt K) (k:K):(Xa4 (cntM M) k).getD (.int .i64 0) = .int .i64 (Xei M k):=by
 unfold Xa4 cntM Xei
 rw [List.find?_map]
 simp only [Function.comp_def]
 cases M.find? (fun p=>decide (p.1=k)) <;> rfl
theorem X1t (M:Cnt K) (k:K):plc (cntM M) k=M.findIdx? (fun p=>decide (p.1=k)):=by
 unfold plc cntM
 rw [List.findIdx?_map]
 rfl
theorem Xgx (M:Cnt K) (k:K):(Xb1 M k).map (·.1)=addK (M.map (·.1)) k:=by
 unfold Xb1 addK
 cases h:M.findIdx? (fun p=>decide (p.1=k)) with
 | none =>
  have:k∉M.map (·.1):=by
   intro hk
   obtain ⟨p,hp,rfl⟩:=List.mem_map.1 hk
   have:=List.findIdx?_eq_none_iff.1 h p hp
   simp at this
  rw [if_neg this]; simp
 | some i =>
  obtain ⟨h1,h2,h3⟩:=List.findIdx?_eq_some_iff_getElem.1 h
  have hk:M[i].1=k:=by simpa using h2
  rw [if_pos (List.mem_map.2 ⟨M[i],List.getElem_mem h1,hk⟩)]
  simp
theorem Xf3 {M:Cnt K} (h:(M.map (·.1)).Nodup) (k:K):((Xb1 M k).map (·.1)).Nodup:=by rw [Xgx]; exact Xch h k
theorem Xe1 (M:Cnt K) (k:K):Xf2 M k < (Xb1 M k).length:=by
 unfold Xf2 Xb1
 cases h:M.findIdx? (fun p=>decide (p.1=k)) with
 | none=>simp
 | some i =>
  obtain ⟨h1,_,_⟩:=List.findIdx?_eq_some_iff_getElem.1 h
  simpa using h1
theorem Xgy (M:Cnt K) (k:K):Xei (Xb1 M k) k=Xei M k:=by
 unfold Xb1
 cases h:M.findIdx? (fun p=>decide (p.1=k)) with
 | none =>
  have:M.find? (fun p=>decide (p.1=k))=none:=by
   rw [List.find?_eq_none]
   intro p hp
   have:=List.findIdx?_eq_none_iff.1 h p hp
   simpa using this
  simp [Xei,List.find?_append,this]
 | some i=>simp
theorem Xk3 (M:Cnt K) (i:Nat) (v:Int):(Xds M i v).map (·.1)=M.map (·.1):=by
 unfold Xds
 apply List.ext_getElem?
 intro j
 simp only [List.getElem?_map,List.getElem?_modify]
 cases M[j]? with
 | none=>rfl
 | some p=>by_cases h:i=j <;> simp [h]
theorem Xnw (M:Cnt K) (i:Nat) (v:Int):(Xds M i v).length=M.length:=by simp [Xds]
theorem Xt3 (M:Cnt K) (i:Nat) (v:Int) (h:i < M.length):cntM (Xds M i v)=(cntM M).modify i fun p=>(M[i].1, .int .i64 v):=by
 unfold cntM Xds
 apply List.ext_getElem?
 intro j
 simp only [List.getElem?_modify,List.getElem?_map]
 by_cases hj:i=j
 ·subst hj; rw [List.getElem?_eq_getElem h]; simp
 ·simp [hj]
theorem Xze {M:Cnt K} {k:K} (h:k∉M.map (·.1)) (v:Int):putN M k v=M++[(k,v)]:=by
 have h1:M.findIdx? (fun p=>decide (p.1=k))=none:=by
  rw [List.findIdx?_eq_none_iff]
  intro p hp
  rw [decide_eq_false_iff_not]
  exact fun e=>h (List.mem_map.2 ⟨p,hp,e⟩)
 unfold putN Xb1 Xf2 Xds
 rw [h1]
 simp only [Option.isSome_none,Bool.false_eq_true,if_false,Option.getD_none]
 apply List.ext_getElem?
 intro j
 rw [List.getElem?_modify]
 by_cases hj:M.length=j
 ·subst hj; simp
 ·rcases Nat.lt_or_ge j M.length with hl | hl
  ·simp [hj,List.getElem?_append_left hl]
  ·rw [List.getElem?_append_right hl,List.getElem?_append_right hl]
   rw [List.getElem?_eq_none (by simp; omega),List.getElem?_eq_none (by simp; omega)]; rfl
theorem Xwv {M:Cnt K} {k:K} (h:k∉M.map (·.1)):Xei M k=0:=by
 have:M.find? (fun p=>decide (p.1=k))=none:=by
  rw [List.find?_eq_none]
  intro p hp
  simp only [decide_eq_true_eq]
  exact fun e=>h (List.mem_map.2 ⟨p,hp,e⟩)
 simp [Xei,this]
def Xav (L:List K):Cnt K:=L.map fun k=>(k,1)
theorem Xe2 (L:List K):(Xav L).map (·.1)=L:=by simp [Xav,Function.comp_def]
theorem Xt4 (L:List K) (k:K):Xav (L++[k])=Xav L++[(k,1)]:=by simp [Xav]
theorem Xt5 (L:List K) (k:K):Xei (Xav L) k=if k∈L then 1 else 0:=by
 unfold Xei Xav
 rw [List.find?_map]
 simp only [Function.comp_def]
 cases h:L.find? (fun p=>decide (p=k)) with
 | none =>
  have:k∉L:=fun hk=>by
   have:=List.find?_eq_none.1 h k hk
   simp at this
  simp [this]
 | some x =>
  have h1:=List.mem_of_find?_eq_some h
  have h2:=List.find?_some h
  simp only [decide_eq_true_eq] at h2
  subst h2
  simp [h1]
end
section
variable {P:Program} {kt:TypeId} {K:Type} [DecidableEq K] {kv:K→Value}
theorem Xnx (h:MKey P kt kv) {t e:TypeId} {w:World} {b:Nat} {M:Cnt K} (hu:P.underlying t=some (.map kt e)) (hz:∀ w,(zeroValue e).run P w = .ok (.int .i64 0) w) (hb:w.heap[b]? = some (.map (ents kv (cntM M)).toArray (cntM M).length)) (hnd:(M.map (·.1)).Nodup) (k:K) :
  (Instr.mapEntry t (.map (some b)) (kv k)).run P w = .ok (.tuple #[.int .i64 (Xei M k), .int .i64 (Xf2 M k:Int)]) { w with heap:=w.heap.setIfInBounds b (.map (ents kv (cntM (Xb1 M k))).toArray (cntM (Xb1 M k)).length) }:=by
 have h1:=Xmv h w (cntM M) (by rw [Xdl]; exact hnd) k
 have h2:=h.check w false k
 have h3:=Xc9 (P:=P) hb
 have hg:Xei M k=match M.find? (fun p=>decide (p.1=k)) with | some p=>p.2 | none=>0:=rfl
 rw [X1t] at h1
 unfold Instr.mapEntry
 simp only [Sem.run_bind,run_underlying hu,Result.andThen_ok,h3,h2,h1]
 cases hp:M.findIdx? (fun p=>decide (p.1=k)) with
 | none =>
  have hf:M.find? (fun p=>decide (p.1=k))=none:=by
   rw [List.find?_eq_none]
   intro p hp'
   have:=List.findIdx?_eq_none_iff.1 hp p hp'
   simpa using this
  rw [hf] at hg
  simp only [Option.bind_none,Sem.run_bind,hz,Result.andThen_ok,Xd1 _ hb trivial,Sem.run_pure]
  rw [hg]
  simp [Xb1,Xf2,hp,goInt,cntM,Xjz]
 | some i =>
  obtain ⟨hi,hk,hmin⟩:=List.findIdx?_eq_some_iff_getElem.1 hp
  have hik:M[i].1=k:=by simpa using hk
  have hf:M.find? (fun p=>decide (p.1=k))=some M[i]:=by
   rw [List.find?_eq_some_iff_getElem]
   exact ⟨hk,i,hi,rfl,fun j hj=>by simpa using hmin j hj⟩
  rw [hf] at hg
  have hi':i < (cntM M).length:=by rw [Xee]; exact hi
  have hget:(cntM M)[i]=(k, .int .i64 M[i].2):=by simp [cntM,hik]
  have h4:(((ents kv (cntM M)).toArray[i]?.map (·.key)).getD (kv k))=kv k:=by simp [Xbv kv (cntM M) i hi',hget]
  have h5:(((ents kv (cntM M)).toArray[i]?.map (·.born)).getD 0)=i:=by simp [Xbv kv (cntM M) i hi']
  have h6:(ents kv (cntM M)).toArray.modify i (fun e=>{ e with key:=kv k })=(ents kv (cntM M)).toArray:=by
   apply Array.ext'
   simp only [Array.toList_modify]
   apply List.ext_getElem?
   intro j
   rw [List.getElem?_modify]
   by_cases hj:i=j
   ·subst hj; rw [Xbv kv (cntM M) i hi']; simp [hget]
   ·simp [hj]
  simp only [Option.bind_some,List.getElem?_eq_getElem hi',Option.map_some,Sem.run_bind,h4,h.stays,Result.andThen_ok,Xd1 _ hb trivial,Sem.run_pure,h5,h6]
  rw [hg,hget]
  simp [Xb1,Xf2,hp,goInt,Xbv kv (cntM M) i hi']
theorem Xk4 {t:TypeId} {w:World} {b:Nat} {M:Cnt K} {i:Nat} (hi:i < M.length) (hb:w.heap[b]? = some (.map (ents kv (cntM M)).toArray (cntM M).length)) (v:Int) :
  (Instr.entryStore t (.map (some b)) (.int .i64 (i:Int)) (.int .i64 v)).run P w = .ok () { w with heap:=w.heap.setIfInBounds b (.map (ents kv (cntM (Xds M i v))).toArray (cntM (Xds M i v)).length) }:=by
 have h3:=Xc9 (P:=P) hb
 have hi':i < (cntM M).length:=by rw [Xee]; exact hi
 have hx:(ents kv (cntM M)).toArray.findIdx? (fun e=>(e.born:Int) == (i:Int))=some i:=by
  rw [Array.findIdx?_eq_some_iff_getElem]
  have hs:(ents kv (cntM M)).toArray.size=(cntM M).length:=by simp [Xb2]
  refine ⟨by rw [hs]; exact hi',?_,fun j hj=>?_⟩
  ·have:=Xbv kv (cntM M) i hi'
   rw [List.getElem?_eq_getElem (by rw [Xb2]; exact hi')] at this
   injection this with this
   simp [this]
  ·have hj':j < (cntM M).length:=by omega
   have:=Xbv kv (cntM M) j hj'
   rw [List.getElem?_eq_getElem (by rw [Xb2]; exact hj')] at this
   injection this with this
   simp only [List.getElem_toArray,this]
   simp; omega
 unfold Instr.entryStore
 simp only [Sem.run_bind,h3,Result.andThen_ok,asInt,asIntOf,Sem.run_pure,hx,Xd1 _ hb trivial]
 have e1:(ents kv (cntM M)).toArray.modify i (fun e=>{ e with val:=.int .i64 v })=(ents kv (cntM (Xds M i v))).toArray:=by
  rw [Xt3 M i v hi]
  have:=Xj0 kv (cntM M) i M[i].1 (.int .i64 v) hi'
  rw [← this]
  apply Array.ext'
  simp only [Array.toList_modify]
  apply List.ext_getElem?
  intro j
  rw [List.getElem?_modify,List.getElem?_modify]
  by_cases hj:i=j
  ·subst hj; rw [Xbv kv (cntM M) i hi']; simp [cntM]
  ·simp [hj]
 rw [e1]
 simp [Xee,Xnw]
end
section
variable {P:Program} {n:Nn} {w0:World} {F:Nat→Prop} {ops:Array Oper} {i d:Nat} {t:TypeId} {pos:String} {aft:Array Edge} {g:Option (Nat × Bool)} {os:List Oper} {Q:Cont} {e:E} {Γ:List Fact}
theorem Xc0 [Dr] {K:Type} [DecidableEq K] {kv:K→Value} {x y:Operand} {ty kt el:TypeId} {ed:TypeDesc} {sz by_ s2 b2 b:Nat} {zz:Value} {M:Cnt K} {Δ:List Fact} (k:K)
  [hT:Ty P ty (.map kt el) sz by_ zz] [hE:Ty P el ed s2 b2 (.int .i64 0)] [hK:MKey P kt kv] [hx:Ev e x (.map (some b))] [hy:Ev e y (kv k)] [hM:OwnM Γ b (ents kv (cntM M)) (cntM M).length Δ]
  (hd:Nat.blt d n.s=true) (hnd:(M.map (·.1)).Nodup) (kk:JO P n w0 F ops (i+1) os Q ((d, .tuple ⟨[.int .i64 (Xei M k), .int .i64 (Xf2 M k:Int)]⟩)::e) (.omap b (ents kv (cntM (Xb1 M k))) (cntM (Xb1 M k)).length::Δ)) :
  JR P n w0 F ops i ⟨some d, .mapEntry ty x y,t,pos,aft,g⟩ os Q e Γ :=
 JR.value hd fun a w fr ho=>by
  have ho':=ho.perm hM.ok
  have hw:w.heap[b]? = some (.map (ents kv (cntM M)).toArray (cntM M).length):=ho'.sat (.omap b (ents kv (cntM M)) (cntM M).length) (by simp)
  have hr:=Xnx hK hT.und (fun w=>Xf5 (P:=P) (t:=el) w) hw hnd k
  refine ⟨_,_,_,?_,ho'.setMap,kk⟩
  simp only [execOp,hx.ok n a fr,hy.ok n a fr,Sem.run_bind,hr,Result.andThen_ok,Sem.run_pure]
theorem Xb9 [Dr] {K:Type} [DecidableEq K] {kv:K→Value} {x y z:Operand} {ty:TypeId} {b q:Nat} {v:Int} {M:Cnt K} {Δ:List Fact}
  [hx:Ev e x (.map (some b))] [hy:Ev e y (.int .i64 (q:Int))] [hz:Ev e z (.int .i64 v)] [hM:OwnM Γ b (ents kv (cntM M)) (cntM M).length Δ]
  (hq:q < M.length) (kk:JO P n w0 F ops (i+1) os Q e (.omap b (ents kv (cntM (Xds M q v))) (cntM (Xds M q v)).length::Δ)) :
  JR P n w0 F ops i ⟨none, .entryStore ty x y z,t,pos,aft,g⟩ os Q e Γ :=
 Xdi fun a w fr ho=>by
  have ho':=ho.perm hM.ok
  have hw:w.heap[b]? = some (.map (ents kv (cntM M)).toArray (cntM M).length):=ho'.sat (.omap b (ents kv (cntM M)) (cntM M).length) (by simp)
  have hr:=Xk4 (P:=P) (t:=ty) hq hw v
  refine ⟨.skip,_,_, .inl rfl,?_,ho'.setMap,kk⟩
  simp only [execOp,hx.ok n a fr,hy.ok n a fr,hz.ok n a fr,Sem.run_bind,hr,Result.andThen_ok,Sem.run_pure]
theorem X2v [Dr] {α:Type} (cs:α→List Value) (L:List α) (k:Nat) (u:α) (h:k < L.length):fl cs (L.set k u)=fl cs (L.take k)++(cs u++fl cs (L.drop (k+1))):=by
 rw [← Xfa,← Xd9,List.set_eq_take_append_cons_drop,if_pos h]
theorem X2w [Dr] {α:Type} (cs:α→List Value) (L:List α) (k:Nat) (h:k < L.length):fl cs L=fl cs (L.take k)++(cs L[k]++fl cs (L.drop (k+1))):=by
 rw [← Xfa,← Xd9,List.getElem_cons_drop,List.take_append_drop]
theorem Xq5 [Dr] {α:Type} [ic:Cell α] {cs:α→List Value} [hp:PlainC α cs] {x y:Operand} {b c k o:Nat} {el ty:TypeId} {L:List α} (u:α) {td:TypeDesc} {sz by_:Nat} {z:Value} {Δ:List Fact}
  [hx:Ev e x (.pointer (some ⟨b,o,none⟩))] [hy:Ev e y (.agg ⟨cs u⟩)] [hB:BufAt Γ b c el L Δ] [hT:Ty P ty td sz by_ z] (hsz:sz=Cell.sz α) (h:k < L.length) (ho':o=k * sz)
  (K:JO P n w0 F ops (i+1) os Q e (.res (buf (some ⟨b,0,none⟩) c el (L.set k u))::Δ)) :
  JR P n w0 F ops i ⟨none, .store ty x y,t,pos,aft,g⟩ os Q e Γ :=
 Xdi fun a w fr ho=>by
  have hpm:=ho.perm hB.ok
  obtain ⟨junk,h1,h2,h3,h4,h5⟩:=hpm.openC
  have hw:w.heap[b]? = some (.cells (fl cs L++junk).toArray el (0,0)):=h5.sat (.own b el (fl cs L++junk)) (by simp)
  have hlen:(fl cs L).length=L.length * Cell.sz α:=Xc5 L
  have hA:(fl cs (L.take k)).length=k * Cell.sz α:=by have:=Xc5 (cs:=cs) (L.take k); rw [List.length_take,Nat.min_eq_left (by omega)] at this; exact this
  have hcu:(cs u).length=Cell.sz α:=PlainC.len u
  have:One (cs u):=⟨PlainC.one u⟩
  have hcl:(cs L[k]).length=Cell.sz α:=PlainC.len L[k]
  have hmul:k * Cell.sz α+Cell.sz α≤L.length * Cell.sz α:=by
   have:(k+1) * Cell.sz α≤L.length * Cell.sz α:=Nat.mul_le_mul_right _ (by omega)
   rw [Nat.add_mul] at this; omega
  subst ho' hsz
  have hr:(fl cs L++junk).take (k * Cell.sz α)++cs u++(fl cs L++junk).drop (k * Cell.sz α+(cs u).length)=fl cs (L.set k u)++junk:=by
   rw [X2v cs L k u h,X2w cs L k h,hcu]
   generalize fl cs (L.take k)=A at hA
   generalize fl cs (L.drop (k+1))=B
   rw [List.append_assoc A,List.take_left' hA,← List.drop_drop,List.drop_left' hA,List.append_assoc (cs L[k]),List.drop_left' hcl]
   simp only [List.append_assoc]
  refine ⟨.skip,w.setRow b (fl cs (L.set k u)++junk).toArray,_, .inl rfl,?_,?_,K⟩
  ·simp [execOp,hx.ok n a fr,hy.ok n a fr,Xc2 (P:=P) (ty:=ty) (v:=.agg ⟨cs u⟩) (cs:=cs u) (r:=fl cs (L.set k u)++junk) hw hcu ⟨by rw [List.length_append,hlen,hcu]; omega,hr⟩]
  ·refine (h5.setRow (r:=fl cs (L.set k u)++junk)).closeC (cs:=cs) (L.set k u) junk rfl ?_ ?_ h3 ?_
   ·rw [List.length_set]; exact h1
   ·rw [List.length_set]; exact h2
   ·rw [List.length_set]; exact h4
end
theorem Xz2 [Dr] {α:Type} [Cell α] {cs:α→List Value} [hp:PlainC α cs] {w:World} {b:Nat} {L:List α} {t:TypeId} (h:w.heap[b]? = some (.cells (fl cs L).toArray t (0,0))) (hmax:L.length≤4096):(sl (some ⟨b,0,none⟩) L.length L).holds (fun _=>True) w:=by
 obtain ⟨y⟩:=hp.ix
 refine ⟨by omega,by simp [maxLen]; omega,by simp only [lim]; omega,fun hne=>⟨b,0,rfl,trivial,(Array.getElem?_eq_some_iff.1 h).1,fun i hi=>⟨y,?_,by rw [hp.facts]; simp⟩⟩⟩
 intro j v hj
 rw [hp.cells] at hj
 have hjl:j < Cell.sz α:=by
  have:=(List.getElem?_eq_some_iff.1 hj).1
  rwa [PlainC.len] at this
 have hmul:i * Cell.sz α+Cell.sz α≤L.length * Cell.sz α:=by
  have:(i+1) * Cell.sz α≤L.length * Cell.sz α:=Nat.mul_le_mul_right _ (by omega)
  rw [Nat.add_mul] at this; omega
 rw [cell_of_row w b _ _ _ _ h]
 have h1:=X2w cs L i hi
 have hA:(fl cs (L.take i)).length=i * Cell.sz α:=by have:=Xc5 (cs:=cs) (L.take i); rw [List.length_take,Nat.min_eq_left (by omega)] at this; exact this
 have hcl:(cs L[i]).length=Cell.sz α:=PlainC.len L[i]
 simp only [List.getElem?_toArray]
 rw [h1,List.getElem?_append_right (by omega),hA,show 0+i * Cell.sz α+j - i * Cell.sz α=j by omega,List.getElem?_append_left (by omega)]
 exact hj
section
variable [Dr]
theorem GivesBuf.plain {P:Program} {f:FuncId} {args:List Value} {w:World} {F G:Nat→Prop} {α:Type} [Cell α] {el:TypeId} {L:List α} (hn:∀ (u:α) y,Cell.facts u y=[]) (h:GivesBuf P f args w F el L):GivesBuf P f args w G el L :=
 Calls.mono h fun x w' ⟨y,hx,hb,hf⟩=>⟨y,hx,hb,⟨fun g hg=>by
  rw [List.mem_singleton] at hg
  subst hg
  obtain ⟨h0,r,h1,h2,h3⟩:=hf.sat (.res (buf y.1 y.2 el L)) (by simp)
  exact ⟨h0,r,h1,h2,fun p hp A hA=>by rw [hn] at hA; cases hA⟩,hf.dis,hf.new⟩⟩
class Lend (f:Fact) (A:outParam Asn):Prop where
 ok:∀ (w0:World) (F:Nat→Prop) (Γ:List Fact) (w:World),Hold w0 F Γ w→f∈Γ→A.holds (fun _=>True) w
instance {A:Asn}:Lend (.st A) A:=⟨fun w0 F Γ w h hf=>A.mono _ _ _ (fun _ _=>trivial) (h.sat (.st A) hf)⟩
instance {b:Nat} {t:TypeId} {vs:List Value}:Lend (.own b t vs) (ro b 0 vs):=⟨fun w0 F Γ w h hf =>
 ⟨trivial,Fact.owned_lt (f:=.own b t vs) (h.sat (.own b t vs) hf) rfl,Xjq (h.sat (.own b t vs) hf)⟩⟩
instance {α:Type} [Cell α] {a:Option Addr} {c:Nat} {el:TypeId} {L:List α}:Lend (.res (buf a c el L)) (sl a c L):=⟨fun w0 F Γ w h hf=>by
 obtain ⟨s,t,rfl⟩:=List.append_of_mem hf
 exact Hold.bufSl (h.perm List.perm_middle)⟩
theorem Hold.pubAt {α:Type} [ic:Cell α] {w0 w:World} {F:Nat→Prop} {Γ Δ:List Fact} (a:Option Addr) (c:Nat) {el:TypeId} {L:List α} [h:HasBuf Γ (.slice a L.length c) α ic el L Δ] (ho:Hold w0 F Γ w):Hold w0 F (.st (sl a c L)::Δ) w:=by
 obtain ⟨a',q,hv,hp⟩:=h.ok
 injection hv with e1 e2 e3
 subst e1 e3
 exact (ho.perm hp).pub
class Lends (Γ:List Fact) (Δ:outParam (List Fact)):Prop where
 ok:∀ (w0:World) (F:Nat→Prop) (Γ':List Fact) (w:World),Hold w0 F Γ' w→(∀ f∈Γ,f∈Γ')→Hold w (fun _=>True) Δ w
instance (priority:=10) Lends.none {Γ:List Fact}:Lends Γ []:=⟨fun w0 F Γ' w h _=>.start w _⟩
instance {f:Fact} {A:Asn} {Γ Δ:List Fact} [h1:Lend f A] [h2:Lends Γ Δ]:Lends (f::Γ) (.st A::Δ):=⟨fun w0 F Γ' w h hs=>by
 have ho:=h2.ok w0 F Γ' w h (fun f hf=>hs f (List.mem_cons_of_mem _ hf))
 have hA:=h1.ok w0 F Γ' w h (hs f (List.mem_cons_self ..))
 refine ho.add ((A.mono _ _ _ (fun k hk=>?_) (A.within _ _ hA)))
 refine ⟨.inl trivial,fun g hg hk2=>?_⟩
 have h3:=ho.new g hg k hk2
 have h4:=hk.2
 omega⟩
theorem Hold.lend {w0 w:World} {F:Nat→Prop} {Γ Δ:List Fact} [h:Lends Γ Δ] (ho:Hold w0 F Γ w):Hold w (fun _=>True) Δ w:=h.ok w0 F Γ w ho (fun _ h=>h)
end
section
variable {P:Program} {n:Nn} {w0:World} {F:Nat→Prop} {Q:Cont} {e:E} {Γ:List Fact}
theorem Xww [Dr] {c:Code} {Δ:List Fact} [hl:Lends Γ Δ] (h:∀ w,JC P n w (fun _=>True) c (fun x e' _=>Q x e' Γ) e Δ):JC P n w0 F c Q e Γ:=by
 intro a w fr ho
 refine wp_mono (h w a w fr ho.lend) ?_
 rintro x a' w' ⟨e',Δ',hq,fr',ho'⟩
 exact ⟨e',Γ,hq,fr',ho.of_below ho'.below⟩
end
section
attribute [local irreducible] JC JO JR JQ andThen inBlock OpV Gives Xae JM JS
section
variable {P:Program} {n:Nn} {w0:World} {F:Nat→Prop} {ops:Array Oper} {i d:Nat} {t:TypeId} {pos:String} {aft:Array Edge} {g:Option (Nat × Bool)} {os:List Oper} {Q:Cont} {e:E} {Γ:List Fact}
theorem Xpn [Dr] {ty:TypeId} {x y:Operand} {td:TypeDesc} {sz by_:Nat} {z v:Value} {b o:Nat} {bt:TypeId} {vs cs:List Value} {Δ:List Fact} (r:List Value)
  [hx:Ev e x (.pointer (some ⟨b,o,none⟩))] [hy:Ev e y v] [hT:Ty P ty td sz by_ z] [hO:Own Γ b bt vs Δ] [hc:Cel v cs] [h1:One cs] (hm:cs.length=sz) (hr:o+cs.length≤vs.length∧vs.take o++cs++vs.drop (o+cs.length)=r)
  (k:JO P n w0 F ops (i+1) os Q e (.own b bt r::Δ)):JR P n w0 F ops i ⟨none, .store ty x y,t,pos,aft,g⟩ os Q e Γ :=
 Xdi fun a w fr ho=>by
  have ho':=ho.perm hO.ok
  have hw:w.heap[b]? = some (.cells vs.toArray bt (0,0)):=ho'.sat (.own b bt vs) (by simp)
  refine ⟨.skip,w.setRow b r.toArray,_, .inl rfl,?_,ho'.setRow,k⟩
  simp [execOp,hx.ok n a fr,hy.ok n a fr,Xc2 (P:=P) (ty:=ty) (cs:=cs) (r:=r) hw hm hr]
end
theorem X1u {w0 w:World} {F:Nat→Prop} {Γ:List Fact} {p:Option Addr} {q bx:Nat} (L:List Reg_) (r:Reg_) (hs:Xi0 L) (hl:L.length < 4294967296)
  (ho:Hold w0 F (.own bx 219 [.slice p L.length q]::.res (buf p q 91 L)::Γ) w) :
  Calls prog 177 ⟨[.pointer (some ⟨bx,0,none⟩), .agg ⟨regC r⟩]⟩ w fun x w'=>∃ y:Option Addr × Nat,x = .returned (.tuple ⟨[]⟩) ∧
   Hold w0 F (.own bx 219 [.slice y.1 (putR L r).length y.2]::.res (buf y.1 y.2 91 (putR L r))::Γ) w':=by
 obtain ⟨k1,u1,g1,⟨n1,s1⟩⟩:=r
 refine Xbu (v:=fun _:Option Addr × Nat=>.tuple ⟨[]⟩) (B:=fun y=>.own bx 219 [.slice y.1 (putR L ⟨k1,u1,g1,⟨n1,s1⟩⟩).length y.2]::.res (buf y.1 y.2 91 (putR L ⟨k1,u1,g1,⟨n1,s1⟩⟩))::Γ)
  func177 rfl ntmps177 rfl rfl _ ho ?_
 have hle:=X0r L k1
 (repeat (refine wE ?_; intro _)); refine wA ?_
 rename_i br
 refine Xfi (fun _:Unit=>[(0, .pointer (some ⟨bx,0,none⟩)),(3, .pointer (some ⟨br,0,none⟩)),(4, .int .i64 (posR L k1:Int)),(5, .bool (hasR L k1))]) (fun _=>.own br 91 [.string k1, .string u1, .int .i64 g1, .int .i64 n1, .int .i64 s1]::.own bx 219 [.slice p L.length q]::.res (buf p q 91 L)::Γ) ?_ ?_
 ·refine Xww fun w2=>?_
  refine Xbe mixed (by kernel_rfl) ?_
  refine wY ?_
  refine Wy rfl OpV.nilCheck rfl ?_
  refine wY ?_
  refine JQ.call rfl rfl (fun w1 hw=>Xyc w1 _ p q L k1 hw.get hs) ?_
  refine wY ?_
  exact ⟨rfl,(),iI⟩
 rintro ⟨⟩
 cases hh:hasR L k1 with
 | false =>
  have e1:putR L ⟨k1,u1,g1,⟨n1,s1⟩⟩=insR L (posR L k1) ⟨k1,u1,g1,⟨n1,s1⟩⟩:=by unfold putR; rw [hh]
  rw [e1]
  generalize posR L k1=i at hle
  refine wz1 ?_
  refine JC.drawP mixed ?_
  refine Xad 0 ?_
  refine Xad 1 ?_
  refine Xad 2 ?_
  refine JP.tv 3 [.own bx 219 [.slice p L.length q]] ?_
  refine Xad 4 ?_
  refine JP.tv 5 [.own br 91 [.string k1, .string u1, .int .i64 g1, .int .i64 n1, .int .i64 s1]] ?_
  refine Xal 6 rfl rfl (Ww rfl ⟨rfl,by decide,by decide,by decide⟩ fun bv=>Wd (nO ?_))
  refine JP.more (Γ':=.res (buf p q 91 L)::.own bv 91 (regC ⟨k1,u1,g1,⟨n1,s1⟩⟩)::.own br 91 [.string k1, .string u1, .int .i64 g1, .int .i64 n1, .int .i64 s1]::.own bx 219 [.slice p L.length q]::Γ) (fun w1 ho=>ho.ent) ?_
  refine Xal 7 rfl rfl (Xax (v:=fun y:Option Addr × Nat=>.slice y.1 (insR L i ⟨k1,u1,g1,⟨n1,s1⟩⟩).length y.2) (B:=fun y=>.res (buf y.1 y.2 91 (insR L i ⟨k1,u1,g1,⟨n1,s1⟩⟩))::.own bv 91 (regC ⟨k1,u1,g1,⟨n1,s1⟩⟩)::.own br 91 [.string k1, .string u1, .int .i64 g1, .int .i64 n1, .int .i64 s1]::.own bx 219 [.slice p L.length q]::Γ) rfl (fun w1 hw=>Xqb L i ⟨k1,u1,g1,⟨n1,s1⟩⟩ hle hl hw) fun y=>Wd (nO ?_))
  refine Xad 8 ?_
  refine JP.reslot 26 (.pointer (some ⟨bx,0,none⟩)) rfl ?_
  refine Xal 9 rfl rfl (Wi (Wd (nO ?_)))
  refine JP.nil (by kernel_rfl) ?_
  refine wz2 ?_
  exact Xl7 y rfl
 | true =>
  have hlt:=Xnc hh
  refine wz7 ?_
  refine Xfi (fun _:Unit=>[(0, .pointer (some ⟨bx,0,none⟩)),(3, .pointer (some ⟨br,0,none⟩)),(4, .int .i64 (posR L k1:Int)),(27, .bool (Xyb ⟨k1,u1,g1,⟨n1,s1⟩⟩ L[posR L k1]))]) (fun _=>.own br 91 [.string k1, .string u1, .int .i64 g1, .int .i64 n1, .int .i64 s1]::.own bx 219 [.slice p L.length q]::.res (buf p q 91 L)::Γ) ?_ ?_
  ·refine Xww fun w2=>?_
   refine Xf9 (L:=L) (.slice p L.length q) (posR L k1) hlt ?_
   intro b3 o3
   obtain ⟨c,hc⟩:∃ c,c=L[posR L k1]:=⟨_,rfl⟩
   rw [← hc]
   refine Xbe mixed (by kernel_rfl) ?_
   refine wY ?_
   refine Wy rfl OpV.nilCheck rfl ?_
   refine wY ?_
   refine JQ.call rfl rfl (fun w1 hw=>Xva w1 _ ⟨k1,u1,g1,⟨n1,s1⟩⟩ c) ?_
   refine wY ?_
   exact ⟨rfl,(),iI⟩
  rintro ⟨⟩
  cases hw:Xyb ⟨k1,u1,g1,⟨n1,s1⟩⟩ L[posR L k1] with
  | false =>
   have e1:putR L ⟨k1,u1,g1,⟨n1,s1⟩⟩=L:=by unfold putR; rw [hh]; simp only [List.getElem?_eq_getElem hlt,hw]; rfl
   rw [e1]
   refine wz2 ?_
   exact Xl7 (p,q) rfl
  | true =>
   have e1:putR L ⟨k1,u1,g1,⟨n1,s1⟩⟩=L.set (posR L k1) ⟨k1,u1,g1,⟨n1,s1⟩⟩:=by unfold putR; rw [hh]; simp only [List.getElem?_eq_getElem hlt,hw]; rfl
   rw [e1]
   clear hw
   generalize posR L k1=i at hle hlt
   have hne:L≠[]:=by intro h; subst h; simp at hlt
   have hflL:fl regC L=fl regC (L.take i)++(regC L[i]++fl regC (L.drop (i+1))):=by rw [← Xfa,← Xd9,List.getElem_cons_drop,List.take_append_drop]
   have hflI:fl regC (L.set i ⟨k1,u1,g1,⟨n1,s1⟩⟩)=fl regC (L.take i)++(regC ⟨k1,u1,g1,⟨n1,s1⟩⟩++fl regC (L.drop (i+1))):=by rw [← Xfa,← Xd9,List.set_eq_take_append_cons_drop,if_pos hlt]
   have hA:(fl regC (L.take i)).length=i * 5:=by have:=Xc5 (cs:=regC) (L.take i); rw [List.length_take,Nat.min_eq_left hle] at this; exact this
   refine JC.more (Γ':=.res (buf p q 91 L)::.own br 91 [.string k1, .string u1, .int .i64 g1, .int .i64 n1, .int .i64 s1]::.own bx 219 [.slice p L.length q]::Γ) (fun w1 ho=>ho.ent) ?_
   refine JC.pure (fun w ho=>Xja (ho.sat (.res (buf p q 91 L)) (by simp)) hne) ?_
   rintro ⟨b,rfl⟩
   refine JC.openC (L:=L) (cs:=regC) fun junk hj hLq hqm hlim=>?_
   rw [hflL]
   generalize fl regC (L.take i)=A at hA hflI
   generalize fl regC (L.drop (i+1))=B at hflI
   have hrun:(A++(regC L[i]++B)++junk).take (i * 5)++regC ⟨k1,u1,g1,⟨n1,s1⟩⟩++(A++(regC L[i]++B)++junk).drop (i * 5+5)=A++(regC ⟨k1,u1,g1,⟨n1,s1⟩⟩++B)++junk:=by
    rw [List.append_assoc A,Xqa hA,← hA,List.drop_append,List.drop_of_length_le (by omega),List.nil_append,Nat.add_sub_cancel_left]
    simp only [List.append_assoc]
    rfl
   refine wz8 ?_
   refine JC.drawP mixed ?_
   refine Xad 0 ?_
   refine Xad 1 ?_
   refine JP.tv 2 [.own bx 219 [.slice (some ⟨b,0,none⟩) L.length q]] ?_
   refine Xad 3 ?_
   refine JP.tv 4 [.own br 91 [.string k1, .string u1, .int .i64 g1, .int .i64 n1, .int .i64 s1]] ?_
   refine JP.pure 5 rfl (by kernel_rfl) rfl (fun _=>Xdj hlt) rfl rfl ?_
   refine Xal 6 rfl rfl (Xpn (A++(regC ⟨k1,u1,g1,⟨n1,s1⟩⟩++B)++junk) rfl ⟨by simp only [List.length_append,hA,List.length_cons,List.length_nil]; omega,hrun⟩ (Wd (nO ?_)))
   refine JP.nil (by kernel_rfl) ?_
   refine wz2 ?_
   refine Xem (some ⟨b,0,none⟩,q) rfl (fun w ho=>?_)
   have h9:Hold w0 F (.own b 91 (A++(regC ⟨k1,u1,g1,⟨n1,s1⟩⟩++B)++junk)::.own bx 219 [.slice (some ⟨b,0,none⟩) L.length q]::Γ) w:=ho.ent
   have h8:=h9.closeC (cs:=regC) (L.set i ⟨k1,u1,g1,⟨n1,s1⟩⟩) junk (by rw [hflI]) (by rw [List.length_set]; exact hj) (by rw [List.length_set]; exact hLq) hqm (by rw [List.length_set]; exact hlim)
   rw [List.length_set]
   exact h8.perm (List.Perm.swap _ _ _)
end
section
variable {P:Program} {n:Nn} {w0:World} {F:Nat→Prop} {ops:Array Oper} {i d:Nat} {t:TypeId} {pos:String} {aft:Array Edge} {g:Option (Nat × Bool)} {os:List Oper} {Q:Cont} {e:E} {Γ:List Fact}
theorem Xwx [Dr] {f:Operand} {args:Array Operand} {ats:Array TypeId} {fid:FuncId} {firsts vs us:List Value} {Y:Type} {v:Y→Value} {B:Y→List Fact}
  [hf:Ev e f (.func (.func fid) ⟨firsts⟩ ⟨[]⟩)] [hv:ArgVs e args.toList vs] [hu:App firsts vs us] [hb:Body P fid] (hd:Nat.blt d n.s=true)
  (hg:∀ w,Hold w0 F Γ w→Calls P fid ⟨us⟩ w fun x w'=>∃ y,x = .returned (v y)∧Hold w0 F (B y) w') (k:∀ y,JO P n w0 F ops (i+1) os Q ((d,v y)::e) (B y)) :
  JR P n w0 F ops i ⟨some d, .call ⟨.value f,args,ats⟩,t,pos,aft,g⟩ os Q e Γ:=by
 intro hdr a w fr ho
 unfold Oper.wp
 have e1:=hf.ok n a fr
 have e2:args.map a.eval=⟨vs⟩:=by apply Array.ext'; simp [hv.ok n a fr]
 have e0:(resolve a.eval ⟨.value f,args,ats⟩ t).run P w = .ok ⟨.fn (.func fid) ⟨[]⟩,(⟨firsts⟩:Array Value)++args.map a.eval⟩ w:=by
  simp [resolve,e1,Deferred.ofValue]
 have e3:(⟨firsts⟩:Array Value)++(⟨vs⟩:Array Value)++(⟨[]⟩:Array Value)=⟨us⟩:=by apply Array.ext'; simp [← hu.ok]
 have e4:(execOp a.eval ⟨some d, .call ⟨.value f,args,ats⟩,t,pos,aft,g⟩).run P w = .ok (.enter fid ⟨us⟩) w:=by
  simp only [execOp,Sem.run_bind,e0,Result.andThen_ok,invoke,e2,e3,hb.ok]
 rw [e4]
 refine Calls.mono (hg w ho) ?_
 rintro x w' ⟨y,rfl,ho'⟩
 exact k y (Xdm hdr).2 _ w' (fr.put hd _) ho'
end
section
attribute [local irreducible] JC JO JR JQ andThen inBlock OpV Gives Xae JM JS
theorem Xmm (a:Option Addr) (c:Nat) (L:List Reg_) (h:(sl a c L).holds F w) (hl:L.length≤34359738368) :
  GivesBuf prog 108 [.slice a L.length c] w F 91 L:=by
 refine Xaa func108 rfl ntmps108 rfl rfl [.st (sl a c L)] (.start1 h) ?_
 refine wA ?_
 refine JC.test (fun ha=>?_) (fun ha=>?_)
 ·cases a with
  | some a=>cases ha
  | none =>
   obtain rfl:=Xd8 h
   refine wz9 ?_
   exact CT.done (none,0) rfl (fun w ho=>ho.bufNil)
 ·refine wz14 ?_
  refine Xjw (α:=Reg_) rfl ?_
  intro a2
  refine wz6 ?_
  refine Xbq rfl (by exact ⟨rfl,rfl,by decide⟩) (by simpa using hl) ?_
  intro a3 c3
  rw [List.nil_append]
  refine wz10 ?_
  exact Xab (a3,c3) rfl
theorem Xt6 (a:Option Addr) (c:Nat) (L:List Ctr_) (h:(sl a c L).holds F w) (hl:L.length≤34359738368) :
  GivesBuf prog 107 [.slice a L.length c] w F 97 L:=by
 refine Xaa func107 rfl ntmps107 rfl rfl [.st (sl a c L)] (.start1 h) ?_
 refine wA ?_
 refine JC.test (fun ha=>?_) (fun ha=>?_)
 ·cases a with
  | some a=>cases ha
  | none =>
   obtain rfl:=Xd8 h
   refine wz9 ?_
   exact CT.done (none,0) rfl (fun w ho=>ho.bufNil)
 ·refine wz14 ?_
  refine Xjw (α:=Ctr_) rfl ?_
  intro a2
  refine wz6 ?_
  refine Xbq rfl (by exact ⟨rfl,rfl,by decide⟩) (by simpa using hl) ?_
  intro a3 c3
  rw [List.nil_append]
  refine wz10 ?_
  exact Xab (a3,c3) rfl
theorem Xk5 (a:Option Addr) (c:Nat) (L:List Pair_) (h:(sl a c L).holds F w) (hl:L.length≤34359738368) :
  GivesBuf prog 109 [.slice a L.length c] w F 77 L:=by
 refine Xaa func109 rfl ntmps109 rfl rfl [.st (sl a c L)] (.start1 h) ?_
 refine wA ?_
 refine JC.test (fun ha=>?_) (fun ha=>?_)
 ·cases a with
  | some a=>cases ha
  | none =>
   obtain rfl:=Xd8 h
   refine wz9 ?_
   exact CT.done (none,0) rfl (fun w ho=>ho.bufNil)
 ·refine wz14 ?_
  refine Xjw (α:=Pair_) rfl ?_
  intro a2
  refine wz6 ?_
  refine Xbq rfl (by exact ⟨rfl,rfl,by decide⟩) (by simpa using hl) ?_
  intro a3 c3
  rw [List.nil_append]
  refine wz10 ?_
  exact Xab (a3,c3) rfl
theorem Xpo (a b:Option Addr) (k m:Nat) (L M:List Reg_) (h:(sl a k L).holds F w) (h':(sl b m M).holds F w) (hs:Xi0 L) (hl:L.length+M.length < 4294967296) :
  GivesBuf prog 113 [.slice a L.length k, .slice b M.length m] w F 91 (Xfk L M):=by
 refine Xaa func113 rfl ntmps113 rfl rfl [.st (sl a k L), .st (sl b m M)] (.start2 h h') ?_
 refine wz10 ?_
 refine JR.callBuf rfl (fun w1 hw=>Xmm w1 _ a k L hw.get (by omega)) ?_
 intro p q
 (repeat (refine wE ?_; intro _)); refine wA ?_
 rename_i bx
 refine Xcg (fun (i:Nat) (p:Option Addr) (q:Nat)=>[(5, .pointer (some ⟨bx,0,none⟩)),(6, .func (.func 177) ⟨[.pointer (some ⟨bx,0,none⟩)]⟩ ⟨[]⟩),(12, .slice b M.length m),(13, .int .i64 (M.length:Int)),(14, .int .i64 (i:Int))])
  (fun i p q=>[.own bx 219 [.slice p (Xfk L (M.take i)).length q], .res (buf p q 91 (Xfk L (M.take i))), .st (sl b m M)]) (fun i _ _=>i≤M.length) (fun i _ _=>M.length - i) 0 p q (Nat.zero_le _) (by show Ent _ _ _ [.own bx 219 [.slice p L.length q], .res (buf p q 91 L), .st (sl b m M)]; exact iI) ?_
 rintro i p q hi
 have hks:=Xh2 (M.take i) hs
 have hkl:=Xik (M.take i) L
 rw [List.length_take] at hkl
 refine wz11 ?_
 refine JC.test (fun hlt=>?_) (fun hge=>?_)
 ·have hlt':i < M.length:=by omega
  have hnx:Xfk L (M.take (i+1))=putR (Xfk L (M.take i)) M[i]:=by rw [List.take_succ_eq_append_getElem hlt',Xsw]
  obtain ⟨c,hc⟩:∃ c,c=M[i]:=⟨_,rfl⟩
  rw [← hc] at hnx
  refine wz14 ?_
  refine Xe7 rfl hlt' ?_
  intro b3 o3
  rw [← hc]
  obtain ⟨N,hN⟩:∃ N,N=Xfk L (M.take i):=⟨_,rfl⟩
  rw [← hN] at hks hkl hnx ⊢
  (repeat (refine wE ?_; intro _)); refine wA ?_
  refine JR.more (Γ':=.own bx 219 [.slice p N.length q]::.res (buf p q 91 N)::.st (sl b m M)::[]) (fun w1 ho=>ho.ent) ?_
  refine Xwx (v:=fun _:Option Addr × Nat=>.tuple ⟨[]⟩) (B:=fun y=>.own bx 219 [.slice y.1 (putR N c).length y.2]::.res (buf y.1 y.2 91 (putR N c))::.st (sl b m M)::[]) rfl (fun w1 hw=>X1u N c hks (by omega) hw) ?_
  rintro ⟨p2,q2⟩
  dsimp only
  rw [← hnx]
  refine wz2 ?_
  exact ⟨i+1,p2,q2,by omega,by omega,iI⟩
 ·obtain rfl:i=M.length:=by omega
  rw [List.take_length]
  refine wz3 ?_
  exact Xab (p,q) rfl
theorem Xzf (a:Option Addr) (k:Nat) (L:List Reg_) (r:Reg_) (h:(sl a k L).holds F w) (hf:∀ c∈L,Xiz c) (hr:Xiz r) (hl:L.length < 4294967294) :
  GivesBuf prog 51 [.slice a L.length k, .agg ⟨regC r⟩] w F 91 (Xcs L r):=by
 obtain ⟨k1,u1,g1,⟨n1,s1⟩⟩:=r
 refine Xaa func51 rfl ntmps51 rfl rfl [.st (sl a k L)] (.start1 h) ?_
 (repeat (refine wE ?_; intro _)); refine wA ?_
 refine JR.callV rfl (fun w1 hw=>Xna w1 _ a k L hw.get hf) ?_
 cases m1:Xc6 L with
 | false =>
  rw [show Xcs L ⟨k1,u1,g1,⟨n1,s1⟩⟩=[] from if_neg (by rw [m1]; exact Bool.false_ne_true)]
  refine wz8 ?_
  exact CT.done (none,0) rfl (fun w ho=>ho.bufNil)
 | true =>
 refine wz1 ?_
 refine JR.callV rfl (fun w1 hw=>Xu9 w1 _ ⟨k1,u1,g1,⟨n1,s1⟩⟩ hr) ?_
 cases m2:Xci ⟨k1,u1,g1,⟨n1,s1⟩⟩ with
 | false =>
  rw [show Xcs L ⟨k1,u1,g1,⟨n1,s1⟩⟩=[] from if_neg (by rw [m1,m2]; exact Bool.false_ne_true)]
  refine wz8 ?_
  exact CT.done (none,0) rfl (fun w ho=>ho.bufNil)
 | true =>
 rw [show Xcs L ⟨k1,u1,g1,⟨n1,s1⟩⟩=Xfk L [⟨k1,u1,g1,⟨n1,s1⟩⟩] from if_pos (by rw [m1,m2]; rfl)]
 (repeat (refine wF ?_; intro _)); refine wX ?_
 rename_i bl
 refine JR.callBuf rfl (fun w1 hw=>(Xpo w1 (fun _=>True) a (some ⟨bl,0,none⟩) k 1 L [⟨k1,u1,g1,⟨n1,s1⟩⟩] ((sl a k L).mono _ _ _ (fun _ _=>trivial) hw.get) (Xz2 (L:=[(⟨k1,u1,g1,⟨n1,s1⟩⟩:Reg_)]) (hw.sat (.own bl 91 [.string k1, .string u1, .int .i64 g1, .int .i64 n1, .int .i64 s1]) (by simp)) (by simp)) (Xfb m1) (by simp only [List.length_cons,List.length_nil]; omega)).plain (fun _ _=>rfl)) ?_
 intro p q
 refine wz10 ?_
 exact Xab (p,q) rfl
theorem Xt7 (a b:Option Addr) (k m:Nat) (L M:List Reg_) (h:(sl a k L).holds F w) (h':(sl b m M).holds F w) (hf:∀ c∈L,Xiz c) (hf':∀ c∈M,Xiz c) (hl:L.length+M.length < 4294967296) :
  GivesBuf prog 232 [.slice a L.length k, .slice b M.length m] w F 91 (Xcj L M):=by
 refine Xaa func232 rfl ntmps232 rfl rfl [.st (sl a k L), .st (sl b m M)] (.start2 h h') ?_
 refine wz10 ?_
 refine JR.callV rfl (fun w1 hw=>Xna w1 _ a k L hw.get hf) ?_
 cases m1:Xc6 L with
 | false =>
  rw [show Xcj L M=[] from if_neg (by rw [m1]; exact Bool.false_ne_true)]
  refine wz8 ?_
  exact CT.done (none,0) rfl (fun w ho=>ho.bufNil)
 | true =>
 refine wz7 ?_
 refine JR.callV rfl (fun w1 hw=>Xna w1 _ b m M hw.get hf') ?_
 cases m2:Xc6 M with
 | false =>
  rw [show Xcj L M=[] from if_neg (by rw [m1,m2]; exact Bool.false_ne_true)]
  refine wz8 ?_
  exact CT.done (none,0) rfl (fun w ho=>ho.bufNil)
 | true =>
 rw [show Xcj L M=Xfk L M from if_pos (by rw [m1,m2]; rfl)]
 refine wz7 ?_
 refine JR.callBuf rfl (fun w1 hw=>Xpo w1 _ a b k m L M hw.get hw.get (Xfb m1) hl) ?_
 intro p q
 refine wz10 ?_
 exact Xab (p,q) rfl
end
def Xt8:Go.Shelf.Ren:=⟨fun | 6=>178 | 14=>240 | 15=>122 | 20=>292 | 21=>293 | 22=>294 | 23=>295 | 24=>296 | 25=>297 | 26=>298 | 27=>299 | 28=>189 | 29=>190 | 46=>324 | 47=>243 | 48=>244 | 49=>325 | 50=>326 | 57=>332 | n=>n,fun | 22=>36 | 24=>77 | 25=>222 | 39=>175 | 45=>225 | 46=>226 | 50=>230 | 53=>195 | 55=>192 | 66=>274 | 70=>278 | 76=>317 | 77=>318 | n=>n,fun | n=>n⟩
open Go.Shelf Go.Proofs in
theorem Xz3:SlLaysF0.n6 prog Xt8 where
 mixed:=by kernel_rfl
 f6:=⟨ "slices.SortFunc[[]anabranch/api.Pair,anabranch/api.Pair]", by decide,func178.trans (congrArg some (by kernel_rfl))⟩
 f14:=⟨ "slices.pdqsortCmpFunc[anabranch/api.Pair]", by decide,func240.trans (congrArg some (by kernel_rfl))⟩
 f15:=func122.trans (congrArg some (by kernel_rfl))
 f20:=⟨ "slices.insertionSortCmpFunc[anabranch/api.Pair]", by decide,func292.trans (congrArg some (by kernel_rfl))⟩
 f21:=⟨ "slices.heapSortCmpFunc[anabranch/api.Pair]", by decide,func293.trans (congrArg some (by kernel_rfl))⟩
 f22:=⟨ "slices.breakPatternsCmpFunc[anabranch/api.Pair]", by decide,func294.trans (congrArg some (by kernel_rfl))⟩
 f23:=⟨ "slices.choosePivotCmpFunc[anabranch/api.Pair]", by decide,func295.trans (congrArg some (by kernel_rfl))⟩
 f24:=⟨ "slices.reverseRangeCmpFunc[anabranch/api.Pair]", by decide,func296.trans (congrArg some (by kernel_rfl))⟩
 f25:=⟨ "slices.partialInsertionSortCmpFunc[anabranch/api.Pair]", by decide,func297.trans (congrArg some (by kernel_rfl))⟩
 f26:=⟨ "slices.partitionEqualCmpFunc[anabranch/api.Pair]", by decide,func298.trans (congrArg some (by kernel_rfl))⟩
 f27:=⟨ "slices.partitionCmpFunc[anabranch/api.Pair]", by decide,func299.trans (congrArg some (by kernel_rfl))⟩
 f28:=func189.trans (congrArg some (by kernel_rfl))
 f29:=func190.trans (congrArg some (by kernel_rfl))
 f46:=⟨ "slices.siftDownCmpFunc[anabranch/api.Pair]", by decide,func324.trans (congrArg some (by kernel_rfl))⟩
 f47:=func243.trans (congrArg some (by kernel_rfl))
 f48:=func244.trans (congrArg some (by kernel_rfl))
 f49:=⟨ "slices.medianAdjacentCmpFunc[anabranch/api.Pair]", by decide,func325.trans (congrArg some (by kernel_rfl))⟩
 f50:=⟨ "slices.medianCmpFunc[anabranch/api.Pair]", by decide,func326.trans (congrArg some (by kernel_rfl))⟩
 f57:=⟨ "slices.order2CmpFunc[anabranch/api.Pair]", by decide,func332.trans (congrArg some (by kernel_rfl))⟩
 t0:=underlying0
 a0:=Tryz.isAgg0
 z0:=Tryz.sizeOf0
 v0:=Tryz.zeroValue0
 t3:=underlying3
 a3:=Tryz.isAgg3
 z3:=Tryz.sizeOf3
 v3:=Tryz.zeroValue3
 t4:=underlying4
 a4:=Tryz.isAgg4
 z4:=Tryz.sizeOf4
 v4:=Tryz.zeroValue4
 t5:=underlying5
 a5:=Tryz.isAgg5
 z5:=Tryz.sizeOf5
 v5:=Tryz.zeroValue5
 t9:=underlying9
 a9:=Tryz.isAgg9
 z9:=Tryz.sizeOf9
 v9:=Tryz.zeroValue9
 t22:=underlying36
 a22:=Tryz.isAgg36
 z22:=Tryz.sizeOf36
 v22:=Tryz.zeroValue36
 t25:=underlying222
 a25:=Tryz.isAgg222
 z25:=Tryz.sizeOf222
 v25:=Tryz.zeroValue222
 t39:=underlying175
 a39:=Tryz.isAgg175
 z39:=Tryz.sizeOf175
 v39:=Tryz.zeroValue175
 t45:=underlying225
 a45:=Tryz.isAgg225
 z45:=Tryz.sizeOf225
 v45:=Tryz.zeroValue225
 t46:=underlying226
 a46:=Tryz.isAgg226
 z46:=Tryz.sizeOf226
 v46:=Tryz.zeroValue226
 t50:=underlying230
 a50:=Tryz.isAgg230
 z50:=Tryz.sizeOf230
 v50:=Tryz.zeroValue230
 t53:=underlying195
 a53:=Tryz.isAgg195
 z53:=Tryz.sizeOf195
 v53:=Tryz.zeroValue195
 t55:=underlying192
 a55:=Tryz.isAgg192
 z55:=Tryz.sizeOf192
 v55:=Tryz.zeroValue192
 t66:=underlying274
 a66:=Tryz.isAgg274
 z66:=Tryz.sizeOf274
 v66:=Tryz.zeroValue274
 t70:=underlying278
 a70:=Tryz.isAgg278
 z70:=Tryz.sizeOf278
 v70:=Tryz.zeroValue278
 t76:=underlying317
 a76:=Tryz.isAgg317
 z76:=Tryz.sizeOf317
 v76:=Tryz.zeroValue317
 t77:=underlying318
 a77:=Tryz.isAgg318
 z77:=Tryz.sizeOf318
 v77:=Tryz.zeroValue318
section
attribute [local irreducible] JC JO JR JQ andThen inBlock OpV Gives Xae JM JS
theorem Xwy [Dr] (s:ByteArray):GivesV prog 300 [.string s] w F (.bool false):=by
 refine Xaa func300 rfl ntmps300 rfl rfl [] (.start w F) ?_
 refine wA ?_
 refine Xab () ?_
 simp [Xaf]
theorem Xiv [Dr] (a b:ByteArray):GivesV prog 241 [.string a, .string b] w F (.int .i64 (cmpS a b)):=by
 refine Xaa func241 rfl ntmps241 rfl rfl [] (.start w F) ?_
 refine wz10 ?_
 refine JR.callV rfl (fun w1 hw=>Xwy w1 _ a) ?_
 refine wz10 ?_
 refine JR.callV rfl (fun w1 hw=>Xwy w1 _ b) ?_
 refine wz7 ?_
 refine Wf Xhw rfl ?_
 cases h:Xam a b with
 | true =>
  have e1:cmpS a b = -1:=by simp [cmpS,h]
  rw [e1]
  refine wz8 ?_
  exact Xab () rfl
 | false =>
 refine wz7 ?_
 refine Wf Xl5 rfl ?_
 cases h':Xam b a with
 | true =>
  have e1:cmpS a b=1:=by simp [cmpS,h,h']
  rw [e1]
  refine wz8 ?_
  exact Xab () rfl
 | false =>
  have e1:cmpS a b=0:=by simp [cmpS,h,h']
  rw [e1]
  refine wX ?_
  exact Xab () rfl
theorem Xmn [Dr] (w:World) (F:Nat→Prop) (a b:Pair_):GivesV prog 179 [.agg ⟨Xcc a⟩, .agg ⟨Xcc b⟩] w F (.int .i64 (ordP a b)):=by
 obtain ⟨k1,u1,⟨n1,s1⟩⟩:=a
 obtain ⟨k2,u2,⟨n2,s2⟩⟩:=b
 refine Xaa func179 rfl ntmps179 rfl rfl [] (.start w F) ?_
 (repeat (refine wE ?_; intro _)); refine wA ?_
 refine Xca 24 mixed ?_
 refine JM.tv 0 ?_
 refine JM.tv 1 ?_
 refine JM.tv 2 ?_
 refine JM.tv 3 ?_
 refine JM.takeCall 4 rfl (by kernel_rfl) rfl (fun w1 hw=>Xiv w1 _ k1 k2) rfl rfl ?_
 refine JM.tv 5 ?_
 refine JM.tv 6 ?_
 refine JM.tv 7 ?_
 refine JM.tv 8 ?_
 refine JM.takeCall 9 rfl (by kernel_rfl) rfl (fun w1 hw=>Xiv w1 _ u1 u2) rfl rfl ?_
 refine JM.tv 10 ?_
 refine JM.tv 11 ?_
 refine JM.tv 12 ?_
 refine JM.tv 13 ?_
 refine JM.tv 14 ?_
 refine JM.tv 15 ?_
 refine JM.takeCall 16 rfl (by kernel_rfl) rfl (fun w1 hw=>Xda w1 _ n1 n2) rfl rfl ?_
 refine JM.tv 17 ?_
 refine JM.tv 18 ?_
 refine JM.tv 19 ?_
 refine JM.tv 20 ?_
 refine JM.tv 21 ?_
 refine JM.tv 22 ?_
 refine JM.takeCall 23 rfl (by kernel_rfl) rfl (fun w1 hw=>Xda w1 _ s1 s2) rfl rfl ?_
 refine Xah 24 (by kernel_rfl) rfl rfl rfl (Ww rfl ⟨rfl,by decide,by decide,by decide⟩ fun lb=>Wd ⟨rfl,?_⟩)
 refine Xah 25 (by kernel_rfl) rfl rfl rfl (JR.callV (v:=.int .i64 (orL [cmpS k1 k2,cmpS u1 u2,cmpI n1 n2,cmpI s1 s2])) rfl (fun w1 hw=>?_) (Wd ⟨rfl,?_⟩))
 ·have hb:=hw.sat (.own lb 3 [.int .i64 (cmpS k1 k2), .int .i64 (cmpS u1 u2), .int .i64 (cmpI n1 n2), .int .i64 (cmpI s1 s2)]) (by simp)
  exact (Xzr w1 (fun _=>True) _ 4 [cmpS k1 k2,cmpS u1 u2,cmpI n1 n2,cmpI s1 s2] (Xu8 (L:=[cmpS k1 k2,cmpS u1 u2,cmpI n1 n2,cmpI s1 s2]) hb (by simp))).any
 refine Xah 26 (by kernel_rfl) rfl rfl rfl (Wf Vb rfl (Wd ⟨rfl,?_⟩))
 refine JM.nil (by kernel_rfl) ?_
 refine wz13 ?_
 exact Xab () rfl
theorem Xwz (a b:Pair_):GivesV prog 163 [.agg ⟨Xcc a⟩, .agg ⟨Xcc b⟩] w F (.bool (Xby a b)):=by
 obtain ⟨k1,u1,⟨n1,s1⟩⟩:=a
 obtain ⟨k2,u2,⟨n2,s2⟩⟩:=b
 refine Xaa func163 rfl ntmps163 rfl rfl [] (.start w F) ?_
 (repeat (refine wE ?_; intro _)); refine wA ?_
 refine JR.callV rfl (fun w1 hw=>Xmn w1 _ ⟨k1,u1,⟨n1,s1⟩⟩ ⟨k2,u2,⟨n2,s2⟩⟩) ?_
 refine wA ?_
 exact Xab () rfl
def Xhm (p:Pair_):Prop:=p.key.size < 4611686018427387904∧p.elem.size < 4611686018427387904
theorem Xfg (a:Option Addr) (k:Nat) (L:List Pair_) (h:(sl a k L).holds F w) (hs:∀ c∈L,Xhm c) :
  GivesV prog 104 [.slice a L.length k] w F (.bool (Xbn L)):=by
 have hL:L.length < 9223372036854775807:=by have:=h.2.2.1; simp only [lim] at this; omega
 unfold Xbn
 refine Xaa func104 rfl ntmps104 rfl rfl [.st (sl a k L)] (.start1 h) ?_
 refine wz4 ?_
 refine Xaj (fun (i:Nat)=>[(0, .slice a L.length k),(5, .slice a L.length k),(6, .int .i64 (L.length:Int)),(7, .int .i64 (i:Int))])
  (fun _=>[.st (sl a k L)]) (fun i=>i≤L.length∧Xgq i (Xfr L)=true) (fun i=>L.length - i) 0 ⟨Nat.zero_le _,rfl⟩ iI ?_
 rintro i ⟨hi,hall⟩
 refine wz11 ?_
 refine JC.test (fun hlt=>?_) (fun hge=>?_)
 ·have hlt':i < L.length:=by omega
  have hat:=Xha hlt'
  have hcut:=Xkf (p:=Xfr L) hlt'
  have hck:=hs _ (List.getElem_mem hlt')
  obtain ⟨c,hc⟩:∃ c,c=L[i]:=⟨_,rfl⟩
  rw [← hc] at hat hck
  refine wz14 ?_
  refine Xek rfl hlt' ?_
  intro b3 o3
  rw [← hc]
  (repeat (refine wE ?_; intro _)); refine wA ?_
  rename_i bc
  obtain ⟨j,hj⟩:∃ j,j=i - 1:=⟨_,rfl⟩
  have hjl:j < L.length:=by omega
  refine Xfi (fun _:Unit=>[(0, .slice a L.length k),(5, .slice a L.length k),(6, .int .i64 (L.length:Int)),(7, .int .i64 (i:Int)),(53, .bool (!Xfr L i))]) (fun _=>[.st (sl a k L)]) ?_ ?_
  ·refine Xd7 (L:=L) (.slice a L.length k) j hjl ?_
   intro b4 o4
   obtain ⟨p,hp⟩:∃ p,p=L[j]:=⟨_,rfl⟩
   rw [← hp]
   have hat':Xfr L i=(Xb3 c && (decide (i=0) || Xby p c)):=by rw [hat,hp]; simp only [hj]
   refine Xbe mixed (by kernel_rfl) ?_
   refine wY ?_
   refine JQ.call rfl rfl (fun w1 hw=>Xdo w1 _ c.key hck.1) ?_
   cases h1:Xc4 c.key with
   | false =>
    refine wY ?_
    rw [show Xfr L i=false by rw [hat']; simp [Xb3,h1],Bool.not_false]
    exact ⟨rfl,(),iI⟩
   | true =>
   refine wY ?_
   refine JQ.call rfl rfl (fun w1 hw=>Xdo w1 _ c.elem hck.2) ?_
   cases h2:Xc4 c.elem with
   | false =>
    refine wY ?_
    rw [show Xfr L i=false by rw [hat']; simp [Xb3,h2],Bool.not_false]
    exact ⟨rfl,(),iI⟩
   | true =>
   refine wY ?_
   by_cases h3:c.ev.node < 0
   ·refine JQ.reslot 28 (.bool true) (by congr 1; exact decide_eq_true h3) ?_
    refine wY ?_
    rw [hat',show Xb3 c=false by unfold Xb3; rw [decide_eq_false (show ¬ 0≤c.ev.node by omega)]; simp,Bool.false_and,Bool.not_false]
    exact ⟨rfl,(),iI⟩
   refine JQ.reslot 28 (.bool false) (by congr 1; exact decide_eq_false h3) ?_
   refine wY ?_
   by_cases h4:c.ev.node≥8
   ·refine JQ.reslot 34 (.bool true) (by congr 1; exact decide_eq_true h4) ?_
    refine wY ?_
    rw [hat',show Xb3 c=false by unfold Xb3; rw [decide_eq_false (show ¬ c.ev.node < 8 by omega)]; simp,Bool.false_and,Bool.not_false]
    exact ⟨rfl,(),iI⟩
   refine JQ.reslot 34 (.bool false) (by congr 1; exact decide_eq_false h4) ?_
   refine wY ?_
   by_cases h5:c.ev.seq < 1
   ·refine JQ.reslot 40 (.bool true) (by congr 1; exact decide_eq_true h5) ?_
    refine wY ?_
    rw [hat',show Xb3 c=false by unfold Xb3; rw [decide_eq_false (show ¬ 1≤c.ev.seq by omega)]; simp,Bool.false_and,Bool.not_false]
    exact ⟨rfl,(),iI⟩
   refine JQ.reslot 40 (.bool false) (by congr 1; exact decide_eq_false h5) ?_
   have hone:Xb3 c=true:=by unfold Xb3; rw [h1,h2,decide_eq_true (show 0≤c.ev.node by omega),decide_eq_true (show c.ev.node < 8 by omega),decide_eq_true (show 1≤c.ev.seq by omega)]; rfl
   rw [hone,Bool.true_and] at hat'
   refine wY ?_
   by_cases h0:i=0
   ·refine JQ.reslot 43 (.bool false) (by congr 1; exact decide_eq_false (by omega)) ?_
    refine wY ?_
    rw [hat',decide_eq_true h0,Bool.true_or,Bool.not_true]
    exact ⟨rfl,(),iI⟩
   refine JQ.reslot 43 (.bool true) (by congr 1; exact decide_eq_true (by omega)) ?_
   refine wY ?_
   refine JQ.reslot 46 (.int .i64 (j:Int)) (by congr 1; omega) ?_
   refine wY ?_
   refine JQ.call rfl rfl (fun w1 hw=>Xwz w1 _ p c) ?_
   refine wY ?_
   rw [hat',decide_eq_false h0,Bool.false_or]
   exact ⟨rfl,(),iI⟩
  rintro ⟨⟩
  cases hx:Xfr L i with
  | false =>
   refine wz8 ?_
   refine Xab () ?_
   simp only [Xaf]
   rw [hcut hx]
  | true =>
  refine wz2 ?_
  exact ⟨i+1,⟨by omega,Xh1 hall hx⟩,by omega,iI⟩
 ·obtain rfl:i=L.length:=by omega
  refine wz3 ?_
  refine Xab () ?_
  simp only [Xaf]
  rw [hall]
instance:MKey prog 77 Xbd:=MKey.pair iI ⟨by kernel_rfl,by kernel_rfl⟩ (fun _ _=>iI)
theorem Xjm (a:Option Addr) (k:Nat) (L:List Pair_) (h:(sl a k L).holds F w) (hn:L.Nodup) :
  Gives prog 114 [.slice a L.length k] w F (fun b:Nat=>.map (some b)) (fun b=>[.omap b (ents Xbd (cntM (Xav L))) (cntM (Xav L)).length]):=by
 have hL:L.length < 9223372036854775807:=by have:=h.2.2.1; simp only [lim] at this; omega
 refine Xaa func114 rfl ntmps114 rfl rfl [.st (sl a k L)] (.start1 h) ?_
 refine wz10 ?_
 refine JR.makeMap Xbd rfl ?_
 intro b
 refine wz4 ?_
 refine Xaj (fun (i:Nat)=>[(3, .map (some b)),(7, .slice a L.length k),(8, .int .i64 (L.length:Int)),(9, .int .i64 (i:Int))])
  (fun i=>[.omap b (ents Xbd (cntM (Xav (L.take i)))) (cntM (Xav (L.take i))).length, .st (sl a k L)]) (fun i=>i≤L.length) (fun i=>L.length - i) 0 (Nat.zero_le _) (by simp only [List.take_zero,Xav,cntM,List.map_nil]; exact iI) ?_
 rintro i hi
 refine wz11 ?_
 refine JC.test (fun hlt=>?_) (fun hge=>?_)
 ·have hlt':i < L.length:=by omega
  have hnx:Xav (L.take (i+1))=Xav (L.take i)++[(L[i],1)]:=by rw [List.take_succ_eq_append_getElem hlt',Xt4]
  have hni:L[i]∉(Xav (L.take i)).map (·.1):=by
   rw [Xe2]
   intro hm
   obtain ⟨j,hj,e⟩:=List.getElem_of_mem hm
   rw [List.length_take] at hj
   rw [List.getElem_take] at e
   exact List.pairwise_iff_getElem.1 hn j i (by omega) hlt' (by omega) e
  have hnd:((Xav (L.take i)).map (·.1)).Nodup:=by rw [Xe2]; exact hn.sublist (List.take_sublist _ _)
  obtain ⟨c,hc⟩:∃ c,c=L[i]:=⟨_,rfl⟩
  rw [← hc] at hnx hni
  refine wz14 ?_
  refine Xek rfl hlt' ?_
  intro b3 o3
  rw [← hc]
  obtain ⟨M,hM⟩:∃ M,M=Xav (L.take i):=⟨_,rfl⟩
  rw [← hM] at hnx hni hnd ⊢
  (repeat (refine wE ?_; intro _)); refine wA ?_
  rename_i bc
  have e9:Xds (Xb1 M c) (Xf2 M c) (IntKind.i64.wrap (Xei M c+1))=Xav (L.take (i+1)):=by rw [Xwv hni,hnx]; exact Xze hni 1
  refine JC.drawP mixed ?_
  refine Xad 0 ?_
  refine JP.tv 1 [.own bc 77 (Xcc c)] ?_
  refine JP.both 2 4 (by kernel_rfl) rfl rfl rfl rfl (Wf (Xay (M:=cntM M) (v:=.int .i64 (Xei M c)) c (by rw [Xdl]; exact hnd) (Xde _ _)) rfl (Wd (nO ?_))) (Xc0 c rfl hnd (Wd (nO ?_)))
  ·refine JP.pure 3 rfl (by kernel_rfl) rfl (fun _=>Xc1) rfl rfl ?_
   refine Xal 4 rfl rfl (Xc0 c rfl hnd (Wd (nO ?_)))
   refine Xad 5 ?_
   refine Xal 6 rfl rfl (Xb9 (M:=Xb1 M c) (Xe1 M c) (Wd (nO ?_)))
   refine JP.nil (by kernel_rfl) ?_
   rw [e9]
   refine wz2 ?_
   exact ⟨i+1,by omega,by omega,iI⟩
  ·refine Xad 5 ?_
   refine Xal 2 rfl rfl (Wf (Xay (M:=cntM (Xb1 M c)) (v:=.int .i64 (Xei M c)) c (by rw [Xdl]; exact Xf3 hnd c) (by rw [Xde,Xgy])) rfl (Wd (nO ?_)))
   refine JP.pure 3 rfl (by kernel_rfl) rfl (fun _=>Xc1) rfl rfl ?_
   refine Xal 6 rfl rfl (Xb9 (M:=Xb1 M c) (Xe1 M c) (Wd (nO ?_)))
   refine JP.nil (by kernel_rfl) ?_
   rw [e9]
   refine wz2 ?_
   exact ⟨i+1,by omega,by omega,iI⟩
 ·obtain rfl:i=L.length:=by omega
  rw [List.take_length]
  refine wz3 ?_
  exact Xab b rfl
theorem Xlt {w0 w:World} {F:Nat→Prop} {Γ:List Fact} {a:Option Addr} {c el:Nat} {L:List Pair_} (ho:Hold w0 F (.res (buf a c el L)::Γ) w) :
  Calls prog 178 ⟨[.slice a L.length c, .func (.func 179) ⟨[]⟩ ⟨[]⟩]⟩ w fun x w'=>∃ y:Unit,x = .returned (.tuple ⟨[]⟩)∧Hold w0 F (.res (buf a c el (Xfl L))::Γ) w':=by
 by_cases hL:L=[]
 ·subst hL
  exact Calls.mono (Go.Proofs.AnyF.slices_SortFunc_none Xz3 a c _ w) fun x w' ⟨hx,hw⟩=>⟨(),hx,by rw [hw]; simpa [Xfl] using ho⟩
 obtain ⟨b,rfl⟩:=Xja (ho.sat (.res (buf a c el L)) (by simp)) hL
 obtain ⟨junk,h1,h2,h3,h4,h5⟩:=ho.openC
 have:=@Xzd _ Pair_ ⟨⟨.empty, .empty,⟨0,0⟩⟩⟩ prog _ Xz3 4 (by decide) Tryz.isAgg77 Tryz.sizeOf77 Xcc (fun _=>rfl) (fun x=>PlainC.one x) ordP Xvf (fun x y h1 h2=>Xil h1 h2) 179 _ w0 w F Γ b c el L junk (by simp only [lim] at h4; omega) h5 (fun W p q=>@Xmn ⟨True⟩ W _ p q)
 refine Calls.mono this ?_
 rintro x w' ⟨_,hx,hw⟩
 refine ⟨(),hx,hw.closeC (cs:=Xcc) (Xfl L) junk rfl ?_ ?_ h3 ?_⟩
 ·rw [Xeo]; exact h1
 ·rw [Xeo]; exact h2
 ·rw [Xeo]; exact h4
theorem Xny (M:Cnt Pair_):(List.range (cntM M).length).filterMap (fun i=>(M[i]?).map (·.1))=M.map (·.1):=by
 rw [Xee]
 induction M with
 | nil=>rfl
 | cons a M ih =>
  rw [List.length_cons,List.range_succ_eq_map,List.filterMap_cons]
  simp only [List.getElem?_cons_zero,Option.map_some,List.filterMap_map,List.map_cons]
  congr 1
theorem Xic (b:Nat) (M:Cnt Pair_) (hn:(M.map (·.1)).Nodup) (hl:M.length≤34359738368) (h:(rmap b (ents Xbd (cntM M)) (cntM M).length).holds F w) :
  GivesBuf prog 115 [.map (some b)] w F 77 (Xfl (M.map (·.1))):=by
 have hkl:=Xee M
 refine Xaa func115 rfl ntmps115 rfl rfl [.st (rmap b (ents Xbd (cntM M)) (cntM M).length)] (.start1 h) ?_
 refine JC.buf_nil (α:=Pair_) 77 ?_
 refine wz10 ?_
 refine JR.range (M:=cntM M) rfl ?_
 intro r
 refine wz4 ?_
 refine Xej (fun (S:List Nat) (out:List Pair_) p q=>[(3, .slice p out.length q),(6, .pointer (some ⟨r,0,none⟩))])
  (fun S out p q=>[.res (buf p q 77 out), .obj r (.mapIter (some b) (cntM M).length S.toArray (cntM M).length), .st (rmap b (ents Xbd (cntM M)) (cntM M).length)])
  (fun S out p q=>S.Nodup∧(∀ i∈S,i < (cntM M).length)∧out=S.filterMap (fun i=>(M[i]?).map (·.1))∧out.length=S.length) (fun S _ _ _=>(cntM M).length - S.length) [] [] none 0 ⟨List.nodup_nil,by simp,rfl,rfl⟩ iI ?_
 intro S out p q ⟨hS1,hS2,hout,hlen⟩
 have hSl:S.length≤(cntM M).length:=Xcl hS1 hS2
 refine wz14 ?_
 refine JR.next (M:=cntM M) rfl hS2 (fun hall=>?_) (fun j hj hjS=>?_)
 ·have hp:out.Perm (M.map (·.1)):=by
   rw [hout]
   have h2:=(Xh5 hS1 hS2 hall).filterMap (fun i=>(M[i]?).map (·.1))
   rwa [Xny] at h2
  refine wA ?_
  refine Xax (v:=fun _:Unit=>.tuple ⟨[]⟩) rfl (fun w1 hw=>Xlt hw) ?_
  intro _
  refine wz10 ?_
  refine CT.done (p,q) ?_ (fun w ho=>?_)
  ·simp only [Xaf,hp.length_eq,Xeo]
  ·rw [← Xsy hp]; exact ho.ent
 ·have hjM:j < M.length:=by omega
  have hkj:(cntM M)[j].1=M[j].1:=by simp [cntM]
  refine wA ?_
  refine Wf (OpV.entry (M:=cntM M) hj) rfl ?_
  rw [hkj]
  obtain ⟨c,hc⟩:∃ c,c=M[j].1:=⟨_,rfl⟩
  rw [← hc]
  (repeat (refine wE ?_; intro _)); refine wA ?_
  have hlt:S.length < (cntM M).length:=by
   have:=Xcl (S:=S++[j]) (n:=(cntM M).length) (List.nodup_append.2 ⟨hS1,by simp,fun x hx y hy=>by simp at hy; subst hy; exact fun e=>hjS (e ▸ hx)⟩) (fun i hi=>by
    rcases List.mem_append.1 hi with hi | hi
    ·exact hS2 i hi
    ·simp at hi; subst hi; exact hj)
   simp at this; omega
  refine Xap (u:=c) rfl (by exact ⟨rfl,rfl,by decide⟩) (by omega) ?_
  intro a2 c2
  refine wz2 ?_
  refine ⟨S++[j],out++[c],a2,c2,⟨List.nodup_append.2 ⟨hS1,by simp,fun x hx y hy=>by simp at hy; subst hy; exact fun e=>hjS (e ▸ hx)⟩,fun i hi=>?_,?_,by simp [hlen]⟩,by simp; omega,iI⟩
  ·rcases List.mem_append.1 hi with hi | hi
   ·exact hS2 i hi
   ·simp at hi; subst hi; exact hj
  ·rw [hc,hout,List.filterMap_append]; simp [hjM]
theorem X1v (p:Pair_):Xbn [p]=Xb3 p:=by
 unfold Xbn Xgq
 simp [Xfr]
theorem Xw0 (a:Option Addr) (k:Nat) (L:List Pair_) (c:Pair_) (h:(sl a k L).holds F w) (hs:∀ c∈L,Xhm c) (hc:Xhm c) (hl:L.length < 34359738367) :
  GivesBuf prog 53 [.slice a L.length k, .agg ⟨Xcc c⟩] w F 77 (addP L c):=by
 refine Xaa func53 rfl ntmps53 rfl rfl [.st (sl a k L)] (.start1 h) ?_
 (repeat (refine wE ?_; intro _)); refine wA ?_
 rename_i bc
 refine JR.callV rfl (fun w1 hw=>Xfg w1 _ a k L hw.get hs) ?_
 cases m1:Xbn L with
 | false =>
  rw [show addP L c=[] from if_neg (by rw [m1]; exact Bool.false_ne_true)]
  refine wz8 ?_
  exact CT.done (none,0) rfl (fun w ho=>ho.bufNil)
 | true =>
 (repeat (refine wF ?_; intro _)); refine wX ?_
 rename_i bl
 refine JR.callV rfl (fun w1 hw=>(Xfg w1 (fun _=>True) (some ⟨bl,0,none⟩) 1 [c] (Xz2 (L:=[c]) (hw.sat (.own bl 77 (Xcc c)) (by simp)) (by simp)) (by intro x hx; rw [List.mem_singleton.1 hx]; exact hc)).any) ?_
 rw [X1v]
 cases m2:Xb3 c with
 | false =>
  rw [show addP L c=[] from if_neg (by rw [m1,m2]; exact Bool.false_ne_true)]
  refine wz8 ?_
  exact CT.done (none,0) rfl (fun w ho=>ho.bufNil)
 | true =>
 rw [show addP L c=Xfl (addK L c) from if_pos (by rw [m1,m2]; rfl)]
 refine wz7 ?_
 refine JR.call (v:=fun b:Nat=>.map (some b)) rfl (fun w1 hw=>Xjm w1 _ a k L hw.get (Xa1 m1)) ?_
 intro b
 obtain ⟨M,hM⟩:∃ M,M=Xav L:=⟨_,rfl⟩
 have hnd:(M.map (·.1)).Nodup:=by rw [hM,Xe2]; exact Xa1 m1
 rw [← hM]
 dsimp only [List.cons_append,List.nil_append]
 obtain ⟨N,e9⟩:∃ N,Xds (Xb1 M c) (Xf2 M c) (IntKind.i64.wrap (Xei M c+1))=N:=⟨_,rfl⟩
 have hNk:N.map (·.1)=addK L c:=by rw [← e9,Xk3,Xgx,hM,Xe2]
 have hNl:N.length≤34359738368:=by
  have h1:N.length=(addK L c).length:=by rw [← hNk,List.length_map]
  rw [h1]; unfold addK; split <;> simp <;> omega
 have hNn:(N.map (·.1)).Nodup:=by rw [hNk]; exact Xch (Xa1 m1) c
 refine wz10 ?_
 refine JC.more (Γ':=.omap b (ents Xbd (cntM M)) (cntM M).length::.own bc 77 (Xcc c)::.st (sl a k L)::[]) (fun w1 ho=>ho.ent) ?_
 refine JC.drawP mixed ?_
 refine Xad 0 ?_
 refine JP.tv 1 [.own bc 77 (Xcc c)] ?_
 refine JP.both 2 4 (by kernel_rfl) rfl rfl rfl rfl (Wf (Xay (M:=cntM M) (v:=.int .i64 (Xei M c)) c (by rw [Xdl]; exact hnd) (Xde _ _)) rfl (Wd (nO ?_))) (Xc0 c rfl hnd (Wd (nO ?_)))
 ·refine JP.pure 3 rfl (by kernel_rfl) rfl (fun _=>Xc1) rfl rfl ?_
  refine Xal 4 rfl rfl (Xc0 c rfl hnd (Wd (nO ?_)))
  refine Xad 5 ?_
  refine Xal 6 rfl rfl (Xb9 (M:=Xb1 M c) (Xe1 M c) (Wd (nO ?_)))
  refine JP.nil (by kernel_rfl) ?_
  rw [e9]
  refine Wa ?_
  refine JC.more (fun w1 ho=>ho.pubMap) ?_
  refine wz14 ?_
  refine JR.callBuf rfl (fun w1 hw=>Xic w1 _ b N hNn hNl hw.get) ?_
  intro p q
  rw [hNk]
  refine wz10 ?_
  exact Xab (p,q) rfl
 ·refine Xad 5 ?_
  refine Xal 2 rfl rfl (Wf (Xay (M:=cntM (Xb1 M c)) (v:=.int .i64 (Xei M c)) c (by rw [Xdl]; exact Xf3 hnd c) (by rw [Xde,Xgy])) rfl (Wd (nO ?_)))
  refine JP.pure 3 rfl (by kernel_rfl) rfl (fun _=>Xc1) rfl rfl ?_
  refine Xal 6 rfl rfl (Xb9 (M:=Xb1 M c) (Xe1 M c) (Wd (nO ?_)))
  refine JP.nil (by kernel_rfl) ?_
  rw [e9]
  refine Wa ?_
  refine JC.more (fun w1 ho=>ho.pubMap) ?_
  refine wz14 ?_
  refine JR.callBuf rfl (fun w1 hw=>Xic w1 _ b N hNn hNl hw.get) ?_
  intro p q
  rw [hNk]
  refine wz10 ?_
  exact Xab (p,q) rfl
end
end Ab
end Go.Proofs.YtllddbbldmoibaaGreat
