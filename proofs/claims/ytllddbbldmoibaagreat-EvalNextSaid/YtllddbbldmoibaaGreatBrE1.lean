/- Lemmas for the walks, part 1 of 6: Core, Ops, Mem, Call, Types, More, More2, Open, Draw, More3, Maps, More4, More5, More6, Words. -/
import Derived.Calls
import Derived.Below
import Derived.KernelRfl
import Derived.Deep.MidRow
import Derived.Laws.CopyRow
import Derived.Laws.Rows
import Derived.Laws.Append
import Derived.Laws.AppendOwn
import Derived.Deep.Quiet
import Derived.Great.BuildSlice
import Derived.Great.FillDense
import Derived.Laws.StructEq
import Derived.ChangeKeysEq
import Derived.Lib.Bytealg
import Derived.Lib.BytesEntry
import Derived.Laws.Externs
import Derived.WideKeyArr2
import Derived.MapKept
namespace Go.Proofs.YtllddbbldmoibaaGreat
namespace Ab
open Go Go.RowKit
set_option linter.unusedVariables false
set_option linter.unusedSimpArgs false
set_option linter.unusedSectionVars false
set_option synthInstance.maxSize 4000
set_option synthInstance.maxHeartbeats 400000
set_option maxHeartbeats 16000000
variable (w:World) (F:Nat→Prop)
abbrev E:=List (Nat × Value)
def look:E→Nat→Option Value
 | [],_=>none
 | (d,v)::e,i=>bif Nat.beq d i then some v else look e i
abbrev iI:=@inferInstance
structure Nn where
 s:Nat
 ds:List Deferred
structure Fr (n:Nn) (e:E) (a:Act):Prop where
 defers:a.defers=n.ds
 size:a.tmps.size=n.s
 slot:∀ i v,look e i=some v→a.tmps[i]? = some v
theorem Fr.put {n:Nn} {e:E} {a:Act} (h:Fr n e a) {d:Nat} (hd:Nat.blt d n.s=true) (v:Value):Fr n ((d,v)::e) (a.put (some d) v):=by
 have hd':d < n.s:=Nat.blt_eq.mp hd
 refine ⟨h.defers,by simp [Act.put,h.size],fun i u hu=>?_⟩
 simp only [look] at hu
 cases hb:Nat.beq d i with
 | true =>
  rw [hb] at hu
  have e1:d=i:=Nat.eq_of_beq_eq_true hb
  subst e1
  simp only [cond_true,Option.some.injEq] at hu
  subst hu
  simp [Act.put,h.size,hd']
 | false =>
  rw [hb] at hu
  have e1:d≠i:=Nat.ne_of_beq_eq_false hb
  simp only [cond_false] at hu
  have:=h.slot i u hu
  simp only [Act.put]
  rw [Array.getElem?_setIfInBounds_ne e1]
  exact this
theorem Fr.again {n:Nn} {e:E} {a:Act} (h:Fr n e a) {s:Nat} {v:Value} (hs:look e s=some v):Fr n ((s,v)::e) a:=by
 refine ⟨h.defers,h.size,fun i u hi=>?_⟩
 simp only [look] at hi
 cases hb:Nat.beq s i with
 | true =>
  rw [hb] at hi
  have:=Nat.eq_of_beq_eq_true hb
  subst this
  simp only [cond_true] at hi
  exact h.slot s u (hs.trans hi)
 | false=>rw [hb] at hi; exact h.slot i u hi
class EvB (b r:Bool):Prop where
 ok:b=r
instance (b:Bool):EvB b b:=⟨rfl⟩
class Lk (e:E) (t:Nat) (v:outParam Value):Prop where
 ok:look e t=some v
instance (priority:=100) Lk.miss {e:E} {d t:Nat} {u v:Value} [h:EvB (Nat.beq d t) false] [k:Lk e t v]:Lk ((d,u)::e) t v :=
 ⟨by simp only [look,h.ok,cond_false]; exact k.ok⟩
instance (priority:=1000) Lk.hit {e:E} {t:Nat} {v:Value}:Lk ((t,v)::e) t v :=
 ⟨by simp [look]⟩
class Ev (e:E) (x:Operand) (v:outParam Value):Prop where
 ok:∀ n a,Fr n e a→a.eval x=v
instance {e:E} {v:Value}:Ev e (.const v) v:=⟨fun _ _ _=>rfl⟩
instance {e:E} {g:Nat}:Ev e (.global g) (.pointer (some ⟨g,0,none⟩)):=⟨fun _ _ _=>rfl⟩
instance {e:E} {f:Nat}:Ev e (.func f) (.func (.func f) #[] #[]):=⟨fun _ _ _=>rfl⟩
instance {e:E} {t:Nat} {v:Value} [h:Lk e t v]:Ev e (.tmp t) v :=
 ⟨fun n a fr=>by
  have:=fr.slot t v h.ok
  simp [Act.eval,Array.getD_eq_getD_getElem?,this]⟩
class Dr where
 on:Prop
structure Bel [Dr] (B:Nat) (w w':World):Prop where
 os:w'.os=w.os
 tape:w'.tape=w.tape
 output:w'.output=w.output
 size:w.heap.size≤w'.heap.size
 block:∀ k,k < B→w'.heap[k]? = w.heap[k]?
 drawn:Dr.on→w.drawn≤w'.drawn
theorem Bel.below [Dr] {B:Nat} {w w':World} (h:Bel B w w'):Below B w w':=⟨h.os,h.tape,h.output,h.size,h.block⟩
theorem Bel.of [Dr] {B:Nat} {w w':World} (h:Below B w w') (hd:Dr.on→w.drawn≤w'.drawn):Bel B w w':=⟨h.os,h.tape,h.output,h.size,h.block,hd⟩
theorem Bel.refl [Dr] (B:Nat) (w:World):Bel B w w:=⟨rfl,rfl,rfl,Nat.le_refl _,fun _ _=>rfl,fun _=>Nat.le_refl _⟩
theorem Bel.trans [Dr] {B:Nat} {a b c:World} (h:Bel B a b) (k:Bel B b c):Bel B a c :=
 ⟨k.os.trans h.os,k.tape.trans h.tape,k.output.trans h.output,Nat.le_trans h.size k.size,fun i hi=>(k.block i hi).trans (h.block i hi),fun hd=>Nat.le_trans (h.drawn hd) (k.drawn hd)⟩
theorem Bel.mono [Dr] {B B':Nat} {w w':World} (h:Bel B w w') (hB:B'≤B):Bel B' w w':=⟨h.os,h.tape,h.output,h.size,fun k hk=>h.block k (Nat.lt_of_lt_of_le hk hB),h.drawn⟩
theorem Bel.drew [Dr] {B:Nat} {a w:World} (h:Bel B a w):Bel B a w.drew:=⟨h.os,h.tape,h.output,h.size,h.block,fun hd=>Nat.le_trans (h.drawn hd) (Nat.le_succ _)⟩
theorem Bel.alloc [Dr] {B:Nat} {a w:World} (h:Bel B a w) (hB:B≤w.heap.size) (o:Obj):Bel B a (w.alloc o) :=
 let k:=h.below.alloc hB o
 ⟨k.os,k.tape,k.output,k.size,k.block,h.drawn⟩
structure Asn where
 holds:(Nat→Prop)→World→Prop
 mono:∀ F G w,(∀ k,F k→G k)→holds F w→holds G w
 frame:∀ F w w',(∀ k,F k→w'.heap[k]? = w.heap[k]?)→holds F w→holds F w'
 within:∀ F w,holds F w→holds (fun k=>F k∧k < w.heap.size) w
structure Res where
 owns:Nat→Prop
 holds:(Nat→Prop)→World→Prop
 keep:∀ F G w w',holds F w→(∀ k,F k→k < w.heap.size→G k)→(∀ k,k < w.heap.size→(F k∨owns k)→w'.heap[k]? = w.heap[k]?)→holds G w'
 lt:∀ F w,holds F w→∀ k,owns k→k < w.heap.size
inductive Fact where
 | own (b:Nat) (t:TypeId) (vs:List Value)
 | omap (b:Nat) (es:List MapEntry) (clock:Nat)
 | obj (b:Nat) (o:Obj)
 | res (R:Res)
 | st (A:Asn)
def Fact.owns:Fact→Nat→Prop
 | .own b _ _,k=>k=b
 | .omap b _ _,k=>k=b
 | .obj b _,k=>k=b
 | .res R,k=>R.owns k
 | .st _,_=>False
def Fact.sat (F:Nat→Prop) (w:World):Fact→Prop
 | .own b t vs=>w.heap[b]? = some (.cells vs.toArray t (0,0))
 | .omap b es c=>w.heap[b]? = some (.map es.toArray c)
 | .obj b o=>w.heap[b]? = some o
 | .res R=>R.holds F w
 | .st A=>A.holds F w
def free (Γ:List Fact) (k:Nat):Prop:=∀ f∈Γ,¬ f.owns k
def fp (w0:World) (F:Nat→Prop) (Γ:List Fact) (k:Nat):Prop:=(F k∨w0.heap.size≤k)∧free Γ k
structure Hold [Dr] (w0:World) (F:Nat→Prop) (Γ:List Fact) (w:World):Prop where
 below:Bel w0.heap.size w0 w
 sat:∀ f∈Γ,f.sat (fp w0 F Γ) w
 dis:Γ.Pairwise (fun f g=>∀ k,¬ (f.owns k∧g.owns k))
 new:∀ f∈Γ,∀ k,f.owns k→w0.heap.size≤k
theorem Fact.owned_lt {f:Fact} {F:Nat→Prop} {w:World} (h:f.sat F w) {k:Nat} (hk:f.owns k):k < w.heap.size:=by
 cases f with
 | own b t vs =>
  simp only [Fact.owns] at hk; subst hk
  exact (Array.getElem?_eq_some_iff.1 (show w.heap[k]? = _ from h)).1
 | omap b es c =>
  simp only [Fact.owns] at hk; subst hk
  exact (Array.getElem?_eq_some_iff.1 (show w.heap[k]? = _ from h)).1
 | obj b o =>
  simp only [Fact.owns] at hk; subst hk
  exact (Array.getElem?_eq_some_iff.1 (show w.heap[k]? = _ from h)).1
 | res R=>exact R.lt F w h k hk
 | st A=>exact hk.elim
theorem Fact.sat_keep {f:Fact} {F G:Nat→Prop} {w w':World} (h:f.sat F w) (hF:∀ k,F k→k < w.heap.size→G k)
  (hk:∀ k,k < w.heap.size→(F k∨f.owns k)→w'.heap[k]? = w.heap[k]?):f.sat G w':=by
 cases f with
 | own b t vs =>
  have:=Fact.owned_lt (f:=.own b t vs) h (k:=b) rfl
  exact (hk b this (.inr rfl)).trans h
 | omap b es c =>
  have:=Fact.owned_lt (f:=.omap b es c) h (k:=b) rfl
  exact (hk b this (.inr rfl)).trans h
 | obj b o =>
  have:=Fact.owned_lt (f:=.obj b o) h (k:=b) rfl
  exact (hk b this (.inr rfl)).trans h
 | res R=>exact R.keep F G w w' h hF hk
 | st A =>
  have h1:=A.within _ _ h
  have h2:=A.frame _ _ w' (fun k hk'=>hk k hk'.2 (.inl hk'.1)) h1
  exact A.mono _ _ _ (fun k hk'=>hF k hk'.1 hk'.2) h2
theorem Hold.of_below [Dr] {w0 w w':World} {F:Nat→Prop} {Γ:List Fact} (h:Hold w0 F Γ w) (hb:Bel w.heap.size w w'):Hold w0 F Γ w' :=
 ⟨h.below.trans (hb.mono h.below.size),fun f hf=>Fact.sat_keep (h.sat f hf) (fun _ hk _=>hk) (fun k hk _=>hb.block k hk),h.dis,h.new⟩
theorem Hold.drew [Dr] {w0 w:World} {F:Nat→Prop} {Γ:List Fact} (h:Hold w0 F Γ w):Hold w0 F Γ w.drew:=h.of_below (Bel.refl _ _).drew
theorem Hold.start [Dr]:Hold w F [] w:=⟨Bel.refl _ _,by simp,by simp,by simp⟩
theorem Hold.add [Dr] {w0 w:World} {F:Nat→Prop} {Γ:List Fact} (h:Hold w0 F Γ w) {A:Asn} (hA:A.holds (fp w0 F Γ) w):Hold w0 F (.st A::Γ) w:=by
 have hfree:∀ k,fp w0 F Γ k→fp w0 F (.st A::Γ) k:=fun k hk=>⟨hk.1,fun f hf=>by
  rcases List.mem_cons.1 hf with rfl | hf
  ·exact fun h=>h
  ·exact hk.2 f hf⟩
 refine ⟨h.below,fun f hf=>?_,?_,?_⟩
 ·rcases List.mem_cons.1 hf with rfl | hf
  ·exact A.mono _ _ _ (fun k hk=>hfree k hk) hA
  ·exact Fact.sat_keep (h.sat f hf) (fun k hk _=>hfree k hk) (fun _ _ _=>rfl)
 ·exact List.pairwise_cons.2 ⟨fun _ _ _ hk=>hk.1,h.dis⟩
 ·intro f hf k hk
  rcases List.mem_cons.1 hf with rfl | hf
  ·exact hk.elim
  ·exact h.new f hf k hk
structure Fresh (n:Nat) (F:Nat→Prop) (B:List Fact) (w:World):Prop where
 sat:∀ f∈B,f.sat (fun k=>(F k∨n≤k)∧free B k) w
 dis:B.Pairwise (fun f g=>∀ k,¬ (f.owns k∧g.owns k))
 new:∀ f∈B,∀ k,f.owns k→n≤k
theorem Hold.fresh [Dr] {w0 w:World} {F:Nat→Prop} {Γ:List Fact} (h:Hold w0 F Γ w):Fresh w0.heap.size F Γ w:=⟨h.sat,h.dis,h.new⟩
theorem Xcn {Γ Δ:List Fact} {k:Nat}:free (Γ++Δ) k↔free Γ k∧free Δ k:=by
 simp only [free,List.mem_append]
 exact ⟨fun h=>⟨fun f hf=>h f (.inl hf),fun f hf=>h f (.inr hf)⟩,fun h f hf=>hf.elim (h.1 f) (h.2 f)⟩
theorem Hold.call [Dr] {w0 w w':World} {F:Nat→Prop} {Γ B:List Fact} (h:Hold w0 F Γ w) (hb:Bel w.heap.size w w') (hB:Fresh w.heap.size (fp w0 F Γ) B w'):Hold w0 F (B++Γ) w':=by
 have h':=h.of_below hb
 have hsz:=h.below.size
 have hown:∀ f∈Γ,∀ k,f.owns k→k < w.heap.size:=fun f hf k hk=>Fact.owned_lt (h.sat f hf) hk
 refine ⟨h'.below,fun f hf=>?_,?_,fun f hf k hk=>?_⟩
 ·rcases List.mem_append.1 hf with hf | hf
  ·refine Fact.sat_keep (hB.sat f hf) (fun k hk _=>?_) (fun _ _ _=>rfl)
   obtain ⟨h1 | h1,h2⟩:=hk
   ·exact ⟨h1.1,Xcn.2 ⟨h2,h1.2⟩⟩
   ·exact ⟨.inr (by omega),Xcn.2 ⟨h2,fun g hg hk=>by have:=hown g hg k hk; omega⟩⟩
  ·refine Fact.sat_keep (h.sat f hf) (fun k hk hlt=>?_) (fun k hk _=>hb.block k hk)
   exact ⟨hk.1,Xcn.2 ⟨fun g hg hk=>by have:=hB.new g hg k hk; omega,hk.2⟩⟩
 ·refine List.pairwise_append.2 ⟨hB.dis,h.dis,fun f hf g hg k hk=>?_⟩
  have:=hB.new f hf k hk.1
  have:=hown g hg k hk.2
  omega
 ·rcases List.mem_append.1 hf with hf | hf
  ·have:=hB.new f hf k hk; omega
  ·exact h.new f hf k hk
theorem Hold.push [Dr] {w0 w:World} {F:Nat→Prop} {Γ:List Fact} (h:Hold w0 F Γ w) {f:Fact} {o:Obj} (ho:∀ k,f.owns k↔k=w.heap.size) (hs:∀ F w',w'.heap[w.heap.size]? = some o→f.sat F w') :
  Hold w0 F (f::Γ) (w.alloc o):=by
 refine h.call (B:=[f]) ((Bel.refl _ _).alloc (Nat.le_refl _) o) ⟨fun g hg=>?_,by simp,fun g hg k hk=>?_⟩
 ·simp only [List.mem_singleton] at hg; subst hg
  exact hs _ _ (by show (w.heap.push o)[w.heap.size]? = some o; simp)
 ·simp only [List.mem_singleton] at hg; subst hg
  have:=(ho k).1 hk; omega
theorem Hold.alloc [Dr] {w0 w:World} {F:Nat→Prop} {Γ:List Fact} (h:Hold w0 F Γ w) (t:TypeId) (vs:List Value) :
  Hold w0 F (.own w.heap.size t vs::Γ) (w.alloc (.cells vs.toArray t (0,0))) :=
 h.push (fun _=>Iff.rfl) (fun _ _ h=>h)
theorem Hold.perm [Dr] {w0 w:World} {F:Nat→Prop} {Γ Δ:List Fact} (h:Hold w0 F Γ w) (hp:Γ.Perm Δ):Hold w0 F Δ w:=by
 have hfree:∀ k,fp w0 F Γ k→fp w0 F Δ k:=fun k hk=>⟨hk.1,fun f hf=>hk.2 f (hp.mem_iff.2 hf)⟩
 refine ⟨h.below,fun f hf=>Fact.sat_keep (h.sat f (hp.mem_iff.2 hf)) (fun k hk _=>hfree k hk) (fun _ _ _=>rfl),?_,fun f hf=>h.new f (hp.mem_iff.2 hf)⟩
 exact hp.pairwise h.dis (fun {f g} hfg k hk=>hfg k ⟨hk.2,hk.1⟩)
theorem Hold.left [Dr] {w0 w:World} {F:Nat→Prop} {Γ Δ:List Fact} (h:Hold w0 F (Γ++Δ) w):Hold w0 F Γ w:=by
 refine ⟨h.below,fun f hf=>Fact.sat_keep (h.sat f (List.mem_append_left _ hf)) (fun k hk _=>⟨hk.1,fun g hg=>hk.2 g (List.mem_append_left _ hg)⟩) (fun _ _ _=>rfl),?_,fun f hf=>h.new f (List.mem_append_left _ hf)⟩
 exact (List.pairwise_append.1 h.dis).1
theorem Hold.tail [Dr] {w0 w:World} {F:Nat→Prop} {f:Fact} {Γ:List Fact} (h:Hold w0 F (f::Γ) w):Hold w0 F Γ w :=
 (h.perm (List.perm_append_comm (l₁:=[f]) (l₂:=Γ))).left
theorem Hold.swap [Dr] {w0 w w':World} {F:Nat→Prop} {f g:Fact} {Γ:List Fact} (h:Hold w0 F (f::Γ) w) {b:Nat} (hf:∀ k,f.owns k↔k=b) (hg:∀ k,g.owns k↔k=b)
  (hos:w'.os=w.os) (htape:w'.tape=w.tape) (hout:w'.output=w.output) (hsize:w'.heap.size=w.heap.size)
  (hblock:∀ k,k≠b→w'.heap[k]? = w.heap[k]?) (hs:g.sat (fp w0 F (g::Γ)) w') (hdr:w.drawn≤w'.drawn:=by first | exact Nat.le_refl _ | exact Nat.le_succ _):Hold w0 F (g::Γ) w':=by
 have hb:w0.heap.size≤b:=h.new f (by simp) b ((hf b).2 rfl)
 have hfree:∀ k,fp w0 F (f::Γ) k→fp w0 F (g::Γ) k:=by
  refine fun k hk=>⟨hk.1,fun f' hf' hown=>?_⟩
  rcases List.mem_cons.1 hf' with rfl | hf'
  ·exact hk.2 f (by simp) ((hf k).2 ((hg k).1 hown))
  ·exact hk.2 f' (by simp [hf']) hown
 have hp:=List.pairwise_cons.1 h.dis
 refine ⟨h.below.trans ⟨hos,htape,hout,by omega,fun k hk=>hblock k (by omega),fun _=>hdr⟩,fun f' hf'=>?_,?_,?_⟩
 ·rcases List.mem_cons.1 hf' with rfl | hf'
  ·exact hs
  ·refine Fact.sat_keep (h.sat f' (by simp [hf'])) (fun k hk _=>hfree k hk) (fun k _ hk=>hblock k (fun e=>?_))
   subst e
   rcases hk with hk | hk
   ·exact hk.2 f (by simp) ((hf k).2 rfl)
   ·exact hp.1 f' hf' k ⟨(hf k).2 rfl,hk⟩
 ·exact List.pairwise_cons.2 ⟨fun f' hf' k hk=>hp.1 f' hf' k ⟨(hf k).2 ((hg k).1 hk.1),hk.2⟩,hp.2⟩
 ·intro f' hf' k hk
  rcases List.mem_cons.1 hf' with rfl | hf'
  ·have:=(hg k).1 hk; omega
  ·exact h.new f' (by simp [hf']) k hk
theorem Hold.publish [Dr] {w0 w:World} {F:Nat→Prop} {f:Fact} {Γ:List Fact} (h:Hold w0 F (f::Γ) w) {A:Asn}
  (hA:(∀ k,fp w0 F (f::Γ) k∨f.owns k→fp w0 F Γ k)→A.holds (fp w0 F Γ) w):Hold w0 F (.st A::Γ) w:=by
 refine h.tail.add (hA fun k hk=>?_)
 rcases hk with hk | hk
 ·exact ⟨hk.1,fun g hg=>hk.2 g (by simp [hg])⟩
 ·exact ⟨.inr (h.new f (by simp) k hk),fun g hg hgk=>(List.pairwise_cons.1 h.dis).1 g hg k ⟨hk,hgk⟩⟩
class Rem (Γ:List Fact) (f:Fact) (Δ:outParam (List Fact)):Prop where
 ok:Γ.Perm (f::Δ)
instance (priority:=100) Rem.miss {Γ:List Fact} {f g:Fact} {Δ:List Fact} [h:Rem Γ f Δ]:Rem (g::Γ) f (g::Δ) :=
 ⟨(h.ok.cons g).trans (List.Perm.swap f g Δ)⟩
instance (priority:=1000) Rem.hit {Γ:List Fact} {f:Fact}:Rem (f::Γ) f Γ:=⟨List.Perm.refl _⟩
class Own (Γ:List Fact) (b:Nat) (t:outParam TypeId) (vs:outParam (List Value)) (Δ:outParam (List Fact)):Prop where
 ok:Γ.Perm (.own b t vs::Δ)
instance (priority:=100) Own.miss {Γ:List Fact} {g:Fact} {b:Nat} {t:TypeId} {vs:List Value} {Δ:List Fact} [h:Own Γ b t vs Δ]:Own (g::Γ) b t vs (g::Δ) :=
 ⟨(h.ok.cons g).trans (List.Perm.swap _ g Δ)⟩
instance (priority:=1000) Own.hit {Γ:List Fact} {b:Nat} {t:TypeId} {vs:List Value}:Own (.own b t vs::Γ) b t vs Γ:=⟨List.Perm.refl _⟩
class Sub (Γ Δ:List Fact):Prop where
 ok:∃ R,Γ.Perm (Δ++R)
instance Sub.nil {Γ:List Fact}:Sub Γ []:=⟨Γ,List.Perm.refl _⟩
instance Sub.cons {Γ Δ Γ':List Fact} {f:Fact} [h:Rem Γ f Γ'] [k:Sub Γ' Δ]:Sub Γ (f::Δ) :=
 ⟨let ⟨R,hR⟩:=k.ok; ⟨R,h.ok.trans (hR.cons f)⟩⟩
theorem Hold.sub [Dr] {w0 w:World} {F:Nat→Prop} {Γ Δ:List Fact} (h:Hold w0 F Γ w) (s:Sub Γ Δ):Hold w0 F Δ w :=
 let ⟨_,hR⟩:=s.ok; (h.perm hR).left
section
variable (P:Program) (n:Nn) (w0:World) (F:Nat→Prop) [Dr]
abbrev Cont:=Exit→E→List Fact→Prop
def up (Q:Cont):Exit→Act→World→Prop:=fun x a w=>∃ e Γ,Q x e Γ∧Fr n e a∧Hold w0 F Γ w
def JC (c:Code) (Q:Cont) (e:E) (Γ:List Fact):Prop :=
 ∀ a w,Fr n e a→Hold w0 F Γ w→c.wp P (up n w0 F Q) a w
def JO (ops:Array Oper) (i:Nat) (os:List Oper) (Q:Cont) (e:E) (Γ:List Fact):Prop :=
 ops.toList.drop i=os→∀ a w,Fr n e a→Hold w0 F Γ w→wpOps P ops (up n w0 F Q) (List.range' i os.length) a w
def JR (ops:Array Oper) (i:Nat) (o:Oper) (os:List Oper) (Q:Cont) (e:E) (Γ:List Fact):Prop :=
 ops.toList.drop i=o::os→∀ a w,Fr n e a→Hold w0 F Γ w→o.wp P a w (wpOps P ops (up n w0 F Q) (List.range' (i+1) os.length)) (up n w0 F Q)
end
section
variable {P:Program} {n:Nn} {w0:World} {F:Nat→Prop} [Dr]
theorem Wl {Q:Cont} {e:E} {Γ:List Fact} (h:Q .normal e Γ):JC P n w0 F .skip Q e Γ :=
 fun _ _ fr ho=>wp_skip ⟨e,Γ,h,fr,ho⟩
theorem Wm {l:Nat} {Q:Cont} {e:E} {Γ:List Fact} (h:Q (.exit l) e Γ):JC P n w0 F (.exit l) Q e Γ :=
 fun _ _ fr ho=>wp_exit ⟨e,Γ,h,fr,ho⟩
theorem Ws {Q:Cont} {e:E} {Γ:List Fact} (h:Q .ret e Γ):JC P n w0 F .ret Q e Γ :=
 fun _ _ fr ho=>wp_ret ⟨e,Γ,h,fr,ho⟩
def andThen (next:E→List Fact→Prop) (Q:Cont):Cont
 | .normal,e,Γ=>next e Γ
 | x,e,Γ=>Q x e Γ
theorem Wb {x y:Code} {Q:Cont} {e:E} {Γ:List Fact} (h:JC P n w0 F x (andThen (JC P n w0 F y Q) Q) e Γ):JC P n w0 F (.seq x y) Q e Γ:=by
 intro a w fr ho
 refine wp_seq (wp_mono (h a w fr ho) ?_)
 rintro x a w ⟨e,Γ,hq,fr,ho⟩
 cases x <;> first | exact hq a w fr ho | exact ⟨e,Γ,hq,fr,ho⟩
def inBlock (id:Nat) (Q:Cont):Cont
 | .exit id',e,Γ=>if id'=id then Q .normal e Γ else Q (.exit id') e Γ
 | x,e,Γ=>Q x e Γ
theorem Wn {id:Nat} {c:Code} {Q:Cont} {e:E} {Γ:List Fact} (h:JC P n w0 F c (inBlock id Q) e Γ):JC P n w0 F (.block id c) Q e Γ:=by
 intro a w fr ho
 refine wp_block (wp_mono (h a w fr ho) ?_)
 rintro x a w ⟨e,Γ,hq,fr,ho⟩
 cases x with
 | exit id' =>
  simp only [inBlock,Exit.inBlock] at *
  split
  ·rename_i he; rw [if_pos he] at hq; exact ⟨e,Γ,hq,fr,ho⟩
  ·rename_i he; rw [if_neg he] at hq; exact ⟨e,Γ,hq,fr,ho⟩
 | _=>exact ⟨e,Γ,hq,fr,ho⟩
theorem JC.weaken {c:Code} {Q:Cont} {e e':E} {Γ Γ':List Fact} (h:JC P n w0 F c Q e' Γ') (he:∀ a,Fr n e a→Fr n e' a) (hΓ:∀ w,Hold w0 F Γ w→Hold w0 F Γ' w):JC P n w0 F c Q e Γ :=
 fun a w fr ho=>h a w (he a fr) (hΓ w ho)
theorem JC.mono {c:Code} {Q Q':Cont} {e:E} {Γ:List Fact} (h:JC P n w0 F c Q e Γ) (hq:∀ x e Γ,Q x e Γ→Q' x e Γ):JC P n w0 F c Q' e Γ :=
 fun a w fr ho=>wp_mono (h a w fr ho) fun _ _ _ ⟨e,Γ,q,r⟩=>⟨e,Γ,hq _ _ _ q,r⟩
theorem JC.cond {c:Operand} {x y:Code} {Q:Cont} {e:E} {Γ:List Fact} {t:Bool} [hc:Ev e c (.bool t)] (ht:t=true→JC P n w0 F x Q e Γ) (hf:t=false→JC P n w0 F y Q e Γ) :
  JC P n w0 F (.cond c x y) Q e Γ :=
 fun a w fr ho=>wp_cond_split (hc.ok n a fr) (fun h=>ht h a w fr ho) (fun h=>hf h a w fr ho)
theorem Wj {c:Operand} {x y:Code} {Q:Cont} {e:E} {Γ:List Fact} [hc:Ev e c (.bool true)] (h:JC P n w0 F x Q e Γ):JC P n w0 F (.cond c x y) Q e Γ :=
 fun a w fr ho=>wp_cond_true (hc.ok n a fr) (h a w fr ho)
theorem Wk {c:Operand} {x y:Code} {Q:Cont} {e:E} {Γ:List Fact} [hc:Ev e c (.bool false)] (h:JC P n w0 F y Q e Γ):JC P n w0 F (.cond c x y) Q e Γ :=
 fun a w fr ho=>wp_cond_false (hc.ok n a fr) (h a w fr ho)
end
section
variable {P:Program} {n:Nn} {w0:World} {F:Nat→Prop}
theorem X0j (p:Nat→Prop) (h:∃ m,p m):∃ m,p m∧∀ k,p k→m≤k:=by
 obtain ⟨m,hm⟩:=h
 induction m using Nat.strongRecOn with
 | _ m ih =>
  by_cases h:∃ k,k < m∧p k
  ·obtain ⟨k,hk,hp⟩:=h; exact ih k hk hp
  ·exact ⟨m,hm,fun k hk=>Nat.le_of_not_lt fun hlt=>h ⟨k,hlt,hk⟩⟩
end
section
variable {P:Program} {n:Nn} {w0:World} {F:Nat→Prop} [Dr]
theorem JC.loop {c:Code} {Q:Cont} {e:E} {Γ:List Fact} {ι:Type} (St:ι→E) (Mem:ι→List Fact) (μ:ι→Nat) (i₀:ι)
  (he:∀ a,Fr n e a→Fr n (St i₀) a) (hΓ:∀ w,Hold w0 F Γ w→Hold w0 F (Mem i₀) w)
  (round:∀ i,JC P n w0 F c (andThen (fun e' Γ'=>∃ j,μ j < μ i∧(∀ a,Fr n e' a→Fr n (St j) a)∧(∀ w,Hold w0 F Γ' w→Hold w0 F (Mem j) w)) Q) (St i) (Mem i)) :
  JC P n w0 F (.loop c) Q e Γ:=by
 classical
 intro a w fr ho
 let R:Nat→Act→World→Prop:=fun m a w=>∃ i,μ i=m∧Fr n (St i) a∧Hold w0 F (Mem i) w
 let μ':Act→World→Nat:=fun a w=>if h:∃ m,R m a w then Classical.choose (X0j _ h) else 0
 have hμ':∀ a w (h:∃ m,R m a w),R (μ' a w) a w∧∀ k,R k a w→μ' a w≤k:=by
  intro a w h
  have:μ' a w=Classical.choose (X0j _ h):=dif_pos h
  rw [this]; exact Classical.choose_spec (X0j _ h)
 refine wp_loop (fun a w=>∃ m,R m a w) μ' ⟨μ i₀,i₀,rfl,he a fr,hΓ w ho⟩ ?_
 intro a w hI
 obtain ⟨⟨i,hi,fr,ho⟩,_⟩:=hμ' a w hI
 refine wp_mono (round i a w fr ho) ?_
 rintro x a' w' ⟨e',Γ',hq,fr',ho'⟩
 cases x with
 | normal =>
  obtain ⟨j,hj,he',hΓ'⟩:=hq
  have hR:R (μ j) a' w':=⟨j,rfl,he' a' fr',hΓ' w' ho'⟩
  refine ⟨⟨_,hR⟩,?_⟩
  have:=(hμ' a' w' ⟨_,hR⟩).2 _ hR
  omega
 | _=>exact ⟨e',Γ',hq,fr',ho'⟩
theorem Wc {id:Nat} {os:List Oper} {Q:Cont} {e:E} {Γ:List Fact} (h:JO P n w0 F ⟨os⟩ 0 os Q e Γ):JC P n w0 F (.region id ⟨os⟩ false) Q e Γ:=by
 intro a w fr ho b k cs
 obtain ⟨x,a',w',hq,harr⟩:=wp_ops _ a w (h rfl a w fr ho) b k cs
 refine ⟨x,a',w',hq, .of_steps (.one step_region) ?_⟩
 have:List.range (Array.size ⟨os⟩:Nat)=List.range' 0 os.length:=by simp [List.range_eq_range']
 rw [this]; exact harr
theorem Wd {ops:Array Oper} {i:Nat} {Q:Cont} {e:E} {Γ:List Fact} (h:Q .normal e Γ):JO P n w0 F ops i [] Q e Γ :=
 fun _ a w fr ho=>by show wpOps P ops (up n w0 F Q) [] a w; unfold wpOps; exact ⟨e,Γ,h,fr,ho⟩
def Xbj (ops:List Oper) (e:E):Option (Nat × Bool)→Option Bool
 | none=>some true
 | some (j,want) =>
  match ops[j]? with
  | some o=>match o.dst with
   | some d=>match look e d with
    | some (.bool b)=>some (b == want)
    | _=>none
   | none=>none
  | none=>none
end
section
variable {P:Program} {n:Nn} {w0:World} {F:Nat→Prop}
theorem Xa9 {ops:List Oper} {e:E} {o:Oper} {t:Bool} {a:Act} (h:Xbj ops e o.guard=some t) (fr:Fr n e a):Region.wanted o (yielded ⟨ops⟩ a.tmps)=t:=by
 unfold Xbj at h
 unfold Region.wanted
 split at h
 ·rename_i hg; rw [hg]; simpa using h
 ·rename_i j want hg
  rw [hg]
  split at h
  ·rename_i o' ho'
   split at h
   ·rename_i d hd
    split at h
    ·rename_i b hb
     have:=fr.slot _ _ hb
     simp only [Option.some.injEq] at h
     subst h
     simp only [yielded]
     have e1:((⟨ops⟩:Array Oper)[j]?)=some o':=by simpa using ho'
     rw [e1]
     simp [hd,this]
    ·cases h
   ·cases h
  ·cases h
theorem Xdm {ops:Array Oper} {i:Nat} {o:Oper} {os:List Oper} (h:ops.toList.drop i=o::os):ops[i]? = some o∧ops.toList.drop (i+1)=os:=by
 constructor
 ·have:ops.toList[i]? = some o:=by
   have:=List.getElem?_drop (xs:=ops.toList) (i:=i) (j:=0)
   rw [h] at this; simpa using this.symm
  simpa using this
 ·rw [← List.drop_drop,h]; rfl
theorem We [Dr] {ops:List Oper} {i:Nat} {o:Oper} {os:List Oper} {Q:Cont} {e:E} {Γ:List Fact} (hg:Xbj ops e o.guard=some true) (h:JR P n w0 F ⟨ops⟩ i o os Q e Γ) :
  JO P n w0 F ⟨ops⟩ i (o::os) Q e Γ:=by
 intro hd a w fr ho
 obtain ⟨h1,h2⟩:=Xdm hd
 simp only [List.length_cons,List.range'_succ,wpOps]
 rw [h1]
 simp only [Xa9 hg fr,if_true]
 exact .inl (h hd a w fr ho)
theorem Wv [Dr] {ops:List Oper} {i d:Nat} {op:Op} {t:TypeId} {pos:String} {aft:Array Edge} {g:Option (Nat × Bool)} {os:List Oper} {Q:Cont} {e:E} {Γ:List Fact} (hg:Xbj ops e g=some false) (hd:Nat.blt d n.s=true)
  (h:JO P n w0 F ⟨ops⟩ (i+1) os Q ((d,undef)::e) Γ):JO P n w0 F ⟨ops⟩ i (⟨some d,op,t,pos,aft,g⟩::os) Q e Γ:=by
 intro hdr a w fr ho
 obtain ⟨h1,h2⟩:=Xdm hdr
 simp only [List.length_cons,List.range'_succ,wpOps]
 rw [h1]
 simp only [Xa9 (o:=⟨some d,op,t,pos,aft,g⟩) hg fr,Bool.false_eq_true,if_false]
 exact h h2 _ w (fr.put hd _) ho
theorem Xx1 [Dr] {ops:List Oper} {i s:Nat} {os:List Oper} {Q:Cont} {e:E} {Γ:List Fact} {t:Bool} (hc:look e s=some (.bool t))
  (ht:t=true→JO P n w0 F ⟨ops⟩ i os Q ((s, .bool true)::e) Γ) (hf:t=false→JO P n w0 F ⟨ops⟩ i os Q ((s, .bool false)::e) Γ):JO P n w0 F ⟨ops⟩ i os Q e Γ:=by
 intro hd a w fr ho
 have key:Fr n ((s, .bool t)::e) a:=fr.again hc
 cases t with
 | true=>exact ht rfl hd a w key ho
 | false=>exact hf rfl hd a w key ho
theorem JR.value [Dr] {ops:Array Oper} {i d:Nat} {op:Op} {t:TypeId} {pos:String} {aft:Array Edge} {g:Option (Nat × Bool)} {os:List Oper} {Q:Cont} {e:E} {Γ:List Fact}
  (hd:Nat.blt d n.s=true)
  (h:∀ a w,Fr n e a→Hold w0 F Γ w→∃ v w' Γ',(execOp a.eval ⟨some d,op,t,pos,aft,g⟩).run P w = .ok (.value v) w'∧Hold w0 F Γ' w'∧JO P n w0 F ops (i+1) os Q ((d,v)::e) Γ') :
  JR P n w0 F ops i ⟨some d,op,t,pos,aft,g⟩ os Q e Γ:=by
 intro hdr a w fr ho
 obtain ⟨v,w',Γ',hr,ho',h⟩:=h a w fr ho
 unfold Oper.wp
 rw [hr]
 exact h (Xdm hdr).2 _ w' (fr.put hd v) ho'
theorem Xdi [Dr] {ops:Array Oper} {i:Nat} {op:Op} {t:TypeId} {pos:String} {aft:Array Edge} {g:Option (Nat × Bool)} {os:List Oper} {Q:Cont} {e:E} {Γ:List Fact}
  (h:∀ a w,Fr n e a→Hold w0 F Γ w→∃ x w' Γ',(x = .skip∨∃ v,x = .value v)∧(execOp a.eval ⟨none,op,t,pos,aft,g⟩).run P w = .ok x w'∧Hold w0 F Γ' w'∧JO P n w0 F ops (i+1) os Q e Γ') :
  JR P n w0 F ops i ⟨none,op,t,pos,aft,g⟩ os Q e Γ:=by
 intro hdr a w fr ho
 obtain ⟨x,w',Γ',hx,hr,ho',h⟩:=h a w fr ho
 unfold Oper.wp
 rw [hr]
 rcases hx with rfl | ⟨v,rfl⟩ <;> exact h (Xdm hdr).2 _ w' fr ho'
end
class Ty (P:Program) (t:TypeId) (d:outParam TypeDesc) (sz bytes:outParam Nat) (z:outParam Value):Prop where
 und:P.underlying t=some d
 info:(P.info? t).map (fun i=>(i.size,i.bytes,i.zero))=some (sz,bytes,some z)
theorem tY {P:Program} {t:TypeId} {d:TypeDesc} {s b:Nat} {z:Value} (h:P.underlying t=some d) (i:(P.info? t).map (fun i=>(i.size,i.bytes,i.zero))=some (s,b,some z):=by kernel_rfl):Ty P t d s b z:=⟨h,i⟩
section
variable {P:Program} {t:TypeId} {d:TypeDesc} {sz bytes:Nat} {z:Value}
theorem Ty.some [h:Ty P t d sz bytes z]:∃ i,P.info? t=some i∧i.size=sz∧i.bytes=bytes∧i.zero=some z:=by
 have:=h.info
 cases hi:P.info? t with
 | none=>simp [hi] at this
 | some i=>exact ⟨i,rfl,by simpa [hi] using this⟩
theorem Xaz [h:Ty P t d sz bytes z] (w:World):(underlying t).run P w = .ok d w:=run_underlying h.und w
theorem Xbg [h:Ty P t d sz bytes z] (w:World):(sizeOf t).run P w = .ok sz w:=by
 obtain ⟨i,hi,h1,_⟩:=h.some
 simp [sizeOf,typeInfo,hi,h1]
theorem Xf5 [h:Ty P t d sz bytes z] (w:World):(zeroValue t).run P w = .ok z w:=by
 obtain ⟨i,hi,_,_,h1⟩:=h.some
 simp [zeroValue,typeInfo,hi,h1]
theorem Xre [h:Ty P t d sz bytes z]:(P.info? t).map (·.size)=some sz:=by
 obtain ⟨i,hi,h1,_⟩:=h.some
 simp [hi,h1]
end
class Fld (P:Program) (t:TypeId) (f:Nat) (off:outParam Nat):Prop where
 ok:∀ b o w,(Instr.fieldAt t (.pointer (some ⟨b,o,none⟩)) f).run P w = .ok (.pointer (some ⟨b,o+off,none⟩)) w
theorem Fld.mk' {P:Program} {t:TypeId} {f off:Nat} {fs:Array Field} {sz by_:Nat} {z:Value} {ft:TypeId} {fd:TypeDesc} {fsz fby:Nat} {fz:Value} [h:Ty P t (.struct fs) sz by_ z]
  (hf:(fs[f]?).map (fun x=>(x.offset,x.type))=some (off,ft)) [k:Ty P ft fd fsz fby fz] (h0:(fsz == 0)=false):Fld P t f off:=by
 refine ⟨fun b o w=>?_⟩
 cases hx:fs[f]? with
 | none=>simp [hx] at hf
 | some x =>
  obtain ⟨h1,h2⟩:x.offset=off∧x.type=ft:=by simpa [hx] using hf
  have h3:=Xaz (P:=P) (t:=t) w
  have h4:(sizeOf x.type).run P w = .ok fsz w:=by rw [h2]; exact Xbg w
  have h5:¬ fsz=0:=by simpa using h0
  simp only [Instr.fieldAt,Sem.run_bind,h3,Result.andThen_ok,hx,Instr.sureAddr,Sem.run_pure,fieldPlace,h4,h5,if_false,h1,Addr.add_mid]
class Len (vs:List Value) (n:outParam Nat):Prop where
 ok:vs.length=n
instance:Len [] 0:=⟨rfl⟩
instance {v:Value} {vs:List Value} {n:Nat} [h:Len vs n]:Len (v::vs) (n+1):=⟨by simp [h.ok]⟩
class Drp (vs:List Value) (o:Nat) (r:outParam (List Value)):Prop where
 ok:vs.drop o=r
instance (priority:=100) {v:Value} {vs r:List Value} {o:Nat} [h:Drp vs o r]:Drp (v::vs) (o+1) r:=⟨by simpa using h.ok⟩
instance (priority:=1000) {vs:List Value}:Drp vs 0 vs:=⟨rfl⟩
class Tak (vs:List Value) (n:Nat) (r:outParam (List Value)):Prop where
 ok:vs.take n=r∧r.length=n
instance (priority:=100) {v:Value} {vs r:List Value} {n:Nat} [h:Tak vs n r]:Tak (v::vs) (n+1) (v::r):=⟨by simp [h.ok.1,h.ok.2]⟩
instance (priority:=1000) {vs:List Value}:Tak vs 0 []:=⟨by simp⟩
class Seg (vs:List Value) (o n:Nat) (r:outParam (List Value)):Prop where
 ok:(vs.drop o).take n=r∧r.length=n
instance (priority:=100) {vs u r:List Value} {o n:Nat} [h:Drp vs o u] [k:Tak u n r]:Seg vs o n r:=⟨by rw [h.ok]; exact k.ok⟩
instance (priority:=1000) {vs:List Value} {n:Nat} [h:Len vs n]:Seg vs 0 n vs:=⟨by simp [← h.ok]⟩
class Lay (vs:List Value) (o:Nat) (cs:List Value) (r:outParam (List Value)):Prop where
 ok:o+cs.length≤vs.length∧vs.take o++cs++vs.drop (o+cs.length)=r
instance (priority:=50) {v:Value} {vs cs r:List Value} {o:Nat} [h:Lay vs o cs r]:Lay (v::vs) (o+1) cs (v::r) :=
 ⟨by have:=h.ok.1; simp; omega,by have:=h.ok.2; rw [show o+1+cs.length=(o+cs.length)+1 by omega]; simpa using this⟩
instance (priority:=100) {v c:Value} {vs cs r:List Value} [h:Lay vs 0 cs r]:Lay (v::vs) 0 (c::cs) (c::r) :=
 ⟨by have:=h.ok.1; simp at *; omega,by have:=h.ok.2; simpa using this⟩
instance (priority:=100) {vs:List Value}:Lay vs 0 [] vs:=⟨by simp,by simp⟩
instance (priority:=1000) {vs cs:List Value} {n m:Nat} [h:Len vs n] [k:Len cs m] [e:EvB (Nat.beq n m) true]:Lay vs 0 cs cs :=
 ⟨by have:=Nat.eq_of_beq_eq_true e.ok; rw [h.ok,k.ok]; omega,by have:=Nat.eq_of_beq_eq_true e.ok; rw [k.ok,← this,← h.ok]; simp⟩
class Cel (v:Value) (cs:outParam (List Value)):Prop where
 ok:v.cells.toList=cs
instance {cs:List Value}:Cel (.agg ⟨cs⟩) cs:=⟨rfl⟩
instance {b:Bool}:Cel (.bool b) [.bool b]:=⟨rfl⟩
instance {k:IntKind} {n:Int}:Cel (.int k n) [.int k n]:=⟨rfl⟩
instance {s:ByteArray}:Cel (.string s) [.string s]:=⟨rfl⟩
instance {a:Option Addr}:Cel (.pointer a) [.pointer a]:=⟨rfl⟩
instance {a:Option Addr} {n c:Nat}:Cel (.slice a n c) [.slice a n c]:=⟨rfl⟩
instance {r:Option Nat}:Cel (.map r) [.map r]:=⟨rfl⟩
instance {f:Fn} {x y:Array Value}:Cel (.func f x y) [.func f x y]:=⟨rfl⟩
instance:Cel .nilFunc [.nilFunc]:=⟨rfl⟩
instance:Cel .nilIface [.nilIface]:=⟨rfl⟩
instance {t:TypeId} {v:Value}:Cel (.iface t v) [.iface t v]:=⟨rfl⟩
class One (cs:List Value):Prop where
 ok:∀ v∈cs,v.oneCell'=true
instance:One []:=⟨by simp⟩
instance {b:Bool} {cs:List Value} [h:One cs]:One (.bool b::cs):=⟨by simp [Value.oneCell']; exact h.ok⟩
instance {k:IntKind} {n:Int} {cs:List Value} [h:One cs]:One (.int k n::cs):=⟨by simp [Value.oneCell']; exact h.ok⟩
instance {s:ByteArray} {cs:List Value} [h:One cs]:One (.string s::cs):=⟨by simp [Value.oneCell']; exact h.ok⟩
instance {a:Option Addr} {cs:List Value} [h:One cs]:One (.pointer a::cs):=⟨by simp [Value.oneCell']; exact h.ok⟩
instance {a:Option Addr} {n c:Nat} {cs:List Value} [h:One cs]:One (.slice a n c::cs):=⟨by simp [Value.oneCell']; exact h.ok⟩
instance {r:Option Nat} {cs:List Value} [h:One cs]:One (.map r::cs):=⟨by simp [Value.oneCell']; exact h.ok⟩
instance {f:Fn} {x y:Array Value} {cs:List Value} [h:One cs]:One (.func f x y::cs):=⟨by simp [Value.oneCell']; exact h.ok⟩
instance {cs:List Value} [h:One cs]:One (.nilFunc::cs):=⟨by simp [Value.oneCell']; exact h.ok⟩
instance {cs:List Value} [h:One cs]:One (.nilIface::cs):=⟨by simp [Value.oneCell']; exact h.ok⟩
instance {t:TypeId} {v:Value} {cs:List Value} [h:One cs]:One (.iface t v::cs):=⟨by simp [Value.oneCell']; exact h.ok⟩
class Val (d:TypeDesc) (cs:List Value) (v:outParam Value):Prop where
 ok:(d.isRow=true∧v = .agg cs.toArray)∨((match d with | .struct _ | .array _ _=>False | _=>True)∧cs=[v])
instance {fs:Array Field} {cs:List Value}:Val (.struct fs) cs (.agg ⟨cs⟩):=⟨.inl ⟨rfl,rfl⟩⟩
instance {n:Nat} {e:TypeId} {cs:List Value}:Val (.array n e) cs (.agg ⟨cs⟩):=⟨.inl ⟨rfl,rfl⟩⟩
instance {v:Value}:Val .bool [v] v:=⟨.inr ⟨trivial,rfl⟩⟩
instance {k:IntKind} {v:Value}:Val (.int k) [v] v:=⟨.inr ⟨trivial,rfl⟩⟩
instance {v:Value}:Val .string [v] v:=⟨.inr ⟨trivial,rfl⟩⟩
instance {e:TypeId} {v:Value}:Val (.pointer e) [v] v:=⟨.inr ⟨trivial,rfl⟩⟩
instance {e:TypeId} {v:Value}:Val (.slice e) [v] v:=⟨.inr ⟨trivial,rfl⟩⟩
instance {k e:TypeId} {v:Value}:Val (.map k e) [v] v:=⟨.inr ⟨trivial,rfl⟩⟩
instance {p r:Array TypeId} {b:Bool} {v:Value}:Val (.func p r b) [v] v:=⟨.inr ⟨trivial,rfl⟩⟩
instance {ms:Array (String × TypeId)} {v:Value}:Val (.interface ms) [v] v:=⟨.inr ⟨trivial,rfl⟩⟩
def ro (b o:Nat) (cs:List Value):Asn where
 holds F w:=F b∧b < w.heap.size∧w.rangeAt b o cs
 mono F G w hFG h:=⟨hFG b h.1,h.2⟩
 frame F w w' hk h:=by
  have hb:=hk b h.1
  refine ⟨h.1,?_,fun j v hv=>?_⟩
  ·have h1:w.heap[b]?.isSome:=by simp [h.2.1]
   rw [← hb] at h1
   have:=Array.getElem?_eq_some_iff.1 (Option.some_get h1).symm
   exact this.1
  ·rw [World.cell?_of_block (w:=w) (by simpa using hb)]; exact h.2.2 j v hv
 within F w h:=⟨⟨h.1,h.2.1⟩,h.2⟩
class At [Dr] (Γ:List Fact) (b:Nat) (o:outParam Nat) (vs:outParam (List Value)):Prop where
 ok:∀ w0 F w,Hold w0 F Γ w→w.rangeAt b o vs
instance (priority:=100) At.miss [Dr] {Γ:List Fact} {g:Fact} {b o:Nat} {vs:List Value} [h:At Γ b o vs]:At (g::Γ) b o vs:=⟨fun w0 F w hw=>h.ok w0 F w hw.tail⟩
theorem Xjq {w:World} {b:Nat} {t:TypeId} {vs:List Value} (h:w.heap[b]? = some (.cells vs.toArray t (0,0))):w.rangeAt b 0 vs:=by
 intro j v hv
 rw [Nat.zero_add,cell_of_row w b j _ t _ h]
 simpa using hv
instance (priority:=1000) At.own [Dr] {Γ:List Fact} {b:Nat} {t:TypeId} {vs:List Value}:At (.own b t vs::Γ) b 0 vs :=
 ⟨fun w0 F w hw=>Xjq (hw.sat (.own b t vs) (by simp))⟩
instance (priority:=1000) At.ro [Dr] {Γ:List Fact} {b o:Nat} {vs:List Value}:At (.st (ro b o vs)::Γ) b o vs :=
 ⟨fun w0 F w hw=>(hw.sat (.st (Ab.ro b o vs)) (by simp)).2.2⟩
class Sum (a b:Nat) (r:outParam Nat):Prop where
 ok:a=b+r
instance (priority:=1000) {a:Nat}:Sum a a 0:=⟨rfl⟩
instance (priority:=900) {a:Nat}:Sum a 0 a:=⟨by simp⟩
instance (priority:=800) {a b r n:Nat} [h:Sum a b r]:Sum (a+n) b (r+n):=⟨by have:=h.ok; omega⟩
theorem Xco {w:World} {b o:Nat} {vs r:List Value} {k n:Nat} (h:w.rangeAt b o vs) (hs:(vs.drop k).take n=r):w.rangeAt b (o+k) r:=by
 intro j v hv
 have:vs[k+j]? = some v:=by
  rw [← hs] at hv
  rw [List.getElem?_take] at hv
  split at hv
  ·simpa using hv
  ·cases hv
 have:=h (k+j) v this
 rwa [← Nat.add_assoc] at this
section
variable {P:Program} {n:Nn} {w0:World} {F:Nat→Prop}
theorem Xd4 {w:World} {t:TypeId} {d:TypeDesc} {sz by_:Nat} {z:Value} [h:Ty P t d sz by_ z] {b o:Nat} {cs:List Value} {v:Value} (hr:w.rangeAt b o cs) (hl:cs.length=sz) [hv:Val d cs v] :
  (Instr.loadAt t (.pointer (some ⟨b,o,none⟩))).run P w = .ok v w:=by
 rcases hv.ok with ⟨h1,rfl⟩ | ⟨h1,rfl⟩
 ·exact run_loadAt_mid w b o t cs d hr h.und h1 (by rw [Xre (P:=P) (t:=t),hl])
 ·have hc:w.cell? ⟨b,o,none⟩=some v:=hr 0 v rfl
  have hagg:(isAgg t).run P w = .ok false w:=by
   unfold isAgg
   rw [Sem.run_bind,Xaz w]
   cases d <;> simp_all
  simp [Instr.loadAt,Instr.sureAddr,loadVar,hagg,hc]
end
class ArgVs (e:E) (xs:List Operand) (vs:outParam (List Value)):Prop where
 ok:∀ n a,Fr n e a→xs.map a.eval=vs
instance {e:E}:ArgVs e [] []:=⟨fun _ _ _=>rfl⟩
instance {e:E} {x:Operand} {xs:List Operand} {v:Value} {vs:List Value} [h:Ev e x v] [k:ArgVs e xs vs]:ArgVs e (x::xs) (v::vs):=⟨fun n a fr=>by simp [h.ok n a fr,k.ok n a fr]⟩
section
variable {P:Program} {n:Nn} {w0:World} {F:Nat→Prop} {ops:Array Oper} {i d:Nat} {t:TypeId} {pos:String} {aft:Array Edge} {g:Option (Nat × Bool)} {os:List Oper} {Q:Cont} {e:E} {Γ:List Fact} [Dr]
def OpV (P:Program) (n:Nn) (w0:World) (F:Nat→Prop) (o:Oper) (e:E) (Γ:List Fact) (v:Value):Prop :=
 ∀ a w,Fr n e a→Hold w0 F Γ w→(execOp a.eval o).run P w = .ok (.value v) w
theorem Wf {op:Op} {v:Value} (h:OpV P n w0 F ⟨some d,op,t,pos,aft,g⟩ e Γ v) (hd:Nat.blt d n.s=true)
  (k:JO P n w0 F ops (i+1) os Q ((d,v)::e) Γ):JR P n w0 F ops i ⟨some d,op,t,pos,aft,g⟩ os Q e Γ :=
 JR.value hd fun a w fr ho=>⟨v,w,Γ,h a w fr ho,ho,k⟩
end
section
variable {P:Program} {n:Nn} {w0:World} {F:Nat→Prop} {d:Option Nat} {t:TypeId} {pos:String} {aft:Array Edge} {g:Option (Nat × Bool)} {e:E} {Γ:List Fact} [Dr]
theorem Va {x:Operand} {v:Value} [hx:Ev e x v]:OpV P n w0 F ⟨d, .move x,t,pos,aft,g⟩ e Γ v :=
 fun a w fr _=>by simp [execOp,hx.ok n a fr]
theorem Vb {x:Operand} {v:Value} [hx:Ev e x v]:OpV P n w0 F ⟨d, .assign x,t,pos,aft,g⟩ e Γ v :=
 fun a w fr _=>by simp [execOp,hx.ok n a fr]
theorem Vi {c x y:Operand} {v:Value} [hc:Ev e c (.bool true)] [hx:Ev e x v]:OpV P n w0 F ⟨d, .pick c x y,t,pos,aft,g⟩ e Γ v :=
 fun a w fr _=>by simp [execOp,hc.ok n a fr,hx.ok n a fr,asBool]
theorem Vj {c x y:Operand} {v:Value} [hc:Ev e c (.bool false)] [hx:Ev e y v]:OpV P n w0 F ⟨d, .pick c x y,t,pos,aft,g⟩ e Γ v :=
 fun a w fr _=>by simp [execOp,hc.ok n a fr,hx.ok n a fr,asBool]
theorem Vh {x:Operand} {ty:TypeId} {b:Bool} [hx:Ev e x (.bool b)]:OpV P n w0 F ⟨d, .unOp .not ty x,t,pos,aft,g⟩ e Γ (.bool (!b)) :=
 fun a w fr _=>by simp [execOp,hx.ok n a fr,Op.unary]
class Nth (vs:List Value) (k:Nat) (v:outParam Value):Prop where
 ok:vs[k]? = some v
instance (priority:=100) {u v:Value} {vs:List Value} {k:Nat} [h:Nth vs k v]:Nth (u::vs) (k+1) v:=⟨by simpa using h.ok⟩
instance (priority:=1000) {v:Value} {vs:List Value}:Nth (v::vs) 0 v:=⟨rfl⟩
theorem Vq {x:Operand} {ix:Nat} {vs:List Value} {v:Value} [hx:Ev e x (.tuple ⟨vs⟩)] [hv:Nth vs ix v]:OpV P n w0 F ⟨d, .extract x ix,t,pos,aft,g⟩ e Γ v :=
 fun a w fr _=>by simp [execOp,hx.ok n a fr,Instr.extract,hv.ok]
theorem Vr {fn:Fn} {first captured:Array Operand} {vs us:List Value} [h1:ArgVs e first.toList vs] [h2:ArgVs e captured.toList us] :
  OpV P n w0 F ⟨d, .makeFunc fn first captured,t,pos,aft,g⟩ e Γ (.func fn ⟨vs⟩ ⟨us⟩) :=
 fun a w fr _=>by
  have e1:first.map a.eval=⟨vs⟩:=by rw [← h1.ok n a fr]; apply Array.ext'; simp
  have e2:captured.map a.eval=⟨us⟩:=by rw [← h2.ok n a fr]; apply Array.ext'; simp
  simp [execOp,Instr.makeFunc,e1,e2]
theorem Vd {x:Operand} {ty f b o off:Nat} [hx:Ev e x (.pointer (some ⟨b,o,none⟩))] [hf:Fld P ty f off]:OpV P n w0 F ⟨d, .fieldAddr ty x f,t,pos,aft,g⟩ e Γ (.pointer (some ⟨b,o+off,none⟩)) :=
 fun a w fr _=>by simp [execOp,hx.ok n a fr,hf.ok]
theorem Vc {x:Operand} {ty:TypeId} {td:TypeDesc} {sz by_:Nat} {z:Value} {b o o' r:Nat} {vs cs:List Value} {v:Value}
  [hx:Ev e x (.pointer (some ⟨b,o,none⟩))] [hA:At Γ b o' vs] [hS:Sum o o' r] [hT:Ty P ty td sz by_ z] [hs:Seg vs r sz cs] [hv:Val td cs v]:OpV P n w0 F ⟨d, .load ty x,t,pos,aft,g⟩ e Γ v :=
 fun a w fr ho=>by
  have h1:=Xco (hA.ok w0 F w ho) hs.ok.1
  rw [← hS.ok] at h1
  simp [execOp,hx.ok n a fr,Xd4 (P:=P) (t:=ty) (v:=v) h1 hs.ok.2]
end
section
variable {P:Program} {n:Nn} {w0:World} {F:Nat→Prop} {d:Option Nat} {t:TypeId} {pos:String} {aft:Array Edge} {g:Option (Nat × Bool)} {e:E} {Γ:List Fact}
theorem Xmo {m:Int} (h : -9223372036854775808≤m∧m≤9223372036854775807):IntKind.i64.wrap m=m:=by
 simp only [IntKind.wrap,IntKind.signed,IntKind.bits]
 simp
 omega
theorem Vt [Dr] {x y:Operand} {ty yt:TypeId} {p q:Int} [hx:Ev e x (.int .i64 p)] [hy:Ev e y (.int .i64 q)] (h : -9223372036854775808≤p+q∧p+q≤9223372036854775807) :
  OpV P n w0 F ⟨d, .binOp .add ty x y yt,t,pos,aft,g⟩ e Γ (.int .i64 (p+q)) :=
 fun a w fr _=>by simp [execOp,hx.ok n a fr,hy.ok n a fr,eqGuard,binOp,Op.intArith,Xmo h]
theorem Vv [Dr] {x y:Operand} {ty yt:TypeId} {p q:Int} [hx:Ev e x (.int .i64 p)] [hy:Ev e y (.int .i64 q)] (h : -9223372036854775808≤p - q∧p - q≤9223372036854775807) :
  OpV P n w0 F ⟨d, .binOp .sub ty x y yt,t,pos,aft,g⟩ e Γ (.int .i64 (p - q)) :=
 fun a w fr _=>by simp [execOp,hx.ok n a fr,hy.ok n a fr,eqGuard,binOp,Op.intArith,Xmo h]
theorem OpV.mul [Dr] {x y:Operand} {ty yt:TypeId} {p q:Int} [hx:Ev e x (.int .i64 p)] [hy:Ev e y (.int .i64 q)] (h : -9223372036854775808≤p * q∧p * q≤9223372036854775807) :
  OpV P n w0 F ⟨d, .binOp .mul ty x y yt,t,pos,aft,g⟩ e Γ (.int .i64 (p * q)) :=
 fun a w fr _=>by simp [execOp,hx.ok n a fr,hy.ok n a fr,eqGuard,binOp,Op.intArith,Xmo h]
theorem Vk [Dr] {x:Operand} {ty yt:TypeId} {k:Nat} [hx:Ev e x (.int .i64 (k:Int))] (h:k < 9223372036854775807) :
  OpV P n w0 F ⟨d, .binOp .add ty x (.const (.int .i64 1)) yt,t,pos,aft,g⟩ e Γ (.int .i64 ((k+1:Nat):Int)) :=
 fun a w fr ho=>by
  have:=Vt (P:=P) (n:=n) (w0:=w0) (F:=F) (d:=d) (t:=t) (pos:=pos) (aft:=aft) (g:=g) (e:=e) (Γ:=Γ) (x:=x) (y:=.const (.int .i64 1)) (ty:=ty) (yt:=yt) (p:=(k:Int)) (q:=1) (by omega) a w fr ho
  simpa using this
theorem Xc1 [Dr] {x y:Operand} {ty yt:TypeId} {kk:IntKind} {p q:Int} [hx:Ev e x (.int kk p)] [hy:Ev e y (.int kk q)] :
  OpV P n w0 F ⟨d, .binOp .add ty x y yt,t,pos,aft,g⟩ e Γ (.int kk (kk.wrap (p+q))) :=
 fun a w fr _=>by simp [execOp,hx.ok n a fr,hy.ok n a fr,eqGuard,binOp,Op.intArith]
theorem Xx2 [Dr] {x y:Operand} {ty yt:TypeId} {kk:IntKind} {p q:Int} [hx:Ev e x (.int kk p)] [hy:Ev e y (.int kk q)] :
  OpV P n w0 F ⟨d, .binOp .sub ty x y yt,t,pos,aft,g⟩ e Γ (.int kk (kk.wrap (p - q))) :=
 fun a w fr _=>by simp [execOp,hx.ok n a fr,hy.ok n a fr,eqGuard,binOp,Op.intArith]
theorem Xx3 [Dr] {x y:Operand} {ty yt:TypeId} {kk:IntKind} {p q:Int} [hx:Ev e x (.int kk p)] [hy:Ev e y (.int kk q)] :
  OpV P n w0 F ⟨d, .binOp .mul ty x y yt,t,pos,aft,g⟩ e Γ (.int kk (kk.wrap (p * q))) :=
 fun a w fr _=>by simp [execOp,hx.ok n a fr,hy.ok n a fr,eqGuard,binOp,Op.intArith]
theorem OpV.and [Dr] {x y:Operand} {ty yt:TypeId} {kk:IntKind} {p q:Int} [hx:Ev e x (.int kk p)] [hy:Ev e y (.int kk q)] :
  OpV P n w0 F ⟨d, .binOp .and ty x y yt,t,pos,aft,g⟩ e Γ (.int kk (kk.wrap (BitVec.ofInt kk.bits p &&& BitVec.ofInt kk.bits q).toNat)) :=
 fun a w fr _=>by simp [execOp,hx.ok n a fr,hy.ok n a fr,eqGuard,binOp,Op.intBits]
theorem OpV.or [Dr] {x y:Operand} {ty yt:TypeId} {kk:IntKind} {p q:Int} [hx:Ev e x (.int kk p)] [hy:Ev e y (.int kk q)] :
  OpV P n w0 F ⟨d, .binOp .or ty x y yt,t,pos,aft,g⟩ e Γ (.int kk (kk.wrap (BitVec.ofInt kk.bits p ||| BitVec.ofInt kk.bits q).toNat)) :=
 fun a w fr _=>by simp [execOp,hx.ok n a fr,hy.ok n a fr,eqGuard,binOp,Op.intBits]
theorem OpV.xor [Dr] {x y:Operand} {ty yt:TypeId} {kk:IntKind} {p q:Int} [hx:Ev e x (.int kk p)] [hy:Ev e y (.int kk q)] :
  OpV P n w0 F ⟨d, .binOp .xor ty x y yt,t,pos,aft,g⟩ e Γ (.int kk (kk.wrap (BitVec.ofInt kk.bits p ^^^ BitVec.ofInt kk.bits q).toNat)) :=
 fun a w fr _=>by simp [execOp,hx.ok n a fr,hy.ok n a fr,eqGuard,binOp,Op.intBits]
theorem OpV.andNot [Dr] {x y:Operand} {ty yt:TypeId} {kk:IntKind} {p q:Int} [hx:Ev e x (.int kk p)] [hy:Ev e y (.int kk q)] :
  OpV P n w0 F ⟨d, .binOp .andNot ty x y yt,t,pos,aft,g⟩ e Γ (.int kk (kk.wrap (BitVec.ofInt kk.bits p &&& ~~~ BitVec.ofInt kk.bits q).toNat)) :=
 fun a w fr _=>by simp [execOp,hx.ok n a fr,hy.ok n a fr,eqGuard,binOp,Op.intBits]
theorem OpV.rem [Dr] {x y:Operand} {ty yt:TypeId} {kk:IntKind} {p q:Int} [hx:Ev e x (.int kk p)] [hy:Ev e y (.int kk q)] (h:q≠0) :
  OpV P n w0 F ⟨d, .binOp .rem ty x y yt,t,pos,aft,g⟩ e Γ (.int kk (p.tmod q)) :=
 fun a w fr _=>by simp [execOp,hx.ok n a fr,hy.ok n a fr,eqGuard,binOp,Op.intDiv,h]
theorem OpV.shl [Dr] {x y:Operand} {ty yt:TypeId} {kk yk:IntKind} {p q:Int} [hx:Ev e x (.int kk p)] [hy:Ev e y (.int yk q)] (h:¬ q < 0) :
  OpV P n w0 F ⟨d, .binOp .shl ty x y yt,t,pos,aft,g⟩ e Γ (.int kk (kk.wrap (p * 2 ^ (min q.toNat kk.bits)))) :=
 fun a w fr _=>by simp [execOp,hx.ok n a fr,hy.ok n a fr,eqGuard,binOp,Op.shift,h]
theorem OpV.shr [Dr] {x y:Operand} {ty yt:TypeId} {kk yk:IntKind} {p q:Int} [hx:Ev e x (.int kk p)] [hy:Ev e y (.int yk q)] (h:¬ q < 0) :
  OpV P n w0 F ⟨d, .binOp .shr ty x y yt,t,pos,aft,g⟩ e Γ (.int kk (p.fdiv (2 ^ (min q.toNat kk.bits)))) :=
 fun a w fr _=>by simp [execOp,hx.ok n a fr,hy.ok n a fr,eqGuard,binOp,Op.shift,h]
theorem Vg [Dr] {x y:Operand} {ty yt:TypeId} {kk:IntKind} {p q:Int} [hx:Ev e x (.int kk p)] [hy:Ev e y (.int kk q)]:OpV P n w0 F ⟨d, .binOp .lss ty x y yt,t,pos,aft,g⟩ e Γ (.bool (decide (p < q))) :=
 fun a w fr _=>by simp [execOp,hx.ok n a fr,hy.ok n a fr,eqGuard,binOp,Op.intCmp]
theorem Vn [Dr] {x y:Operand} {ty yt:TypeId} {kk:IntKind} {p q:Int} [hx:Ev e x (.int kk p)] [hy:Ev e y (.int kk q)]:OpV P n w0 F ⟨d, .binOp .leq ty x y yt,t,pos,aft,g⟩ e Γ (.bool (decide (p≤q))) :=
 fun a w fr _=>by simp [execOp,hx.ok n a fr,hy.ok n a fr,eqGuard,binOp,Op.intCmp]
theorem Vo [Dr] {x y:Operand} {ty yt:TypeId} {kk:IntKind} {p q:Int} [hx:Ev e x (.int kk p)] [hy:Ev e y (.int kk q)]:OpV P n w0 F ⟨d, .binOp .gtr ty x y yt,t,pos,aft,g⟩ e Γ (.bool (decide (q < p))) :=
 fun a w fr _=>by simp [execOp,hx.ok n a fr,hy.ok n a fr,eqGuard,binOp,Op.intCmp]
theorem Vp [Dr] {x y:Operand} {ty yt:TypeId} {kk:IntKind} {p q:Int} [hx:Ev e x (.int kk p)] [hy:Ev e y (.int kk q)]:OpV P n w0 F ⟨d, .binOp .geq ty x y yt,t,pos,aft,g⟩ e Γ (.bool (decide (q≤p))) :=
 fun a w fr _=>by simp [execOp,hx.ok n a fr,hy.ok n a fr,eqGuard,binOp,Op.intCmp]
theorem Vl [Dr] {x y:Operand} {ty yt:TypeId} {kk:IntKind} {p q:Int} [hx:Ev e x (.int kk p)] [hy:Ev e y (.int kk q)]:OpV P n w0 F ⟨d, .binOp .eql ty x y yt,t,pos,aft,g⟩ e Γ (.bool (decide (p=q))) :=
 fun a w fr _=>by simp [execOp,hx.ok n a fr,hy.ok n a fr,eqGuard,binOp,Op.intCmp]; rfl
theorem Vm [Dr] {x y:Operand} {ty yt:TypeId} {kk:IntKind} {p q:Int} [hx:Ev e x (.int kk p)] [hy:Ev e y (.int kk q)]:OpV P n w0 F ⟨d, .binOp .neq ty x y yt,t,pos,aft,g⟩ e Γ (.bool (decide (p≠q))) :=
 fun a w fr _=>by simp [execOp,hx.ok n a fr,hy.ok n a fr,eqGuard,binOp,Op.intCmp]; rfl
theorem Xbm [Dr] {x:Operand} {src dst:TypeId} {kk k2:IntKind} {p:Int} {sd:TypeDesc} {s1 b1 s2 b2:Nat} {z1 z2:Value} [hx:Ev e x (.int kk p)] [hs:Ty P src sd s1 b1 z1] [hT:Ty P dst (.int k2) s2 b2 z2] :
  OpV P n w0 F ⟨d, .convert src dst x,t,pos,aft,g⟩ e Γ (.int k2 (k2.wrap p)) :=
 fun a w fr _=>by
  have h1:=Xaz (P:=P) (t:=src) w
  have h2:=Xaz (P:=P) (t:=dst) w
  simp [execOp,hx.ok n a fr,convert,h1,h2,Conv.intToInt]
theorem Xdz [Dr] {x:Operand} {src dst:TypeId} {kk k2:IntKind} {p:Int} {sd:TypeDesc} {s1 b1 s2 b2:Nat} {z1 z2:Value} [hx:Ev e x (.int kk p)] [hs:Ty P src sd s1 b1 z1] [hT:Ty P dst (.int k2) s2 b2 z2]
  (h:k2.wrap p=p):OpV P n w0 F ⟨d, .convert src dst x,t,pos,aft,g⟩ e Γ (.int k2 p):=by
 have:=Xbm (P:=P) (n:=n) (w0:=w0) (F:=F) (d:=d) (t:=t) (pos:=pos) (aft:=aft) (g:=g) (e:=e) (Γ:=Γ) (x:=x) (src:=src) (dst:=dst) (kk:=kk) (k2:=k2) (p:=p)
 rwa [h] at this
theorem Xag {ρ:Operand→Value} {w:World} {b:Builtin} {args:Array Operand} {ats:Array TypeId} {ty:TypeId} :
  (resolve ρ ⟨.builtin b,args,ats⟩ ty).run P w = .ok ⟨.builtin b ats ty (args.map fun | .const _=>true | _=>false),args.map ρ⟩ w:=rfl
end
section
variable {P:Program} {n:Nn} {w0:World} {F:Nat→Prop} {d:Option Nat} {t:TypeId} {pos:String} {aft:Array Edge} {g:Option (Nat × Bool)} {e:E} {Γ:List Fact} [Dr]
theorem Vf {x:Operand} {ty el:TypeId} {a0:Option Addr} {m c sz by_:Nat} {z:Value} [hx:Ev e x (.slice a0 m c)] [hT:Ty P ty (.slice el) sz by_ z] :
  OpV P n w0 F ⟨d, .call ⟨.builtin .len,#[x],#[ty]⟩,t,pos,aft,g⟩ e Γ (.int .i64 (m:Int)) :=
 fun a w fr _=>by
  have h2:=Xaz (P:=P) (t:=ty) w
  simp [execOp,Xag,invoke,builtin,Builtin.len_,hx.ok n a fr,h2,goInt]
theorem Vw {x:Operand} {ty:TypeId} {s:ByteArray} {sz by_:Nat} {z:Value} [hx:Ev e x (.string s)] [hT:Ty P ty .string sz by_ z] :
  OpV P n w0 F ⟨d, .call ⟨.builtin .len,#[x],#[ty]⟩,t,pos,aft,g⟩ e Γ (.int .i64 (s.size:Int)) :=
 fun a w fr _=>by
  have h2:=Xaz (P:=P) (t:=ty) w
  simp [execOp,Xag,invoke,builtin,Builtin.len_,hx.ok n a fr,h2,goInt]
class NatI (i:Int) (k:outParam Nat):Prop where
 ok:i=(k:Int)
instance (priority:=1000) {k:Nat}:NatI (k:Int) k:=⟨rfl⟩
instance (priority:=900) {k:Nat}:NatI (OfNat.ofNat k:Int) k:=⟨rfl⟩
instance (priority:=900):NatI (0:Int) 0:=⟨rfl⟩
instance (priority:=900):NatI (1:Int) 1:=⟨rfl⟩
instance (priority:=800) {x:Int} {k:Nat} [h:NatI x k]:NatI (x+1 - 1) k:=⟨by have:=h.ok; omega⟩
instance (priority:=700) {x y:Int} {k m:Nat} [h:NatI x k] [h':NatI y m]:NatI (x+y) (k+m):=⟨by have:=h.ok; have:=h'.ok; omega⟩
theorem Xac {x ix:Operand} {ty el:TypeId} {kk:IntKind} {b o m k sz by_ es eb:Nat} {z ez:Value} {ed:TypeDesc} {j:Int} [hx:Ev e x (.pointer (some ⟨b,o,none⟩))] [hi:Ev e ix (.int kk j)] [hk:NatI j k]
  [hT:Ty P ty (.array m el) sz by_ z] [hE:Ty P el ed es eb ez] (h:k < m):OpV P n w0 F ⟨d, .indexAddr ty x ix,t,pos,aft,g⟩ e Γ (.pointer (some ⟨b,o+k * es,none⟩)) :=
 fun a w fr _=>by
  have h1:=Xaz (P:=P) (t:=ty) w
  have h2:=Xbg (P:=P) (t:=el) w
  have hj:=hk.ok
  subst hj
  simp [execOp,hx.ok n a fr,hi.ok n a fr,Instr.indexAt,asIntOf,h1,h2,Instr.sureAddr,h,Addr.add_mid]
end
section
variable {P:Program} {n:Nn} {w0:World} {F:Nat→Prop} {ops:Array Oper} {i d:Nat} {t:TypeId} {pos:String} {aft:Array Edge} {g:Option (Nat × Bool)} {os:List Oper} {Q:Cont} {e:E} {Γ:List Fact}
theorem Xbt {v:Value} {cs:List Value} [h:Cel v cs]:v.cells=cs.toArray:=by
 apply Array.ext'; simpa using h.ok
theorem Wg [Dr] {ty:TypeId} {td:TypeDesc} {sz by_:Nat} {z:Value} {cs:List Value} [hT:Ty P ty td sz by_ z] [hc:Cel z cs] (hd:Nat.blt d n.s=true)
  (k:∀ b,JO P n w0 F ops (i+1) os Q ((d, .pointer (some ⟨b,0,none⟩))::e) (.own b ty cs::Γ)):JR P n w0 F ops i ⟨some d, .alloc ty,t,pos,aft,g⟩ os Q e Γ :=
 JR.value hd fun a w fr ho=>⟨_,_,_,by
  simp only [execOp,Instr.alloc,Sem.run_bind,Xf5 (P:=P) (t:=ty) w,Result.andThen_ok,newVar,newRow,Xbt (v:=z) (cs:=cs),run_newObj,Sem.run_pure]
  rfl,ho.alloc ty cs,k w.heap.size⟩
theorem Wh [Dr] {ty:TypeId} {x:Operand} {v:Value} {cs:List Value} [hx:Ev e x v] [hc:Cel v cs] (hd:Nat.blt d n.s=true)
  (k:∀ b,JO P n w0 F ops (i+1) os Q ((d, .pointer (some ⟨b,0,none⟩))::e) (.own b ty cs::Γ)):JR P n w0 F ops i ⟨some d, .box ty x,t,pos,aft,g⟩ os Q e Γ :=
 JR.value hd fun a w fr ho=>⟨_,_,_,by
  simp only [execOp,hx.ok n a fr,Instr.box,Sem.run_bind,Result.andThen_ok,newVar,newRow,Xbt (v:=v) (cs:=cs),run_newObj,Sem.run_pure]
  rfl,ho.alloc ty cs,k w.heap.size⟩
theorem Xc2 {w:World} {b o:Nat} {bt ty:TypeId} {td:TypeDesc} {sz by_:Nat} {z v:Value} {vs cs r:List Value} [hT:Ty P ty td sz by_ z] (hw:w.heap[b]? = some (.cells vs.toArray bt (0,0)))
  [hc:Cel v cs] (hl:cs.length=sz) [h1:One cs] (hr:o+cs.length≤vs.length∧vs.take o++cs++vs.drop (o+cs.length)=r) :
  (Instr.storeAt ty (.pointer (some ⟨b,o,none⟩)) v).run P w = .ok () (w.setRow b r.toArray):=by
 have e1:=run_storeCells_at (P:=P) b o bt cs 0 vs.toArray w hw (by simpa using hr.1) h1.ok
 simp only [Nat.add_zero] at e1
 rw [hr.2] at e1
 have e2:v.cells.size=sz:=by rw [Xbt (v:=v) (cs:=cs)]; simpa using hl
 simp only [Instr.storeAt,Instr.sureAddr,Sem.run_bind,Sem.run_pure,Result.andThen_ok,storeVar,Xbg (P:=P) (t:=ty) w,e2]
 simp only [ne_eq,not_true_eq_false,if_false,Xbt (v:=v) (cs:=cs)]
 exact e1
theorem Hold.setRow [Dr] {w:World} {b:Nat} {bt:TypeId} {vs r:List Value} {Δ:List Fact} (h:Hold w0 F (.own b bt vs::Δ) w):Hold w0 F (.own b bt r::Δ) (w.setRow b r.toArray):=by
 have hw:w.heap[b]? = some (.cells vs.toArray bt (0,0)):=h.sat (.own b bt vs) (by simp)
 have e1:=setRow_heap w b vs.toArray r.toArray bt (0,0) hw
 exact h.swap (b:=b) (fun _=>Iff.rfl) (fun _=>Iff.rfl) rfl rfl rfl (by simp) (fun k hk=>by simp only [World.setRow,Array.getElem?_modify]; rw [if_neg (by omega)]) e1
theorem Wi [Dr] {ty:TypeId} {x y:Operand} {td:TypeDesc} {sz by_:Nat} {z v:Value} {b o m:Nat} {bt:TypeId} {vs cs r:List Value} {Δ:List Fact}
  [hx:Ev e x (.pointer (some ⟨b,o,none⟩))] [hy:Ev e y v] [hT:Ty P ty td sz by_ z] [hO:Own Γ b bt vs Δ] [hc:Cel v cs] [hm:Len cs m] [hl:EvB (Nat.beq m sz) true] [h1:One cs] [hL:Lay vs o cs r]
  (k:JO P n w0 F ops (i+1) os Q e (.own b bt r::Δ)):JR P n w0 F ops i ⟨none, .store ty x y,t,pos,aft,g⟩ os Q e Γ :=
 Xdi fun a w fr ho=>by
  have ho':=ho.perm hO.ok
  have hw:w.heap[b]? = some (.cells vs.toArray bt (0,0)):=ho'.sat (.own b bt vs) (by simp)
  refine ⟨.skip,w.setRow b r.toArray,_, .inl rfl,?_,ho'.setRow,k⟩
  simp [execOp,hx.ok n a fr,hy.ok n a fr,Xc2 (P:=P) (ty:=ty) (cs:=cs) (r:=r) hw (by rw [hm.ok]; exact Nat.eq_of_beq_eq_true hl.ok) hL.ok]
end
class Cell (α:Type) where
 Ix:Type
 sz:Nat
 cells:α→Ix→List Value
 facts:α→Ix→List Asn
 len:∀ x y,(cells x y).length=sz
 one:∀ x y,∀ v∈cells x y,v.oneCell'=true
 pos:0 < sz
def lim:Nat:=281474976710656
def Xlf {α:Type} [Cell α] (F:Nat→Prop) (w:World) (b off:Nat) (L:List α):Prop :=
 ∀ i (h:i < L.length),∃ y,w.rangeAt b (off+i * Cell.sz α) (Cell.cells L[i] y)∧∀ A∈Cell.facts L[i] y,A.holds F w
theorem Xmp {w w':World} {b:Nat} (h:w'.heap[b]? = w.heap[b]?) {o:Nat} {cs:List Value} (hr:w.rangeAt b o cs):w'.rangeAt b o cs :=
 fun j v hv=>by rw [World.cell?_of_block (w:=w) (by simpa using h)]; exact hr j v hv
theorem Xhr {α:Type} [Cell α] {F G:Nat→Prop} {w w':World} {b off:Nat} {L:List α} (hr:Xlf F w b off L) (hb:w'.heap[b]? = w.heap[b]?)
  (hF:∀ k,F k→k < w.heap.size→G k) (hk:∀ k,k < w.heap.size→F k→w'.heap[k]? = w.heap[k]?):Xlf G w' b off L:=by
 intro i h
 obtain ⟨y,h1,h2⟩:=hr i h
 refine ⟨y,Xmp hb h1,fun A hA=>?_⟩
 exact Fact.sat_keep (f:=.st A) (h2 A hA) hF (fun k hlt hk'=>hk k hlt (hk'.resolve_right (by simp [Fact.owns])))
theorem Xsg {w w':World} {b:Nat} (h:w'.heap[b]? = w.heap[b]?) (hb:b < w.heap.size):b < w'.heap.size:=by
 have h1:w.heap[b]?.isSome:=by simp [hb]
 rw [← h] at h1
 exact (Array.getElem?_eq_some_iff.1 (Option.some_get h1).symm).1
def sl {α:Type} [Cell α] (a:Option Addr) (c:Nat) (L:List α):Asn where
 holds F w:=L.length≤c∧c≤maxLen∧L.length≤lim∧(L≠[]→∃ b off,a=some ⟨b,off,none⟩∧F b∧b < w.heap.size∧Xlf F w b off L)
 mono F G w hFG h:=⟨h.1,h.2.1,h.2.2.1,fun hL=>let ⟨b,off,h1,h2,h3,h4⟩:=h.2.2.2 hL; ⟨b,off,h1,hFG b h2,h3,Xhr h4 rfl (fun k hk _=>hFG k hk) (fun _ _ _=>rfl)⟩⟩
 frame F w w' hk h:=⟨h.1,h.2.1,h.2.2.1,fun hL=>let ⟨b,off,h1,h2,h3,h4⟩:=h.2.2.2 hL; ⟨b,off,h1,h2,Xsg (hk b h2) h3,Xhr h4 (hk b h2) (fun k hk _=>hk) (fun k _ h=>hk k h)⟩⟩
 within F w h:=⟨h.1,h.2.1,h.2.2.1,fun hL=>let ⟨b,off,h1,h2,h3,h4⟩:=h.2.2.2 hL; ⟨b,off,h1,⟨h2,h3⟩,h3,Xhr h4 rfl (fun _ hk hlt=>⟨hk,hlt⟩) (fun _ _ _=>rfl)⟩⟩
def flat {α:Type} [Cell α]:List (α × Cell.Ix α)→List Value
 | []=>[]
 | (x,y)::r=>Cell.cells x y++flat r
theorem Xjr {α:Type} [Cell α] (r s:List (α × Cell.Ix α)):flat (r++s)=flat r++flat s:=by
 induction r with
 | nil=>rfl
 | cons p r ih=>obtain ⟨x,y⟩:=p; simp [flat,ih]
theorem Xbf {α:Type} [Cell α] (r:List (α × Cell.Ix α)):(flat r).length=r.length * Cell.sz α:=by
 induction r with
 | nil=>simp [flat]
 | cons p r ih=>obtain ⟨x,y⟩:=p; simp [flat,ih,Cell.len,Nat.add_mul,Nat.add_comm]
theorem Xrf {α:Type} [Cell α] (r:List (α × Cell.Ix α)):∀ v∈flat r,v.oneCell'=true:=by
 induction r with
 | nil=>simp [flat]
 | cons p r ih =>
  obtain ⟨x,y⟩:=p
  intro v hv
  rcases List.mem_append.1 hv with hv | hv
  ·exact Cell.one x y v hv
  ·exact ih v hv
theorem Xjs {α:Type} [Cell α] (r:List (α × Cell.Ix α)) (i:Nat) (h:i < r.length) (j:Nat) (v:Value) (hv:(Cell.cells r[i].1 r[i].2)[j]? = some v):(flat r)[i * Cell.sz α+j]? = some v:=by
 induction r generalizing i with
 | nil=>simp at h
 | cons p r ih =>
  obtain ⟨x,y⟩:=p
  cases i with
  | zero =>
   simp only [flat,Nat.zero_mul,Nat.zero_add]
   rw [List.getElem?_append_left]
   ·simpa using hv
   ·have:=(List.getElem?_eq_some_iff.1 hv).1; simpa using this
  | succ i =>
   simp only [flat]
   rw [List.getElem?_append_right (by rw [Cell.len,Nat.add_mul]; omega)]
   rw [show (i+1) * Cell.sz α+j - (Cell.cells x y).length=i * Cell.sz α+j by rw [Cell.len,Nat.add_mul]; omega]
   exact ih i (by simpa using h) (by simpa using hv)
def buf {α:Type} [Cell α] (a:Option Addr) (c:Nat) (el:TypeId) (L:List α):Res where
 owns k:=∃ a',a=some a'∧k=a'.block
 holds F w:=L.length≤lim∧∃ r:List (α × Cell.Ix α),r.map (·.1)=L∧w.ownsRow 0 el (Cell.sz α) (.slice a L.length c) L.length (flat r)∧∀ p∈r,∀ A∈Cell.facts p.1 p.2,A.holds F w
 keep F G w w' h hF hk:=by
  obtain ⟨h0,r,h1,h2,h3⟩:=h
  refine ⟨h0,r,h1,⟨h2.1,?_⟩,fun p hp A hA=>Fact.sat_keep (f:=.st A) (h3 p hp A hA) hF (fun k hlt hk'=>hk k hlt (.inl (hk'.resolve_right (by simp [Fact.owns]))))⟩
  rcases h2.2 with h | ⟨g,cap,cur,hv,hb,hg,rest⟩
  ·exact .inl h
  ·refine .inr ⟨g,cap,cur,hv,hb,?_,rest⟩
   have hlt:=(Array.getElem?_eq_some_iff.1 hg).1
   rw [hk g hlt (.inr ⟨_,by injection hv,rfl⟩)]
   exact hg
 lt F w h k hk:=by
  obtain ⟨h0,r,h1,h2,h3⟩:=h
  obtain ⟨a',rfl,rfl⟩:=hk
  rcases h2.2 with ⟨h,_⟩ | ⟨g,cap,cur,hv,hb,hg,rest⟩
  ·cases h
  ·have hlt:=(Array.getElem?_eq_some_iff.1 hg).1
   injection hv with hv _ _
   injection hv with hv
   subst hv
   exact hlt
class HasSl (Γ:List Fact) (v:Value) (α:outParam Type) (ic:outParam (Cell α)) (L:outParam (List α)):Prop where
 ok:∃ a c,v = .slice a L.length c∧.st (sl a c L)∈Γ
instance (priority:=100) HasSl.miss {α:Type} {ic:Cell α} {Γ:List Fact} {g:Fact} {v:Value} {L:List α} [h:HasSl Γ v α ic L]:HasSl (g::Γ) v α ic L :=
 ⟨let ⟨a,c,h1,h2⟩:=h.ok; ⟨a,c,h1,List.mem_cons_of_mem _ h2⟩⟩
instance (priority:=1000) HasSl.hit {α:Type} {ic:Cell α} {Γ:List Fact} {a:Option Addr} {c:Nat} {L:List α}:HasSl (.st (sl a c L)::Γ) (.slice a L.length c) α ic L:=⟨a,c,rfl,by simp⟩
theorem HasSl.holds [Dr] {α:Type} {ic:Cell α} {Γ:List Fact} {v:Value} {L:List α} (h:HasSl Γ v α ic L) {w0 w:World} {F:Nat→Prop} (hw:Hold w0 F Γ w):∃ a c,v = .slice a L.length c∧(sl a c L).holds (fp w0 F Γ) w :=
 let ⟨a,c,h1,h2⟩:=h.ok; ⟨a,c,h1,hw.sat _ h2⟩
class HasBuf (Γ:List Fact) (v:Value) (α:outParam Type) (ic:outParam (Cell α)) (el:outParam TypeId) (L:outParam (List α)) (Δ:outParam (List Fact)):Prop where
 ok:∃ a c,v = .slice a L.length c∧Γ.Perm (.res (buf a c el L)::Δ)
instance (priority:=100) HasBuf.miss {α:Type} {ic:Cell α} {Γ Δ:List Fact} {g:Fact} {v:Value} {el:TypeId} {L:List α} [h:HasBuf Γ v α ic el L Δ]:HasBuf (g::Γ) v α ic el L (g::Δ) :=
 ⟨let ⟨a,c,h1,h2⟩:=h.ok; ⟨a,c,h1,(h2.cons g).trans (List.Perm.swap _ g Δ)⟩⟩
instance (priority:=1000) HasBuf.hit {α:Type} {ic:Cell α} {Γ:List Fact} {a:Option Addr} {c:Nat} {el:TypeId} {L:List α}:HasBuf (.res (buf a c el L)::Γ) (.slice a L.length c) α ic el L Γ:=⟨a,c,rfl,List.Perm.refl _⟩
class Typed {α:Type} [Cell α] (Γ:List Fact) (cs:List Value) (x:outParam α):Prop where
 ok:∃ y,cs=Cell.cells x y∧∀ A∈Cell.facts x y, .st A∈Γ
class Mem (A:Asn) (Γ:List Fact):Prop where
 ok : .st A∈Γ
instance (priority:=100) {A:Asn} {g:Fact} {Γ:List Fact} [h:Mem A Γ]:Mem A (g::Γ):=⟨List.mem_cons_of_mem _ h.ok⟩
instance (priority:=1000) {A:Asn} {Γ:List Fact}:Mem A (.st A::Γ):=⟨by simp⟩
theorem buf_nil {α:Type} [Cell α] {el:TypeId} {F:Nat→Prop} {w:World}:(buf (α:=α) none 0 el []).holds F w :=
 ⟨by simp [lim],[],rfl,World.ownsRow_nil w 0 el _,by simp⟩
theorem Hold.res [Dr] {w0 w:World} {F:Nat→Prop} {Γ:List Fact} (h:Hold w0 F Γ w) {R:Res} (ho:∀ k,¬ R.owns k) (hR:R.holds (fp w0 F Γ) w):Hold w0 F (.res R::Γ) w:=by
 have hfp:∀ k,fp w0 F Γ k→fp w0 F (.res R::Γ) k:=fun k hk=>⟨hk.1,fun f hf=>by
  rcases List.mem_cons.1 hf with rfl | hf
  ·exact ho k
  ·exact hk.2 f hf⟩
 refine ⟨h.below,fun f hf=>?_,List.pairwise_cons.2 ⟨fun g _ k hk=>ho k hk.1,h.dis⟩,fun f hf k hk=>?_⟩
 ·rcases List.mem_cons.1 hf with rfl | hf
  ·exact Fact.sat_keep (f:=.res R) hR (fun k hk _=>hfp k hk) (fun _ _ _=>rfl)
  ·exact Fact.sat_keep (h.sat f hf) (fun k hk _=>hfp k hk) (fun _ _ _=>rfl)
 ·rcases List.mem_cons.1 hf with rfl | hf
  ·exact (ho k hk).elim
  ·exact h.new f hf k hk
theorem Hold.pub [Dr] {α:Type} [Cell α] {w0 w:World} {F:Nat→Prop} {Γ:List Fact} {a:Option Addr} {c:Nat} {el:TypeId} {L:List α} (h:Hold w0 F (.res (buf a c el L)::Γ) w):Hold w0 F (.st (sl a c L)::Γ) w:=by
 have hs:(buf a c el L).holds (fp w0 F (.res (buf a c el L)::Γ)) w:=h.sat (.res (buf a c el L)) (by simp)
 refine h.publish fun hk=>?_
 obtain ⟨h0,r,h1,h2,h3⟩:=hs
 have hL:r.length=L.length:=by rw [← h1]; simp
 rcases h2.2 with ⟨hv,hn⟩ | ⟨g,cap,cur,hv,hb,hg,hc1,hc2,hc3,hc4⟩
 ·injection hv with e1 e2 e3
  refine ⟨by omega,by subst e3; simp [maxLen],h0,fun hne=>?_⟩
  exact (hne (List.eq_nil_of_length_eq_zero hn)).elim
 ·injection hv with e1 e2 e3
  subst e1 e3
  refine ⟨hc1,hc2,h0,fun hne=>⟨g,0,rfl,hk g (.inr ⟨_,rfl,rfl⟩),(Array.getElem?_eq_some_iff.1 hg).1,fun i hi=>?_⟩⟩
  have hir:i < r.length:=by omega
  have hx:L[i]=r[i].1:=by simp [← h1]
  rw [hx]
  refine ⟨r[i].2,fun j v hv=>?_,fun A hA=>A.mono _ _ _ (fun k hk'=>hk k (.inl hk')) (h3 _ (List.getElem_mem hir) A hA)⟩
  have h5:=Xjs r i hir j v hv
  rw [cell_of_row w g _ cur el _ hg]
  rw [← hc4] at h5
  rw [List.getElem?_take] at h5
  split at h5
  ·simpa using h5
  ·cases h5
section
variable {P:Program} {n:Nn} {w0:World} {F:Nat→Prop} {ops:Array Oper} {i d:Nat} {t:TypeId} {pos:String} {aft:Array Edge} {g:Option (Nat × Bool)} {os:List Oper} {Q:Cont} {e:E} {Γ:List Fact}
theorem JO.more [Dr] {Γ':List Fact} (h:∀ w,Hold w0 F Γ w→Hold w0 F Γ' w) (k:JO P n w0 F ops i os Q e Γ'):JO P n w0 F ops i os Q e Γ :=
 fun hd a w fr ho=>k hd a w fr (h w ho)
theorem JC.more [Dr] {c:Code} {Γ':List Fact} (h:∀ w,Hold w0 F Γ w→Hold w0 F Γ' w) (k:JC P n w0 F c Q e Γ'):JC P n w0 F c Q e Γ :=
 fun a w fr ho=>k a w fr (h w ho)
theorem JC.buf_nil [Dr] {α:Type} [Cell α] {c:Code} (el:TypeId) (k:JC P n w0 F c Q e (.res (buf (α:=α) none 0 el [])::Γ)):JC P n w0 F c Q e Γ :=
 JC.more (fun w ho=>ho.res (fun k hk=>by obtain ⟨a,h,_⟩:=hk; cases h) Ab.buf_nil) k
theorem JR.index [Dr] {α:Type} [ic:Cell α] {x ix:Operand} {v:Value} {L:List α} {kk:IntKind} {j:Int} {k:Nat} {ty el:TypeId} {sz by_ es eb:Nat} {z ez:Value} {ed:TypeDesc}
  [hx:Ev e x v] [hL:HasSl Γ v α ic L] [hi:Ev e ix (.int kk j)] [hk:NatI j k] [hT:Ty P ty (.slice el) sz by_ z] [hE:Ty P el ed es eb ez] (hd:Nat.blt d n.s=true) (hes:es=Cell.sz α) (h:k < L.length)
  (K:∀ b o y,JO P n w0 F ops (i+1) os Q ((d, .pointer (some ⟨b,o,none⟩))::e) (.st (ro b o (Cell.cells (L[k]'h) y))::((Cell.facts (L[k]'h) y).map Fact.st++Γ))) :
  JR P n w0 F ops i ⟨some d, .indexAddr ty x ix,t,pos,aft,g⟩ os Q e Γ :=
 JR.value hd fun a w fr ho=>by
  obtain ⟨a0,c,rfl,h1,h2,h3,h4⟩:=hL.holds ho
  obtain ⟨b,off,rfl,hb,hlt,hrow⟩:=h4 (by intro h; subst h; simp at h)
  obtain ⟨y,hy,hf⟩:=hrow k h
  have e1:=Xaz (P:=P) (t:=ty) w
  have e2:=Xbg (P:=P) (t:=el) w
  have hj:=hk.ok
  subst hj
  refine ⟨.pointer (some ⟨b,off+k * es,none⟩),w,_,?_,?_,K b (off+k * es) y⟩
  ·simp [execOp,hx.ok n a fr,hi.ok n a fr,Instr.indexAt,asIntOf,e1,e2,h,Addr.add_mid]
  ·have key:∀ (As:List Asn),(∀ A∈As,A.holds (fp w0 F Γ) w)→Hold w0 F (As.map Fact.st++Γ) w:=by
    intro As
    induction As with
    | nil=>exact fun _=>ho
    | cons A As ih =>
     intro hA
     refine (ih (fun B hB=>hA B (by simp [hB]))).add (A.mono _ _ _ (fun k hk=>⟨hk.1,Xcn.2 ⟨fun f hf=>?_,hk.2⟩⟩) (hA A (by simp)))
     simp only [List.mem_map] at hf
     obtain ⟨B,_,rfl⟩:=hf
     exact fun h=>h
   refine (key _ hf).add ⟨⟨hb.1,Xcn.2 ⟨fun f hf=>?_,hb.2⟩⟩,hlt,?_⟩
   ·simp only [List.mem_map] at hf
    obtain ⟨B,_,rfl⟩:=hf
    exact fun h=>h
   ·subst hes; exact hy
theorem Xe3 [Dr] {α:Type} [Cell α] {w:World} {Δ:List Fact} {a0:Option Addr} {c0:Nat} {el ty:TypeId} {L:List α} {ed:TypeDesc} {sz by_ es eb:Nat} {z ez:Value} {ecs:List Value} {ad:Addr} {m c1:Nat}
  (ho:Hold w0 F (.res (buf a0 c0 el L)::Δ) w) (r':List (α × Cell.Ix α)) (hr':∀ j u,(flat r')[j]? = some u→w.cell? (ad.add j)=some u) (hone:∀ u∈flat r',u.oneCell'=true) (hm:r'.length=m)
  (hfac:∀ p∈r',∀ A∈Cell.facts p.1 p.2,A.holds (fp w0 F (.res (buf a0 c0 el L)::Δ)) w)
  [hT:Ty P ty (.slice el) sz by_ z] [hE:Ty P el ed es eb ez] [hz:Cel ez ecs] (hes:es=Cell.sz α∧ecs.length=es∧eb≤4096) (hl:L.length+m≤34359738368) :
  ∃ a1 k1 w',(Builtin.append_ #[ty,ty] t #[.slice a0 L.length c0, .slice (some ad) m c1]).run P w = .ok (.slice a1 (L++r'.map (·.1)).length k1) w'∧Hold w0 F (.res (buf a1 k1 el (L++r'.map (·.1)))::Δ) w':=by
 obtain ⟨h0,q,hq,hown,hfacts⟩:(buf a0 c0 el L).holds _ w:=ho.sat (.res (buf a0 c0 el L)) (by simp)
 obtain ⟨ti,hti,hti1,hti2,hti3⟩:=hE.some
 have hqL:q.length=L.length:=by rw [← hq]; simp
 have hlen:(L++r'.map (·.1)).length=L.length+m:=by simp [hm]
 have hmap:(q++r').map (·.1)=L++r'.map (·.1):=by simp [hq]
 have hflat:flat (q++r')=flat q++flat r':=Xjr q r'
 have hfl:(flat r').length=m * ti.size:=by rw [Xbf,hm,hti1,hes.1]
 have hflq:(flat q).length=L.length * ti.size:=by rw [Xbf,hqL,hti1,hes.1]
 have hb48:(L.length+m) * ti.bytes≤140737488355328:=by rw [hti2]; have:=Nat.mul_le_mul hl hes.2.2; omega
 have hzs:ez.cells.size=ti.size:=by rw [Xbt (v:=ez) (cs:=ecs),hti1]; simpa using hes.2.1
 have hsz1:ti.size=Cell.sz α:=by rw [hti1,hes.1]
 have grown:∀ (old:Nat),old < L.length+m →
   Hold w0 F (.res (buf (some ⟨w.heap.size,0,none⟩) (grownCap w (L.length+m) old el) el (L++r'.map (·.1)))::Δ)
    (w.drew.alloc (.cells ((flat q).toArray++(flat r').toArray++Builtin.zeroCells ez.cells (grownCap w (L.length+m) old el - (L.length+m))) el)):=by
  intro old hold
  have hge:=grownCap_ge w (L.length+m) old el
  have hcm:grownCap w (L.length+m) old el≤maxLen:=grownCap_le_maxLen w (L.length+m) old el (by simp only [maxLen]; omega)
  have hbel:Bel w.heap.size w (w.drew.alloc (.cells ((flat q).toArray++(flat r').toArray++Builtin.zeroCells ez.cells (grownCap w (L.length+m) old el - (L.length+m))) el)) :=
   ((Bel.refl _ _).drew).alloc (Nat.le_refl _) _
  refine ho.tail.call (B:=[.res (buf (some ⟨w.heap.size,0,none⟩) (grownCap w (L.length+m) old el) el (L++r'.map (·.1)))]) hbel ⟨fun f hf=>?_,by simp,fun f hf k hk=>?_⟩
  ·simp only [List.mem_singleton] at hf; subst hf
   refine ⟨by rw [hlen]; simp only [lim]; omega,q++r',hmap,⟨by rw [Xbf,hlen]; simp [hqL,hm], .inr ⟨w.heap.size,_,_,rfl,Nat.zero_le _,heap_alloc_new w.drew _,by rw [hlen]; exact hge,hcm,?_,?_⟩⟩,fun p hp A hA=>?_⟩
   ·simp only [Array.size_append,List.size_toArray,size_zeroCells,hzs,hfl,hflq,← Nat.add_mul,← hsz1]
    congr 1
    omega
   ·simp only [Array.toList_append,List.append_assoc,hflat]
    rw [← List.append_assoc,hlen]
    exact List.take_left' (by rw [List.length_append,hfl,hflq,← Nat.add_mul,hsz1])
   ·have hA':A.holds (fp w0 F (.res (buf a0 c0 el L)::Δ)) w:=by
     rcases List.mem_append.1 hp with hp | hp
     ·exact hfacts p hp A hA
     ·exact hfac p hp A hA
    refine Fact.sat_keep (f:=.st A) hA' (fun k hk hlt=>⟨.inl ⟨hk.1,fun f hf=>hk.2 f (by simp [hf])⟩,fun f hf=>?_⟩) (fun k hlt _=>hbel.block k hlt)
    simp only [List.mem_singleton] at hf; subst hf
    rintro ⟨a',ha',rfl⟩
    injection ha' with ha'
    subst ha'
    simp at hlt
  ·simp only [List.mem_singleton] at hf; subst hf
   obtain ⟨a',ha',rfl⟩:=hk
   injection ha' with ha'
   subst ha'
   exact Nat.le_refl _
 rcases hown.2 with ⟨hv,hn⟩ | ⟨gb,cap,cur,hv,_,hg,hnc,hcm,hcs,htake⟩
 ·injection hv with e1 e2 e3
  subst e1 e3
  have hL0:L=[]:=List.eq_nil_of_length_eq_zero hn
  subst hL0
  have hq0:q=[]:=List.eq_nil_of_length_eq_zero (by simpa using hqL)
  subst hq0
  by_cases h0m:m=0
  ·subst h0m
   have hr0:r'=[]:=List.eq_nil_of_length_eq_zero hm
   subst hr0
   refine ⟨none,0,w,?_,ho⟩
   simp [Builtin.append_,run_underlying hT.und,sizeOf,typeInfo,hti,Builtin.lenOf,Builtin.firstCells,loadCells,loadCellsFrom]
  ·have hr:=run_append_nil (P:=P) w ty t el ti ez hT.und hti hti3 ad m c1 (flat r') hfl hr' (by omega) (by omega) (by simp at hb48; omega)
   have hgr:=grown 0 (by simp; omega)
   refine ⟨some ⟨w.heap.size,0,none⟩,grownCap w m 0 el,(w.drew.alloc (.cells ((flat r').toArray++Builtin.zeroCells ez.cells (grownCap w m 0 el - m)) el)),?_,?_⟩
   ·rw [show ([]++List.map (fun x=>x.1) r':List α).length=m by simp [hm]]; exact hr
   ·simpa [flat] using hgr
 ·injection hv with e1 e2 e3
  subst e1 e3
  by_cases hroom:L.length+m≤c0
  ·have hfit:L.length * ti.size+(flat r').length≤cur.size:=by rw [hfl,hcs,← Nat.add_mul,hsz1]; exact Nat.mul_le_mul_right _ hroom
   have hr:=run_append_room (P:=P) w ty t el ti hT.und hti gb L.length c0 cur hg ad m c1 (flat r') hfl hr' hone hroom hfit
   refine ⟨some ⟨gb,0,none⟩,c0,_,by rw [hlen]; exact hr,?_⟩
   have howns:∀ (X:List α) k,(buf (some ⟨gb,0,none⟩) c0 el X).owns k↔k=gb:=by
    intro X k
    constructor
    ·rintro ⟨a',ha',rfl⟩; injection ha' with ha'; subst ha'; rfl
    ·rintro rfl; exact ⟨_,rfl,rfl⟩
   have hheap:∀ k,k≠gb→(w.setRow gb (cur.toList.take (L.length * ti.size)++flat r'++cur.toList.drop (L.length * ti.size+(flat r').length)).toArray).heap[k]? = w.heap[k]?:=fun k hk=>by
    simp only [World.setRow,Array.getElem?_modify]; rw [if_neg (by omega)]
   refine ho.swap (b:=gb) (howns L) (howns _) rfl rfl rfl (by simp) hheap ?_
   refine ⟨by rw [hlen]; simp only [lim]; omega,q++r',hmap,⟨by rw [Xbf,hlen]; simp [hqL,hm], .inr ⟨gb,c0,_,rfl,Nat.zero_le _,setRow_heap w gb cur _ el _ hg,by rw [hlen]; exact hroom,hcm,?_,?_⟩⟩,fun p hp A hA=>?_⟩
   ·simp only [List.size_toArray,List.length_append,List.length_take,List.length_drop,Array.length_toList]
    omega
   ·rw [hflat,← htake,hlen,← hsz1]
    simp only []
    refine List.take_left' ?_
    have e9:cur.toList.length=cur.size:=by simp
    rw [List.length_append,List.length_take,hfl,Nat.add_mul]
    omega
   ·have hA':A.holds (fp w0 F (.res (buf (some ⟨gb,0,none⟩) c0 el L)::Δ)) w:=by
     rcases List.mem_append.1 hp with hp | hp
     ·exact hfacts p hp A hA
     ·exact hfac p hp A hA
    refine Fact.sat_keep (f:=.st A) hA' (fun k hk hlt=>⟨hk.1,fun f hf=>?_⟩) (fun k hlt hk=>?_)
    ·rcases List.mem_cons.1 hf with rfl | hf
     ·exact fun h=>hk.2 (.res (buf (some ⟨gb,0,none⟩) c0 el L)) (by simp) ((howns L k).2 ((howns _ k).1 h))
     ·exact hk.2 f (by simp [hf])
    ·have hk':=hk.resolve_right (by simp [Fact.owns])
     exact hheap k (fun e=>hk'.2 (.res (buf (some ⟨gb,0,none⟩) c0 el L)) (by simp) ((howns L k).2 e))
  ·have holds:∀ j u,(flat q)[j]? = some u→w.cell? ((⟨gb,0,none⟩:Addr).add j)=some u:=by
    intro j u hu
    rw [Addr.add_mid,Nat.zero_add,cell_of_row w gb j cur el _ hg]
    rw [← htake,List.getElem?_take] at hu
    split at hu
    ·simpa using hu
    ·cases hu
   have hr:=run_append_grow (P:=P) w ty t el ti ez hT.und hti hti3 ⟨gb,0,none⟩ L.length c0 (flat q) hflq holds ad m c1 (flat r') hfl hr' (by omega) (by omega) (growslice_fits (by omega) hb48)
   refine ⟨some ⟨w.heap.size,0,none⟩,grownCap w (L.length+m) c0 el,_,?_,grown c0 (by omega)⟩
   rw [hlen]; exact hr
theorem Xap [Dr] {α:Type} [ic:Cell α] {x y:Operand} {v:Value} {L:List α} {u:α} {el ty:TypeId} {ed:TypeDesc} {sz by_ es eb:Nat} {z ez:Value} {ecs:List Value} {b o o' r c1:Nat} {vs cs:List Value} {Δ:List Fact}
  [hx:Ev e x v] [hB:HasBuf Γ v α ic el L Δ] [hy:Ev e y (.slice (some ⟨b,o,none⟩) 1 c1)] [hA:At Γ b o' vs] [hS:Ab.Sum o o' r] [hT:Ty P ty (.slice el) sz by_ z] [hE:Ty P el ed es eb ez] [hz:Cel ez ecs]
  [hs:Seg vs r es cs] [hu:Typed Δ cs u] [h1:One cs] (hd:Nat.blt d n.s=true) (hes:es=Cell.sz α∧ecs.length=es∧eb≤4096) (hl:L.length < 34359738368)
  (K:∀ a c,JO P n w0 F ops (i+1) os Q ((d, .slice a (L++[u]).length c)::e) (.res (buf a c el (L++[u]))::Δ)) :
  JR P n w0 F ops i ⟨some d, .call ⟨.builtin .append,#[x,y],#[ty,ty]⟩,t,pos,aft,g⟩ os Q e Γ :=
 JR.value hd fun a w fr ho=>by
  obtain ⟨a0,c0,rfl,hperm⟩:=hB.ok
  have ho':=ho.perm hperm
  obtain ⟨yy,hcs,hyy⟩:=hu.ok
  have hr1:=Xco (hA.ok w0 F w ho) hs.ok.1
  rw [← hS.ok] at hr1
  have hfl:flat [(u,yy)]=cs:=by simp [flat,hcs]
  obtain ⟨a1,k1,w',hrun,hw'⟩:=Xe3 (P:=P) (t:=t) (ty:=ty) (ad:=⟨b,o,none⟩) (m:=1) (c1:=c1) ho' [(u,yy)] (fun j v hv=>by rw [Addr.add_mid]; exact hr1 j v (by rwa [hfl] at hv)) (by rw [hfl]; exact h1.ok) rfl
   (fun p hp A hA=>by simp only [List.mem_singleton] at hp; subst hp; exact ho'.sat (.st A) (List.mem_cons_of_mem _ (hyy A hA))) hes (by omega)
  refine ⟨_,w',_,?_,hw',K a1 k1⟩
  simp [execOp,Xag,invoke,builtin,hx.ok n a fr,hy.ok n a fr] at hrun ⊢
  simp [hrun]
end
def Gives [Dr] (P:Program) (f:FuncId) (args:List Value) (w:World) (F:Nat→Prop) {Y:Type} (v:Y→Value) (B:Y→List Fact):Prop :=
 Calls P f ⟨args⟩ w fun x w'=>∃ y,x = .returned (v y)∧Bel w.heap.size w w'∧Fresh w.heap.size F (B y) w'
theorem Gives.mono [Dr] {P:Program} {f:FuncId} {args:List Value} {w:World} {F:Nat→Prop} {Y Z:Type} {v:Y→Value} {B:Y→List Fact} {v':Z→Value} {B':Z→List Fact} (h:Gives P f args w F v B) (m:Y→Z)
  (hv:∀ y,v y=v' (m y)) (hB:∀ y w',Fresh w.heap.size F (B y) w'→Fresh w.heap.size F (B' (m y)) w'):Gives P f args w F v' B' :=
 Calls.mono h fun x w' ⟨y,hx,hb,hf⟩=>⟨m y,by rw [hx,hv],hb,hB y w' hf⟩
class Body (P:Program) (f:FuncId):Prop where
 ok:∀ args w,(callFunc f args).run P w = .ok (.enter f args) w
theorem Body.of {P:Program} {f:FuncId} {fn:Func} (hf:P.funcs[f]? = some fn) (hn:(fn.name == "runtime.NumGoroutine")=false) (hb:fn.body.isNone=false):Body P f :=
 ⟨fun args w=>by
  simp only [callFunc,Sem.run_bind,run_program,Result.andThen_ok,hf]
  simp only [hn,hb,Bool.false_eq_true,if_false]
  rfl⟩
theorem bO {P:Program} {f:FuncId} {fn:Func} (hf:P.funcs[f]? = some fn) (hn:(fn.name == "runtime.NumGoroutine")=false:=by kernel_rfl) (hb:fn.body.isNone=false:=by kernel_rfl):Body P f:=Body.of hf hn hb
class Fun (e:E) (x:Operand) (f:outParam FuncId) (caps:outParam (List Value)):Prop where
 ok:∀ n a,Fr n e a→a.eval x = .func (.func f) #[] ⟨caps⟩
instance (priority:=1000) {e:E} {f:FuncId}:Fun e (.func f) f []:=⟨fun _ _ _=>rfl⟩
instance (priority:=100) {e:E} {t:Nat} {f:FuncId} {caps:List Value} [h:Lk e t (.func (.func f) ⟨[]⟩ ⟨caps⟩)]:Fun e (.tmp t) f caps :=
 ⟨fun n a fr=>(Ev.mk (v:=.func (.func f) ⟨[]⟩ ⟨caps⟩) (fun n a fr=>by
  have:=fr.slot t _ h.ok
  simp [Act.eval,Array.getD_eq_getD_getElem?,this]):Ev e (.tmp t) _).ok n a fr⟩
class App (xs ys:List Value) (r:outParam (List Value)):Prop where
 ok:xs++ys=r
instance {ys:List Value}:App [] ys ys:=⟨rfl⟩
instance {x:Value} {xs ys r:List Value} [h:App xs ys r]:App (x::xs) ys (x::r):=⟨by simp [h.ok]⟩
theorem Xgz {P:Program} {ρ:Operand→Value} {w:World} {f:Operand} {fid:FuncId} {caps:List Value} {args:Array Operand} {ats:Array TypeId} {ty:TypeId} (h:ρ f = .func (.func fid) #[] ⟨caps⟩) :
  (resolve ρ ⟨.value f,args,ats⟩ ty).run P w = .ok ⟨.fn (.func fid) ⟨caps⟩,args.map ρ⟩ w:=by
 simp [resolve,h,Deferred.ofValue]
section
variable {P:Program} {n:Nn} {w0:World} {F:Nat→Prop} {ops:Array Oper} {i d:Nat} {t:TypeId} {pos:String} {aft:Array Edge} {g:Option (Nat × Bool)} {os:List Oper} {Q:Cont} {e:E} {Γ:List Fact}
theorem Xf6 {a:Act} {w:World} {f:Operand} {args ats:Array _} {fid:FuncId} {caps vs us:List Value} {dst:Option Nat} (fr:Fr n e a) (hf:Fun e f fid caps) (hv:ArgVs e args.toList vs) (hu:App vs caps us) (hb:Body P fid) :
  (execOp a.eval ⟨dst, .call ⟨.value f,args,ats⟩,t,pos,aft,g⟩).run P w = .ok (.enter fid ⟨us⟩) w:=by
 have e1:=hf.ok n a fr
 have e2:args.map a.eval=⟨vs⟩:=by apply Array.ext'; simp [hv.ok n a fr]
 have e3:(⟨vs⟩:Array Value)++(⟨caps⟩:Array Value)=⟨us⟩:=by apply Array.ext'; simp [← hu.ok]
 simp only [execOp,Sem.run_bind,Xgz e1,Result.andThen_ok,invoke,e2,e3,hb.ok]
end
section
variable {P:Program} {n:Nn} {w0:World} {F:Nat→Prop} {ops:Array Oper} {i d:Nat} {t:TypeId} {pos:String} {aft:Array Edge} {g:Option (Nat × Bool)} {os:List Oper} {Q:Cont} {e:E} {Γ:List Fact} [Dr]
theorem JR.call {f:Operand} {args:Array Operand} {ats:Array TypeId} {fid:FuncId} {caps vs us:List Value} {Y:Type} {v:Y→Value} {B:Y→List Fact}
  [hf:Fun e f fid caps] [hv:ArgVs e args.toList vs] [hu:App vs caps us] [hb:Body P fid] (hd:Nat.blt d n.s=true)
  (hg:∀ w,Hold w0 F Γ w→Gives P fid us w (fp w0 F Γ) v B) (k:∀ y,JO P n w0 F ops (i+1) os Q ((d,v y)::e) (B y++Γ)) :
  JR P n w0 F ops i ⟨some d, .call ⟨.value f,args,ats⟩,t,pos,aft,g⟩ os Q e Γ:=by
 intro hdr a w fr ho
 unfold Oper.wp
 rw [Xf6 fr hf hv hu hb]
 refine Calls.mono (hg w ho) ?_
 rintro x w' ⟨y,rfl,hbel,hfr⟩
 exact k y (Xdm hdr).2 _ w' (fr.put hd _) (ho.call hbel hfr)
abbrev GivesV (P:Program) (f:FuncId) (args:List Value) (w:World) (F:Nat→Prop) (v:Value):Prop:=Gives P f args w F (fun _:Unit=>v) (fun _=>[])
abbrev Xcp {α:Type} [Cell α] (P:Program) (f:FuncId) (args:List Value) (w:World) (F:Nat→Prop) (L:List α):Prop :=
 Gives P f args w F (fun y:Option Addr × Nat=>.slice y.1 L.length y.2) (fun y=>[.st (sl y.1 y.2 L)])
abbrev GivesBuf {α:Type} [Cell α] (P:Program) (f:FuncId) (args:List Value) (w:World) (F:Nat→Prop) (el:TypeId) (L:List α):Prop :=
 Gives P f args w F (fun y:Option Addr × Nat=>.slice y.1 L.length y.2) (fun y=>[.res (buf y.1 y.2 el L)])
abbrev Xi8 {α:Type} [Cell α] (P:Program) (f:FuncId) (args:List Value) (w:World) (F:Nat→Prop) (L:List α) (vs:List Value):Prop :=
 Gives P f args w F (fun y:Option Addr × Nat=>.tuple ⟨.slice y.1 L.length y.2::vs⟩) (fun y=>[.st (sl y.1 y.2 L)])
end
section
variable {P:Program} {n:Nn} {w0:World} {F:Nat→Prop} {ops:Array Oper} {i d:Nat} {t:TypeId} {pos:String} {aft:Array Edge} {g:Option (Nat × Bool)} {os:List Oper} {Q:Cont} {e:E} {Γ:List Fact}
theorem Fresh.pub {α:Type} [Cell α] {m:Nat} {G:Nat→Prop} {a:Option Addr} {c:Nat} {el:TypeId} {L:List α} {w:World} (h:Fresh m G [.res (buf a c el L)] w) (hm:m≤w.heap.size):Fresh m G [.st (sl a c L)] w:=by
 refine ⟨fun f hf=>?_,by simp,fun f hf k hk=>?_⟩
 ·simp only [List.mem_singleton] at hf; subst hf
  obtain ⟨h0,r,h1,h2,h3⟩:(buf a c el L).holds _ w:=h.sat (.res (buf a c el L)) (by simp)
  have hnew:=h.new (.res (buf a c el L)) (by simp)
  have hfree:∀ k,free [.st (sl a c L)] k:=fun k f hf=>by
   simp only [List.mem_singleton] at hf; subst hf; exact fun h=>h
  have hL:r.length=L.length:=by rw [← h1]; simp
  rcases h2.2 with ⟨hv,hn⟩ | ⟨g,cap,cur,hv,hb,hg,hc1,hc2,hc3,hc4⟩
  ·injection hv with e1 e2 e3
   exact ⟨by omega,by subst e3; simp [maxLen],h0,fun hne=>(hne (List.eq_nil_of_length_eq_zero hn)).elim⟩
  ·injection hv with e1 e2 e3
   subst e1 e3
   refine ⟨hc1,hc2,h0,fun hne=>⟨g,0,rfl,⟨.inr (hnew g ⟨_,rfl,rfl⟩),hfree g⟩,(Array.getElem?_eq_some_iff.1 hg).1,fun i hi=>?_⟩⟩
   have hir:i < r.length:=by omega
   have hx:L[i]=r[i].1:=by simp [← h1]
   rw [hx]
   refine ⟨r[i].2,fun j v hv=>?_,fun A hA=>A.mono _ _ _ (fun k hk'=>⟨hk'.1,hfree k⟩) (h3 _ (List.getElem_mem hir) A hA)⟩
   have h5:=Xjs r i hir j v hv
   rw [cell_of_row w g _ cur el _ hg]
   rw [← hc4,List.getElem?_take] at h5
   split at h5
   ·simpa using h5
   ·cases h5
 ·simp only [List.mem_singleton] at hf; subst hf; exact hk.elim
end
section
variable {P:Program} {n:Nn} {w0:World} {F:Nat→Prop} {ops:Array Oper} {i d:Nat} {t:TypeId} {pos:String} {aft:Array Edge} {g:Option (Nat × Bool)} {os:List Oper} {Q:Cont} {e:E} {Γ:List Fact} [Dr]
theorem GivesBuf.sl {α:Type} [Cell α] {f:FuncId} {args:List Value} {w:World} {G:Nat→Prop} {el:TypeId} {L:List α} (h:GivesBuf P f args w G el L):Xcp P f args w G L :=
 Calls.mono h fun x w' ⟨y,hx,hb,hf⟩=>⟨y,hx,hb,hf.pub hb.size⟩
theorem JR.callV {f:Operand} {args:Array Operand} {ats:Array TypeId} {fid:FuncId} {caps vs us:List Value} {v:Value}
  [hf:Fun e f fid caps] [hv:ArgVs e args.toList vs] [hu:App vs caps us] [hb:Body P fid] (hd:Nat.blt d n.s=true)
  (hg:∀ w,Hold w0 F Γ w→GivesV P fid us w (fp w0 F Γ) v) (k:JO P n w0 F ops (i+1) os Q ((d,v)::e) Γ):JR P n w0 F ops i ⟨some d, .call ⟨.value f,args,ats⟩,t,pos,aft,g⟩ os Q e Γ :=
 JR.call hd hg fun _=>k
theorem JR.callSl {α:Type} [Cell α] {L:List α} {f:Operand} {args:Array Operand} {ats:Array TypeId} {fid:FuncId} {caps vs us:List Value}
  [hf:Fun e f fid caps] [hv:ArgVs e args.toList vs] [hu:App vs caps us] [hb:Body P fid] (hd:Nat.blt d n.s=true)
  (hg:∀ w,Hold w0 F Γ w→Xcp P fid us w (fp w0 F Γ) L) (k:∀ a c,JO P n w0 F ops (i+1) os Q ((d, .slice a L.length c)::e) (.st (sl a c L)::Γ)):JR P n w0 F ops i ⟨some d, .call ⟨.value f,args,ats⟩,t,pos,aft,g⟩ os Q e Γ :=
 JR.call hd hg fun y=>k y.1 y.2
theorem Xlw {α:Type} [Cell α] {L:List α} {us':List Value} {f:Operand} {args:Array Operand} {ats:Array TypeId} {fid:FuncId} {caps vs us:List Value}
  [hf:Fun e f fid caps] [hv:ArgVs e args.toList vs] [hu:App vs caps us] [hb:Body P fid] (hd:Nat.blt d n.s=true)
  (hg:∀ w,Hold w0 F Γ w→Xi8 P fid us w (fp w0 F Γ) L us') (k:∀ a c,JO P n w0 F ops (i+1) os Q ((d, .tuple ⟨.slice a L.length c::us'⟩)::e) (.st (sl a c L)::Γ)):JR P n w0 F ops i ⟨some d, .call ⟨.value f,args,ats⟩,t,pos,aft,g⟩ os Q e Γ :=
 JR.call hd hg fun y=>k y.1 y.2
theorem JR.callBuf {α:Type} [Cell α] {L:List α} {el:TypeId} {f:Operand} {args:Array Operand} {ats:Array TypeId} {fid:FuncId} {caps vs us:List Value}
  [hf:Fun e f fid caps] [hv:ArgVs e args.toList vs] [hu:App vs caps us] [hb:Body P fid] (hd:Nat.blt d n.s=true)
  (hg:∀ w,Hold w0 F Γ w→GivesBuf P fid us w (fp w0 F Γ) el L) (k:∀ a c,JO P n w0 F ops (i+1) os Q ((d, .slice a L.length c)::e) (.res (buf a c el L)::Γ)):JR P n w0 F ops i ⟨some d, .call ⟨.value f,args,ats⟩,t,pos,aft,g⟩ os Q e Γ :=
 JR.call hd hg fun y=>k y.1 y.2
theorem Xax {f:Operand} {args:Array Operand} {ats:Array TypeId} {fid:FuncId} {caps vs us:List Value} {Y:Type} {v:Y→Value} {B:Y→List Fact}
  [hf:Fun e f fid caps] [hv:ArgVs e args.toList vs] [hu:App vs caps us] [hb:Body P fid] (hd:Nat.blt d n.s=true)
  (hg:∀ w,Hold w0 F Γ w→Calls P fid ⟨us⟩ w fun x w'=>∃ y,x = .returned (v y)∧Hold w0 F (B y) w') (k:∀ y,JO P n w0 F ops (i+1) os Q ((d,v y)::e) (B y)) :
  JR P n w0 F ops i ⟨some d, .call ⟨.value f,args,ats⟩,t,pos,aft,g⟩ os Q e Γ:=by
 intro hdr a w fr ho
 unfold Oper.wp
 rw [Xf6 fr hf hv hu hb]
 refine Calls.mono (hg w ho) ?_
 rintro x w' ⟨y,rfl,ho'⟩
 exact k y (Xdm hdr).2 _ w' (fr.put hd _) ho'
def enum:Nat→List Value→E
 | _,[]=>[]
 | k,v::vs=>(k,v)::enum (k+1) vs
instance {k t:Nat} {v u:Value} {vs:List Value} [h:Lk ((k,v)::enum (k+1) vs) t u]:Lk (enum k (v::vs)) t u:=⟨h.ok⟩
end
section
variable {P:Program} {n:Nn} {w0:World} {F:Nat→Prop} {ops:Array Oper} {i d:Nat} {t:TypeId} {pos:String} {aft:Array Edge} {g:Option (Nat × Bool)} {os:List Oper} {Q:Cont} {e:E} {Γ:List Fact}
theorem Xn2:∀ (vs:List Value) (k i:Nat) (v:Value),look (enum k vs) i=some v→k≤i∧vs[i - k]? = some v
 | [],k,i,v,h=>by simp [enum,look] at h
 | u::vs,k,i,v,h=>by
  simp only [enum,look] at h
  cases hb:Nat.beq k i with
  | true =>
   rw [hb] at h
   have:=Nat.eq_of_beq_eq_true hb
   subst this
   simp only [cond_true,Option.some.injEq] at h
   subst h
   simp
  | false =>
   rw [hb] at h
   have h1:=Xn2 vs (k+1) i v h
   refine ⟨by omega,?_⟩
   rw [show i - k=(i - (k+1))+1 by omega]
   simpa using h1.2
theorem Fr.start {m:Nat} {args:List Value} (h:Nat.ble args.length m=true):Fr ⟨m,[]⟩ (enum 0 args) { tmps:=(⟨args⟩:Array Value)++Array.replicate (m - (⟨args⟩:Array Value).size) undef,defers:=[] }:=by
 have h':=Nat.le_of_ble_eq_true h
 refine ⟨rfl,by simp; omega,fun i v hv=>?_⟩
 have:=(Xn2 args 0 i v hv).2
 rw [Nat.sub_zero] at this
 have hlt:=(List.getElem?_eq_some_iff.1 this).1
 rw [Array.getElem?_append_left (by simpa using hlt)]
 simpa using this
end
section
variable {P:Program} {n:Nn} {w0:World} {F:Nat→Prop} {ops:Array Oper} {i d:Nat} {t:TypeId} {pos:String} {aft:Array Edge} {g:Option (Nat × Bool)} {os:List Oper} {Q:Cont} {e:E} {Γ:List Fact} [Dr]
def Xlx (tmps:Array Value):ResultVar→Sem Value
 | .tmp t=>pure (tmps.getD t undef)
 | .cell p t=>do loadVar t (← asAddr (tmps.getD p undef))
end
section
variable {P:Program} {n:Nn} {w0:World} {F:Nat→Prop} {ops:Array Oper} {i d:Nat} {t:TypeId} {pos:String} {aft:Array Edge} {g:Option (Nat × Bool)} {os:List Oper} {Q:Cont} {e:E} {Γ:List Fact}
theorem Xsh (fn:Func) (tmps:Array Value):results fn tmps=(do let vs ← fn.results.mapM (Xlx tmps); pure (if h:vs.size=1 then vs[0] else .tuple vs)):=by
 rfl
end
section
variable {P:Program} {n:Nn} {w0:World} {F:Nat→Prop} {ops:Array Oper} {i d:Nat} {t:TypeId} {pos:String} {aft:Array Edge} {g:Option (Nat × Bool)} {os:List Oper} {Q:Cont} {e:E} {Γ:List Fact} [Dr]
class ResVs (P:Program) (e:E) (Γ:List Fact) (rs:List ResultVar) (vs:outParam (List Value)):Prop where
 ok:∀ n a w w0 F,Fr n e a→Hold w0 F Γ w→(rs.mapM (Xlx a.tmps)).run P w = .ok vs w
instance {P:Program} {e:E} {Γ:List Fact}:ResVs P e Γ [] []:=⟨fun _ _ _ _ _ _ _=>rfl⟩
instance {P:Program} {e:E} {Γ:List Fact} {t:Nat} {v:Value} {rs:List ResultVar} {vs:List Value} [h:Lk e t v] [k:ResVs P e Γ rs vs]:ResVs P e Γ (.tmp t::rs) (v::vs) :=
 ⟨fun n a w w0 F fr ho=>by
  have h1:=fr.slot t v h.ok
  have h2:=k.ok n a w w0 F fr ho
  have h3:(Xlx a.tmps (.tmp t)).run P w = .ok v w:=by simp [Xlx,Array.getD_eq_getD_getElem?,h1]
  simp only [List.mapM_cons,Sem.run_bind,Sem.run_pure,Result.andThen_ok,h2,h3]⟩
instance {P:Program} {e:E} {Γ:List Fact} {t p b o o' r sz by_:Nat} {td:TypeDesc} {z v:Value} {vs0 cs:List Value} {rs:List ResultVar} {vs:List Value}
  [h:Lk e p (.pointer (some ⟨b,o,none⟩))] [hA:At Γ b o' vs0] [hS:Sum o o' r] [hT:Ty P t td sz by_ z] [hs:Seg vs0 r sz cs] [hv:Val td cs v] [k:ResVs P e Γ rs vs]:ResVs P e Γ (.cell p t::rs) (v::vs) :=
 ⟨fun n a w w0 F fr ho=>by
  have h1:=fr.slot p _ h.ok
  have h2:=k.ok n a w w0 F fr ho
  have h3:=Xco (hA.ok w0 F w ho) hs.ok.1
  rw [← hS.ok] at h3
  have h4:=Xd4 (P:=P) (t:=t) (v:=v) h3 hs.ok.2
  simp only [Instr.loadAt,Instr.sureAddr,Sem.run_bind,Sem.run_pure,Result.andThen_ok] at h4
  have h5:(Xlx a.tmps (.cell p t)).run P w = .ok v w:=by
   simp only [Xlx,Array.getD_eq_getD_getElem?,h1,Option.getD_some,asAddr,Sem.run_bind,Sem.run_pure,Result.andThen_ok,h4]
  simp only [List.mapM_cons,Sem.run_bind,Sem.run_pure,Result.andThen_ok,h2,h5]⟩
def Xaf:List Value→Value
 | [v]=>v
 | vs=>.tuple ⟨vs⟩
theorem Xjt {fn:Func} {rs:List ResultVar} {vs:List Value} {a:Act} {w:World} (hr:fn.results=⟨rs⟩) (h:ResVs P e Γ rs vs) (fr:Fr n e a) (ho:Hold w0 F Γ w):(results fn a.tmps).run P w = .ok (Xaf vs) w:=by
 have h1:=h.ok n a w w0 F fr ho
 rw [Xsh,hr]
 simp only [Sem.run_bind]
 rw [Array.mapM_eq_mapM_toList]
 simp only [Sem.run_map,h1,Result.andThen_ok,Sem.run_pure]
 match vs with
 | []=>rfl
 | [v]=>rfl
 | u::v::r=>simp [Xaf]
def Xae (P:Program) (w0:World) (F:Nat→Prop) (rs:List ResultVar) {Y:Type} (v:Y→Value) (B:Y→List Fact):Cont:=fun x e Γ =>
 (x = .ret∨x = .normal)∧∃ y vs,ResVs P e Γ rs vs∧Xaf vs=v y∧∀ w,Hold w0 F Γ w→Hold w0 F (B y) w
theorem Xaa {f:FuncId} {fn:Func} {c:Code} {rs:List ResultVar} {args:List Value} {w:World} {Y:Type} {v:Y→Value} {B:Y→List Fact}
  {m:Nat} (hf:P.funcs[f]? = some fn) (hb:fn.body=some c) (hn:fn.ntmps=m) (hr:fn.results=⟨rs⟩) (hl:Nat.ble args.length m=true) (Γ:List Fact) (ho:Hold w F Γ w)
  (h:JC P ⟨m,[]⟩ w F c (Xae P w F rs v B) (enum 0 args) Γ):Gives P f args w F v B:=by
 refine calls_of_wp hf hb ?_
 rw [hn]
 refine wp_mono (h _ w (Fr.start hl) ho) ?_
 rintro x a w' ⟨e,Γ',⟨hx,y,vs,hres,hpk,hB⟩,fr,ho'⟩
 have hrun:=Xjt (P:=P) hr hres fr ho'
 have hrest:∃ v',(results fn a.tmps).run P w' = .ok v' w'∧∃ y,Ending.returned v' = .returned (v y)∧Bel w.heap.size w w'∧Fresh w.heap.size F (B y) w' :=
  ⟨_,hrun,y,by rw [hpk],ho'.below,(hB w' ho').fresh⟩
 rcases hx with rfl | rfl <;> exact ⟨fr.defers,hrest⟩
theorem Xbu {f:FuncId} {fn:Func} {c:Code} {rs:List ResultVar} {args:List Value} {w:World} {Y:Type} {v:Y→Value} {B:Y→List Fact}
  {m:Nat} (hf:P.funcs[f]? = some fn) (hb:fn.body=some c) (hn:fn.ntmps=m) (hr:fn.results=⟨rs⟩) (hl:Nat.ble args.length m=true) (Γ:List Fact) (ho:Hold w0 F Γ w)
  (h:JC P ⟨m,[]⟩ w0 F c (Xae P w0 F rs v B) (enum 0 args) Γ):Calls P f ⟨args⟩ w fun x w'=>∃ y,x = .returned (v y)∧Hold w0 F (B y) w':=by
 refine calls_of_wp hf hb ?_
 rw [hn]
 refine wp_mono (h _ w (Fr.start hl) ho) ?_
 rintro x a w' ⟨e,Γ',⟨hx,y,vs,hres,hpk,hB⟩,fr,ho'⟩
 have hrun:=Xjt (P:=P) hr hres fr ho'
 have hrest:∃ v',(results fn a.tmps).run P w' = .ok v' w'∧∃ y,Ending.returned v' = .returned (v y)∧Hold w0 F (B y) w' :=
  ⟨_,hrun,y,by rw [hpk],hB w' ho'⟩
 rcases hx with rfl | rfl <;> exact ⟨fr.defers,hrest⟩
theorem CT.done {rs:List ResultVar} {vs:List Value} {Y:Type} {v:Y→Value} {B:Y→List Fact} (y:Y) [hr:ResVs P e Γ rs vs] (hv:Xaf vs=v y) (hB:∀ w,Hold w0 F Γ w→Hold w0 F (B y) w):Xae P w0 F rs v B .ret e Γ :=
 ⟨.inl rfl,y,vs,hr,hv,hB⟩
theorem Xab {rs:List ResultVar} {vs:List Value} {Y:Type} {v:Y→Value} {B:Y→List Fact} (y:Y) [hr:ResVs P e Γ rs vs] (hv:Xaf vs=v y) [hB:Sub Γ (B y)]:Xae P w0 F rs v B .ret e Γ:=CT.done y hv fun w ho=>ho.sub hB
theorem Hold.ent {Γ':List Fact} {w:World} [h:Sub Γ Γ'] (ho:Hold w0 F Γ w):Hold w0 F Γ' w:=ho.sub h
theorem Hold.bufNil {α:Type} [Cell α] {el:TypeId} {w:World} {Γ':List Fact} [h:Sub Γ Γ'] (ho:Hold w0 F Γ w):Hold w0 F (.res (buf (α:=α) none 0 el [])::Γ') w :=
 (ho.sub h).res (fun k hk=>by obtain ⟨a,h,_⟩:=hk; cases h) buf_nil
theorem Hold.start1 {A:Asn} {w:World} {F:Nat→Prop} (h:A.holds F w):Hold w F [.st A] w :=
 (Hold.start w F).add (Asn.mono _ _ _ _ (fun k hk=>⟨.inl hk,by simp [free]⟩) h)
theorem Hold.start2 {A B:Asn} {w:World} {F:Nat→Prop} (h:A.holds F w) (h2:B.holds F w):Hold w F [.st A, .st B] w :=
 (Hold.start1 h2).add (Asn.mono _ _ _ _ (fun k hk=>⟨.inl hk,by simp [free,Fact.owns]⟩) h)
theorem Hold.start3 {A B C:Asn} {w:World} {F:Nat→Prop} (h:A.holds F w) (h2:B.holds F w) (h3:C.holds F w):Hold w F [.st A, .st B, .st C] w :=
 (Hold.start2 h2 h3).add (Asn.mono _ _ _ _ (fun k hk=>⟨.inl hk,by simp [free,Fact.owns]⟩) h)
theorem Hold.get {A:Asn} {w:World} (ho:Hold w0 F Γ w) [h:Mem A Γ]:A.holds (fp w0 F Γ) w:=ho.sat _ h.ok
theorem JC.pub {α:Type} [ic:Cell α] {c:Code} {v:Value} {el:TypeId} {L:List α} {Δ:List Fact} (s:Nat) [hs:Lk e s v] [h:HasBuf Γ v α ic el L Δ]
  (k:∀ a q,v = .slice a L.length q→JC P n w0 F c Q e (.st (sl a q L)::Δ)):JC P n w0 F c Q e Γ:=by
 obtain ⟨a,q,hv,hp⟩:=h.ok
 exact JC.more (fun w ho=>(ho.perm hp).pub) (k a q hv)
theorem JO.pub {α:Type} [ic:Cell α] {v:Value} {el:TypeId} {L:List α} {Δ:List Fact} (s:Nat) [hs:Lk e s v] [h:HasBuf Γ v α ic el L Δ]
  (k:∀ a q,v = .slice a L.length q→JO P n w0 F ops i os Q e (.st (sl a q L)::Δ)):JO P n w0 F ops i os Q e Γ:=by
 obtain ⟨a,q,hv,hp⟩:=h.ok
 exact JO.more (fun w ho=>(ho.perm hp).pub) (k a q hv)
theorem Hold.one {A:Asn} {w:World} {F:Nat→Prop} (h:A.holds F w) {Γ:List Fact} (ho:Hold w F Γ w) (hΓ:∀ f∈Γ,∀ k,¬ f.owns k):Hold w F (.st A::Γ) w :=
 ho.add (A.mono _ _ _ (fun k hk=>⟨.inl hk,fun f hf=>hΓ f hf k⟩) h)
end
section
variable {P:Program} {n:Nn} {w0:World} {F:Nat→Prop} {ops:Array Oper} {i d:Nat} {t:TypeId} {pos:String} {aft:Array Edge} {g:Option (Nat × Bool)} {os:List Oper} {Q:Cont} {e:E} {Γ:List Fact}
theorem Wa {next:E→List Fact→Prop} (h:next e Γ):andThen next Q .normal e Γ:=h
theorem Wo {next:E→List Fact→Prop} {id:Nat} (h:Q (.exit id) e Γ):andThen next Q (.exit id) e Γ:=h
theorem Wt {next:E→List Fact→Prop} (h:Q .ret e Γ):andThen next Q .ret e Γ:=h
theorem Wr {id:Nat} (h:Q .normal e Γ):inBlock id Q .normal e Γ:=h
theorem Wu {id:Nat} (h:Q .ret e Γ):inBlock id Q .ret e Γ:=h
theorem Wp {id:Nat} (h:Q .normal e Γ):inBlock id Q (.exit id) e Γ:=by simp only [inBlock,if_true]; exact h
theorem Wq {id id':Nat} (hne:Nat.beq id' id=false) (h:Q (.exit id') e Γ):inBlock id Q (.exit id') e Γ:=by
 simp only [inBlock,Nat.ne_of_beq_eq_false hne,if_false]; exact h
end
section
variable {P:Program} {n:Nn} {w0:World} {F:Nat→Prop} {ops:Array Oper} {i d:Nat} {t:TypeId} {pos:String} {aft:Array Edge} {g:Option (Nat × Bool)} {os:List Oper} {Q:Cont} {e:E} {Γ:List Fact} [Dr]
class Says (b:Bool) (p:outParam Prop):Prop where
 ok:b=true↔p
instance (priority:=1000) {p:Prop} [h:Decidable p]:Says (decide p) p:=⟨by simp⟩
instance (priority:=900) {b:Bool} {p:Prop} [h:Says b p]:Says (!b) (¬ p):=⟨by have:=h.ok; cases b <;> simp_all⟩
instance (priority:=100) {b:Bool}:Says b (b=true):=⟨Iff.rfl⟩
theorem JC.test {x y:Code} {s:Nat} {b:Bool} {p:Prop} [hc:Lk e s (.bool b)] [hp:Says b p] (ht:p→JC P n w0 F x Q e Γ) (hf:¬ p→JC P n w0 F y Q e Γ):JC P n w0 F (.cond (.tmp s) x y) Q e Γ :=
 JC.cond (t:=b) (hc:=⟨fun n a fr=>by have:=fr.slot s _ hc.ok; simp [Act.eval,Array.getD_eq_getD_getElem?,this]⟩) (fun h=>ht (hp.ok.1 h)) (fun h=>hf (fun h'=>by have:=hp.ok.2 h'; rw [h] at this; cases this))
theorem JO.test {l:List Oper} (s:Nat) {b:Bool} {p:Prop} [hc:Lk e s (.bool b)] [hp:Says b p] (ht:p→JO P n w0 F ⟨l⟩ i os Q ((s, .bool true)::e) Γ) (hf:¬ p→JO P n w0 F ⟨l⟩ i os Q ((s, .bool false)::e) Γ):JO P n w0 F ⟨l⟩ i os Q e Γ :=
 Xx1 hc.ok (fun h=>ht (hp.ok.1 h)) (fun h=>hf (fun h'=>by have:=hp.ok.2 h'; rw [h] at this; cases this))
class Ent (e:E) (Γ:List Fact) (e':E) (Γ':List Fact):Prop where
 slots:∀ n a,Fr n e a→Fr n e' a
 facts:∀ w0 F w,Hold w0 F Γ w→Hold w0 F Γ' w
class SubE (e e':E):Prop where
 ok:∀ i v,look e' i=some v→look e i=some v
instance {e:E}:SubE e []:=⟨fun i v h=>by simp [look] at h⟩
instance {e e':E} {s:Nat} {v:Value} [h:Lk e s v] [k:SubE e e']:SubE e ((s,v)::e'):=⟨fun i u hu=>by
 simp only [look] at hu
 cases hb:Nat.beq s i with
 | true =>
  rw [hb] at hu
  have:=Nat.eq_of_beq_eq_true hb
  subst this
  simp only [cond_true] at hu
  exact h.ok.trans hu
 | false=>rw [hb] at hu; exact k.ok i u hu⟩
instance {e:E} {Γ:List Fact} {e':E} {Γ':List Fact} [h:SubE e e'] [k:Sub Γ Γ']:Ent e Γ e' Γ' :=
 ⟨fun n a fr=>⟨fr.defers,fr.size,fun i v hv=>fr.slot i v (h.ok i v hv)⟩,fun w0 F w ho=>ho.sub k⟩
theorem JC.ent {c:Code} {e':E} {Γ':List Fact} (h:Ent e Γ e' Γ') (k:JC P n w0 F c Q e' Γ'):JC P n w0 F c Q e Γ :=
 fun a w fr ho=>k a w (h.slots n a fr) (h.facts w0 F w ho)
theorem Xaj {c:Code} {A:Type} (St:A→E) (Me:A→List Fact) (I:A→Prop) (μ:A→Nat) (x:A) (h0:I x) (he:Ent e Γ (St x) (Me x))
  (round:∀ x,I x→JC P n w0 F c (andThen (fun e' Γ'=>∃ y,I y∧μ y < μ x∧Ent e' Γ' (St y) (Me y)) Q) (St x) (Me x)):JC P n w0 F (.loop c) Q e Γ:=by
 refine JC.loop (ι:={ x:A // I x }) (fun i=>St i.1) (fun i=>Me i.1) (fun i=>μ i.1) ⟨x,h0⟩ (fun a fr=>he.slots n a fr) (fun w ho=>he.facts w0 F w ho) (fun i=>(round i.1 i.2).mono ?_)
 intro x e' Γ' h
 cases x <;> first | exact h | skip
 obtain ⟨y,h1,h2,h3⟩:=h
 exact ⟨⟨y,h1⟩,h2,fun a fr=>h3.slots n a fr,fun w ho=>h3.facts w0 F w ho⟩
theorem Xdt {c:Code} {A B:Type} (St:A→B→E) (Me:A→B→List Fact) (I:A→B→Prop) (μ:A→B→Nat) (x:A) (y:B) (h0:I x y) (he:Ent e Γ (St x y) (Me x y))
  (round:∀ x y,I x y→JC P n w0 F c (andThen (fun e' Γ'=>∃ x' y',I x' y'∧μ x' y' < μ x y∧Ent e' Γ' (St x' y') (Me x' y')) Q) (St x y) (Me x y)):JC P n w0 F (.loop c) Q e Γ:=by
 refine Xaj (A:=A × B) (fun p=>St p.1 p.2) (fun p=>Me p.1 p.2) (fun p=>I p.1 p.2) (fun p=>μ p.1 p.2) (x,y) h0 he (fun p h=>(round p.1 p.2 h).mono ?_)
 intro z e' Γ' h
 cases z <;> first | exact h | skip
 obtain ⟨x',y',h⟩:=h
 exact ⟨(x',y'),h⟩
theorem Xcg {c:Code} {A B C:Type} (St:A→B→C→E) (Me:A→B→C→List Fact) (I:A→B→C→Prop) (μ:A→B→C→Nat) (x:A) (y:B) (z:C) (h0:I x y z) (he:Ent e Γ (St x y z) (Me x y z))
  (round:∀ x y z,I x y z→JC P n w0 F c (andThen (fun e' Γ'=>∃ x' y' z',I x' y' z'∧μ x' y' z' < μ x y z∧Ent e' Γ' (St x' y' z') (Me x' y' z')) Q) (St x y z) (Me x y z)):JC P n w0 F (.loop c) Q e Γ:=by
 refine Xdt (B:=B × C) (fun x p=>St x p.1 p.2) (fun x p=>Me x p.1 p.2) (fun x p=>I x p.1 p.2) (fun x p=>μ x p.1 p.2) x (y,z) h0 he (fun x p h=>(round x p.1 p.2 h).mono ?_)
 intro z e' Γ' h
 cases z <;> first | exact h | skip
 obtain ⟨x',y',z',h⟩:=h
 exact ⟨x',(y',z'),h⟩
theorem Xej {c:Code} {A B C D:Type} (St:A→B→C→D→E) (Me:A→B→C→D→List Fact) (I:A→B→C→D→Prop) (μ:A→B→C→D→Nat) (x:A) (y:B) (z:C) (u:D) (h0:I x y z u) (he:Ent e Γ (St x y z u) (Me x y z u))
  (round:∀ x y z u,I x y z u→JC P n w0 F c (andThen (fun e' Γ'=>∃ x' y' z' u',I x' y' z' u'∧μ x' y' z' u' < μ x y z u∧Ent e' Γ' (St x' y' z' u') (Me x' y' z' u')) Q) (St x y z u) (Me x y z u)):JC P n w0 F (.loop c) Q e Γ:=by
 refine Xcg (C:=C × D) (fun x y p=>St x y p.1 p.2) (fun x y p=>Me x y p.1 p.2) (fun x y p=>I x y p.1 p.2) (fun x y p=>μ x y p.1 p.2) x y (z,u) h0 he (fun x y p h=>(round x y p.1 p.2 h).mono ?_)
 intro z e' Γ' h
 cases z <;> first | exact h | skip
 obtain ⟨x',y',z',u',h⟩:=h
 exact ⟨x',y',(z',u'),h⟩
def JQ (P:Program) (n:Nn) (w0:World) (F:Nat→Prop) (ops:List Oper) (os:List Oper) (K:E→Prop) (e:E) (Γ:List Fact):Prop :=
 ∀ a,Fr n e a→wpQuiet P ⟨ops⟩ (Hold w0 F Γ) (fun a=>∃ e',K e'∧Fr n e' a) os a
theorem Xbe {id:Nat} {os:List Oper} (hm:P.follows .mixedOrders=true) (hB:Region.lexB .any (⟨os⟩:Array Oper)=true) (h:JQ P n w0 F os os (fun e'=>Q .normal e' Γ) e Γ):JC P n w0 F (.region id ⟨os⟩ true) Q e Γ:=by
 intro a w fr ho
 refine wp_region_quiet (C:=Hold w0 F Γ) hm hB ho.drew ?_
 have:∀ (l:List Oper) (K K':Act→Prop) (a:Act),(∀ a,K a→K' a)→wpQuiet P ⟨os⟩ (Hold w0 F Γ) K l a→wpQuiet P ⟨os⟩ (Hold w0 F Γ) K' l a:=by
  intro l
  induction l with
  | nil=>exact fun K K' a hk h=>hk a h
  | cons o l ih =>
   intro K K' a hk h
   unfold wpQuiet at h ⊢
   split
   ·rename_i hw; rw [if_pos hw] at h; exact Oper.quiet_mono (fun a=>ih K K' a hk) h
   ·rename_i hw; rw [if_neg hw] at h; exact ih K K' _ hk h
 exact this os _ _ a (fun a ⟨e',hK,fr'⟩ w' ho'=>⟨e',Γ,hK,fr',ho'⟩) (h a fr)
theorem WB {ops:List Oper} {K:E→Prop} (h:K e):JQ P n w0 F ops [] K e Γ:=fun a fr=>⟨e,h,fr⟩
theorem Wy {ops os:List Oper} {K:E→Prop} {op:Op} {v:Value} (hg:Xbj ops e g=some true) (h:OpV P n w0 F ⟨some d,op,t,pos,aft,g⟩ e Γ v) (hd:Nat.blt d n.s=true) (k:JQ P n w0 F ops os K ((d,v)::e) Γ) :
  JQ P n w0 F ops (⟨some d,op,t,pos,aft,g⟩::os) K e Γ:=by
 intro a fr
 unfold wpQuiet
 rw [Xa9 (o:=⟨some d,op,t,pos,aft,g⟩) hg fr,if_pos rfl]
 refine ⟨v,fun w ho=>?_,k _ (fr.put hd v)⟩
 unfold Oper.quietAt
 rw [h a w fr ho]
 exact ⟨rfl,rfl⟩
theorem Wz {ops os:List Oper} {K:E→Prop} {op:Op} (hg:Xbj ops e g=some false) (hd:Nat.blt d n.s=true) (k:JQ P n w0 F ops os K ((d,undef)::e) Γ) :
  JQ P n w0 F ops (⟨some d,op,t,pos,aft,g⟩::os) K e Γ:=by
 intro a fr
 unfold wpQuiet
 rw [Xa9 (o:=⟨some d,op,t,pos,aft,g⟩) hg fr,if_neg (by decide)]
 exact k _ (fr.put hd _)
theorem JQ.call {ops os:List Oper} {K:E→Prop} {f:Operand} {args:Array Operand} {ats:Array TypeId} {fid:FuncId} {caps vs us:List Value} {v:Value}
  [hf:Fun e f fid caps] [hv:ArgVs e args.toList vs] [hu:App vs caps us] [hb:Body P fid] (hg:Xbj ops e g=some true) (hd:Nat.blt d n.s=true)
  (hc:∀ w,Hold w0 F Γ w→Gives P fid us w (fp w0 F Γ) (fun _:Unit=>v) (fun _=>[])) (k:JQ P n w0 F ops os K ((d,v)::e) Γ) :
  JQ P n w0 F ops (⟨some d, .call ⟨.value f,args,ats⟩,t,pos,aft,g⟩::os) K e Γ:=by
 intro a fr
 unfold wpQuiet
 rw [Xa9 (o:=⟨some d, .call ⟨.value f,args,ats⟩,t,pos,aft,g⟩) hg fr,if_pos rfl]
 refine ⟨v,fun w ho=>?_,k _ (fr.put hd v)⟩
 unfold Oper.quietAt
 rw [Xf6 fr hf hv hu hb]
 exact ⟨rfl,Calls.mono (hc w ho) fun x w' ⟨_,hx,hbel,_⟩=>⟨hx,ho.of_below hbel⟩⟩
end
def Xaq (b:UInt8):Value:=.int .u8 (b.toNat:Int)
instance {b:UInt8} {cs:List Value} [h:One cs]:One (Xaq b::cs):=⟨by simp [Value.oneCell',Xaq]; exact h.ok⟩
def ID:={ l:List UInt8 // l.length=32 }
instance:DecidableEq ID:=inferInstanceAs (DecidableEq { l:List UInt8 // l.length=32 })
instance:Inhabited ID:=⟨⟨List.replicate 32 0,by simp⟩⟩
def idc (a:ID):List Value:=a.1.map Xaq
theorem Xbw (a:ID):(idc a).length=32:=by simp [idc,a.2]
instance {a:ID}:Len (idc a) 32:=⟨Xbw a⟩
instance {a:ID}:One (idc a):=⟨fun v hv=>by
 simp only [idc,List.mem_map] at hv
 obtain ⟨b,_,rfl⟩:=hv
 rfl⟩
instance:Cell ID where
 Ix:=Unit
 sz:=32
 cells a _:=idc a
 facts _ _:=[]
 len a _:=Xbw a
 one a _:=One.ok (cs:=idc a)
 pos:=by decide
instance {Γ:List Fact} {a:ID}:Typed Γ (idc a) a:=⟨(),rfl,by simp [Cell.facts]⟩
instance:Cell UInt8 where
 Ix:=Unit
 sz:=1
 cells b _:=[Xaq b]
 facts _ _:=[]
 len _ _:=rfl
 one _ _:=One.ok
 pos:=by decide
instance {Γ:List Fact} {b:UInt8}:Typed Γ [Xaq b] b:=⟨(),rfl,by simp [Cell.facts]⟩
instance {Γ:List Fact} {b:UInt8}:Typed Γ [.int .u8 (b.toNat:Int)] b:=⟨(),rfl,by simp [Cell.facts]⟩
instance:Cell Int where
 Ix:=Unit
 sz:=1
 cells n _:=[.int .i64 n]
 facts _ _:=[]
 len _ _:=rfl
 one _ _:=One.ok
 pos:=by decide
instance {Γ:List Fact} {n:Int}:Typed Γ [.int .i64 n] n:=⟨(),rfl,by simp [Cell.facts]⟩
instance:Cell Bool where
 Ix:=Unit
 sz:=1
 cells b _:=[.bool b]
 facts _ _:=[]
 len _ _:=rfl
 one _ _:=One.ok
 pos:=by decide
instance {Γ:List Fact} {b:Bool}:Typed Γ [.bool b] b:=⟨(),rfl,by simp [Cell.facts]⟩
structure Ev_ where
 node:Int
 seq:Int
 deriving DecidableEq
structure Op_ where
 kind:Int
 key:ByteArray
 elem:ByteArray
 n:Int
 deriving DecidableEq
structure Commit where
 ev:Ev_
 gen:Int
 parents:List ID
 op:Op_
 deriving DecidableEq
def Xc7 (c:Commit) (a:Option Addr) (k:Nat):List Value :=
 [.int .i64 c.ev.node, .int .i64 c.ev.seq, .int .i64 c.gen, .slice a c.parents.length k, .int .i64 c.op.kind, .string c.op.key, .string c.op.elem, .int .i64 c.op.n]
theorem Xju (c:Commit) (a:Option Addr) (k:Nat):∀ v∈Xc7 c a k,v.oneCell'=true:=by
 intro v hv
 simp only [Xc7,List.mem_cons,List.not_mem_nil,or_false] at hv
 rcases hv with rfl | rfl | rfl | rfl | rfl | rfl | rfl | rfl <;> rfl
instance:Cell Commit where
 Ix:=Option Addr × Nat
 sz:=8
 cells c y:=Xc7 c y.1 y.2
 facts c y:=[sl y.1 y.2 c.parents]
 len _ _:=rfl
 one c y:=Xju c y.1 y.2
 pos:=by decide
instance {Γ:List Fact} {a b g k m:Int} {s u:ByteArray} {p:Option Addr} {q:Nat} {ps:List ID} [h:Mem (sl p q ps) Γ] :
  Typed Γ [.int .i64 a, .int .i64 b, .int .i64 g, .slice p ps.length q, .int .i64 k, .string s, .string u, .int .i64 m] (⟨⟨a,b⟩,g,ps,⟨k,s,u,m⟩⟩:Commit) :=
 ⟨(p,q),rfl,fun A hA=>by simp only [Cell.facts,List.mem_singleton] at hA; subst hA; exact h.ok⟩
theorem Xau {α:Type} [Cell α] {F:Nat→Prop} {w:World}:(sl (α:=α) none 0 []).holds F w:=⟨by simp,by simp [maxLen],by simp [lim],fun h=>(h rfl).elim⟩
section
variable {P:Program} {n:Nn} {w0:World} {F:Nat→Prop} {ops:Array Oper} {i d:Nat} {t:TypeId} {pos:String} {aft:Array Edge} {g:Option (Nat × Bool)} {os:List Oper} {Q:Cont} {e:E} {Γ:List Fact} [Dr]
theorem Xbx {x ix:Operand} {v:Value} {L:List ID} {kk:IntKind} {j:Int} {k:Nat} {ty el:TypeId} {sz by_ eb:Nat} {z ez:Value} {ed:TypeDesc}
  [hx:Ev e x v] [hL:HasSl Γ v ID iI L] [hi:Ev e ix (.int kk j)] [hk:NatI j k] [hT:Ty P ty (.slice el) sz by_ z] [hE:Ty P el ed 32 eb ez] (hd:Nat.blt d n.s=true) (h:k < L.length)
  (K:∀ b o,JO P n w0 F ops (i+1) os Q ((d, .pointer (some ⟨b,o,none⟩))::e) (.st (ro b o (idc (L[k]'h)))::Γ)) :
  JR P n w0 F ops i ⟨some d, .indexAddr ty x ix,t,pos,aft,g⟩ os Q e Γ:=JR.index hd rfl h fun b o _=>K b o
theorem Xpw {x ix:Operand} {v:Value} {L:List Int} {kk:IntKind} {j:Int} {k:Nat} {ty el:TypeId} {sz by_ eb:Nat} {z ez:Value} {ed:TypeDesc}
  [hx:Ev e x v] [hL:HasSl Γ v Int iI L] [hi:Ev e ix (.int kk j)] [hk:NatI j k] [hT:Ty P ty (.slice el) sz by_ z] [hE:Ty P el ed 1 eb ez] (hd:Nat.blt d n.s=true) (h:k < L.length)
  (K:∀ b o,JO P n w0 F ops (i+1) os Q ((d, .pointer (some ⟨b,o,none⟩))::e) (.st (ro b o [.int .i64 (L[k]'h)])::Γ)) :
  JR P n w0 F ops i ⟨some d, .indexAddr ty x ix,t,pos,aft,g⟩ os Q e Γ:=JR.index hd rfl h fun b o _=>K b o
theorem JR.indexByte {x ix:Operand} {v:Value} {L:List UInt8} {kk:IntKind} {j:Int} {k:Nat} {ty el:TypeId} {sz by_ eb:Nat} {z ez:Value} {ed:TypeDesc}
  [hx:Ev e x v] [hL:HasSl Γ v UInt8 iI L] [hi:Ev e ix (.int kk j)] [hk:NatI j k] [hT:Ty P ty (.slice el) sz by_ z] [hE:Ty P el ed 1 eb ez] (hd:Nat.blt d n.s=true) (h:k < L.length)
  (K:∀ b o,JO P n w0 F ops (i+1) os Q ((d, .pointer (some ⟨b,o,none⟩))::e) (.st (ro b o [.int .u8 ((L[k]'h).toNat:Int)])::Γ)) :
  JR P n w0 F ops i ⟨some d, .indexAddr ty x ix,t,pos,aft,g⟩ os Q e Γ:=JR.index hd rfl h fun b o _=>K b o
theorem Xb6 {x ix:Operand} {v:Value} {L:List Commit} {kk:IntKind} {j:Int} {k:Nat} {ty el:TypeId} {sz by_ eb:Nat} {z ez:Value} {ed:TypeDesc}
  [hx:Ev e x v] [hL:HasSl Γ v Commit iI L] [hi:Ev e ix (.int kk j)] [hk:NatI j k] [hT:Ty P ty (.slice el) sz by_ z] [hE:Ty P el ed 8 eb ez] (hd:Nat.blt d n.s=true) (h:k < L.length)
  (K:∀ b o p q,JO P n w0 F ops (i+1) os Q ((d, .pointer (some ⟨b,o,none⟩))::e)
   (.st (ro b o [.int .i64 (L[k]'h).ev.node, .int .i64 (L[k]'h).ev.seq, .int .i64 (L[k]'h).gen, .slice p (L[k]'h).parents.length q, .int .i64 (L[k]'h).op.kind, .string (L[k]'h).op.key, .string (L[k]'h).op.elem, .int .i64 (L[k]'h).op.n]) ::
    .st (sl p q (L[k]'h).parents)::Γ)) :
  JR P n w0 F ops i ⟨some d, .indexAddr ty x ix,t,pos,aft,g⟩ os Q e Γ:=JR.index hd rfl h fun b o (y:Option Addr × Nat)=>K b o y.1 y.2
class PartVs (e:E) (k:Nat) (ps:List (Nat × Operand)) (vs:outParam (List Value)):Prop where
 ok:∀ n a,Fr n e a→(ps.map fun p=>(p.1,a.eval p.2))=(vs.zipIdx k).map fun x=>(x.2,x.1)
instance {e:E} {k:Nat}:PartVs e k [] []:=⟨fun _ _ _=>rfl⟩
instance {e:E} {k:Nat} {x:Operand} {ps:List (Nat × Operand)} {v:Value} {vs:List Value} [h:Ev e x v] [h':PartVs e (k+1) ps vs]:PartVs e k ((k,x)::ps) (v::vs) :=
 ⟨fun n a fr=>by simp [h.ok n a fr,List.zipIdx_cons,h'.ok n a fr]⟩
class Cels (vs:List Value) (es:Nat) (cs:outParam (List Value)):Prop where
 ok:(∀ v∈vs,v.cells.size=es)∧(vs.flatMap fun v=>v.cells.toList)=cs
instance {es:Nat}:Cels [] es []:=⟨by simp⟩
instance (priority:=1000) {v:Value} {es m:Nat} {cs:List Value} [h:Cel v cs] [h1:Len cs m] [h2:EvB (Nat.beq m es) true]:Cels [v] es cs :=
 ⟨by have:=Nat.eq_of_beq_eq_true h2.ok; simp [Xbt (v:=v) (cs:=cs),h1.ok,this]⟩
end
section
variable {P:Program} {n:Nn} {w0:World} {F:Nat→Prop} {ops:Array Oper} {i d:Nat} {t:TypeId} {pos:String} {aft:Array Edge} {g:Option (Nat × Bool)} {os:List Oper} {Q:Cont} {e:E} {Γ:List Fact}
end
section
variable {P:Program} {n:Nn} {w0:World} {F:Nat→Prop} {ops:Array Oper} {i d:Nat} {t:TypeId} {pos:String} {aft:Array Edge} {g:Option (Nat × Bool)} {os:List Oper} {Q:Cont} {e:E} {Γ:List Fact} [Dr]
instance (priority:=100) {v:Value} {vs:List Value} {es m:Nat} {cs ds r:List Value} [h:Cel v cs] [h1:Len cs m] [h2:EvB (Nat.beq m es) true] [k:Cels vs es ds] [k2:App cs ds r]:Cels (v::vs) es r :=
 ⟨by
  have e1:=Nat.eq_of_beq_eq_true h2.ok
  refine ⟨fun u hu=>?_,?_⟩
  ·rcases List.mem_cons.1 hu with rfl | hu
   ·simp [Xbt (v:=u) (cs:=cs),h1.ok,e1]
   ·exact k.ok.1 u hu
  ·simp only [List.flatMap_cons,k.ok.2,Xbt (v:=v) (cs:=cs),← k2.ok]⟩
theorem Ww {len:Nat} {ps:List (Nat × Operand)} {vs:List Value} {ty el:TypeId} {ed:TypeDesc} {sz by_ es eb:Nat} {z ez:Value} {cs:List Value} [hp:PartVs e 0 ps vs] [hT:Ty P ty (.slice el) sz by_ z] [hE:Ty P el ed es eb ez] [hc:Cels vs es cs]
  (hd:Nat.blt d n.s=true) (hl:vs.length=len∧0 < es∧0 < len∧len * es≤16777216)
  (K:∀ b,JO P n w0 F ops (i+1) os Q ((d, .slice (some ⟨b,0,none⟩) len len)::e) (.own b el cs::Γ)):JR P n w0 F ops i ⟨some d, .buildSlice ty len ⟨ps⟩,t,pos,aft,g⟩ os Q e Γ :=
 JR.value hd fun a w fr ho=>by
  obtain ⟨ti,hti,hti1,hti2,hti3⟩:=hE.some
  have hmul:0 < len * es:=Nat.mul_pos hl.2.2.1 hl.2.1
  have hfill:=Go.Great.fill_whole hl.2.1 vs ((Array.range (len * es)).map (ez.cells[· % ez.cells.size]!)) hc.ok.1 (by simp [hl.1])
  have hparts:((⟨ps⟩:Array (Nat × Operand)).map fun (i,x)=>(i,a.eval x)).toList=(vs.zipIdx 0).map fun x=>(x.2,x.1):=by
   simpa using hp.ok n a fr
  have hrun:=Go.run_buildSlice (P:=P) w ty el len ((⟨ps⟩:Array (Nat × Operand)).map fun (i,x)=>(i,a.eval x)) ⟨cs⟩ ti ez hT.und hti hti3 (by rw [hti1]; omega) (by rw [hti1]; omega) (by rw [hti1,hparts,hfill,hc.ok.2])
  refine ⟨_,_,_,?_,ho.alloc el cs,K w.heap.size⟩
  simp only [execOp,Sem.run_bind,hrun,Result.andThen_ok]
  rfl
end
class Plain (P:Program) (t:TypeId):Prop where
 stood:P.stoodInHeld t=false
 guard:P.eqGuardType P.depth t=false
section
variable {P:Program}
theorem Xd0 (a b:ByteArray):(a.toList == b.toList)=decide (a=b):=by
 rw [ByteArray.toList_eq,ByteArray.toList_eq]
 have h1:(a.data.toList == b.data.toList)=decide (a.data.toList=b.data.toList):=by
  cases hb:(a.data.toList == b.data.toList) with
  | true=>simp [eq_of_beq hb]
  | false=>exact (decide_eq_false (ne_of_beq_false hb)).symm
 rw [h1]
 refine decide_eq_decide.2 ⟨fun h=>?_,fun h=>by rw [h]⟩
 obtain ⟨⟨x⟩⟩:=a
 obtain ⟨⟨y⟩⟩:=b
 simp only at h
 rw [h]
theorem Xsi {t:TypeId} {d:TypeDesc} {sz by_:Nat} {z:Value} (h:Ty P t d sz by_ z):P.cellsOf t=sz:=by
 have:=Xre (P:=P) (t:=t)
 simp [Program.cellsOf,this]
theorem Xn3 {t:TypeId} {d:TypeDesc} {sz by_:Nat} {z:Value} (h:Ty P t d sz by_ z) (hd:(match d with | .struct _ | .array _ _=>False | _=>True)) {cs:List Value} {off:Nat} {v:Value} (hv:cs[off]? = some v) (w:World) :
  (part t ⟨cs⟩ off).run P w = .ok v w:=by
 have hagg:(isAgg t).run P w = .ok false w:=by
  unfold isAgg
  rw [Sem.run_bind,Xaz w]
  cases d <;> simp_all
 simp [part,hagg,hv]
theorem Xmq {el:TypeId} {sz by_:Nat} {z:Value} (h:Ty P el (.int .u8) sz by_ z) (hs:sz=1) (d:Nat) (xs ys:List UInt8) (hl:xs.length=ys.length) (w:World):∀ (m k:Nat),m=k+(xs.length - m)+(m - k) - (xs.length - m)→m≤xs.length →
  (Op.eqItems (d+1) el (P.cellsOf el) ⟨xs.map Xaq⟩ ⟨ys.map Xaq⟩ (List.range' (m - k) k)).run P w = .ok (decide ((xs.drop (m - k)).take k=(ys.drop (m - k)).take k)) w:=by
 intro m k
 induction k with
 | zero=>intro _ _; simp [Op.eqItems]
 | succ k ih =>
  intro h1 h2
  by_cases hk:m≤k
  ·exfalso; omega
  ·have hlt:m - (k+1) < xs.length:=by omega
   have hlt':m - (k+1) < ys.length:=by omega
   have e1:m - (k+1)+1=m - k:=by omega
   have:=ih (by omega) h2
   rw [List.range'_succ,e1]
   have p1:=Xn3 h trivial (cs:=xs.map Xaq) (off:=m - (k+1)) (v:=Xaq xs[m - (k+1)]) (by simp [hlt]) w
   have p2:=Xn3 h trivial (cs:=ys.map Xaq) (off:=m - (k+1)) (v:=Xaq ys[m - (k+1)]) (by simp [hlt']) w
   have hc:P.cellsOf el=1:=by rw [Xsi h,hs]
   rw [hc] at this ⊢
   simp only [Op.eqItems,Nat.mul_one,Sem.run_bind,p1,p2,Result.andThen_ok,Xaq,run_equalIn_int w d el .u8 .u8 _ _ h.und]
   rw [List.drop_eq_getElem_cons hlt,List.drop_eq_getElem_cons hlt',e1]
   simp only [List.take_succ_cons,List.cons.injEq]
   by_cases hb:xs[m - (k+1)]=ys[m - (k+1)]
   ·simp only [hb,beq_self_eq_true,Bool.not_true,Bool.false_eq_true,if_false,true_and]
    exact this
   ·have:(((xs[m - (k+1)]).toNat:Int) == ((ys[m - (k+1)]).toNat:Int))=false:=by
     rw [beq_eq_false_iff_ne]
     intro he
     exact hb (UInt8.toNat_inj.1 (by omega))
    simp [this,hb]
theorem Xig {t el:TypeId} {sz by_ es eb:Nat} {z ez:Value} (h:Ty P t (.array 32 el) sz by_ z) (hE:Ty P el (.int .u8) es eb ez) (hs:es=1) (a b:ID) (w:World) :
  (Op.equal t (.agg ⟨idc a⟩) (.agg ⟨idc b⟩)).run P w = .ok (decide (a=b)) w:=by
 obtain ⟨i,hi,_⟩:=hE.some
 have h1:=run_equalIn_array (P:=P) w 9999 (i:=i) ⟨idc a⟩ ⟨idc b⟩ h.und hi
 have h2:=Xmq hE hs 9998 a.1 b.1 (by rw [a.2,b.2]) w 32 32 (by rw [a.2]) (by rw [a.2]; exact Nat.le_refl _)
 have e1:List.range 32=List.range' (32 - 32) 32:=by simp [List.range_eq_range']
 unfold Op.equal
 rw [show Op.maxDepth=9999+1 from rfl,h1,e1]
 unfold idc
 rw [h2]
 have e2:decide (List.take 32 (List.drop (32 - 32) a.1)=List.take 32 (List.drop (32 - 32) b.1))=decide (a=b):=by
  have ha:List.take 32 (List.drop (32 - 32) a.1)=a.1:=by simp [List.take_of_length_le,a.2]
  have hb:List.take 32 (List.drop (32 - 32) b.1)=b.1:=by simp [List.take_of_length_le,b.2]
  rw [ha,hb]
  exact decide_eq_decide.2 ⟨fun h=>Subtype.ext h,fun h=>by rw [h]⟩
 rw [e2]
theorem Xc8 {t:TypeId} {fs:Array Field} {sz by_:Nat} {z:Value} (h:Ty P t (.struct fs) sz by_ z):P.fieldsOf t=fs:=by
 simp [Program.fieldsOf,h.und]
inductive Sc where
 | int (k:IntKind) (n:Int)
 | str (s:ByteArray)
 deriving DecidableEq
def Sc.val:Sc→Value
 | .int k n=>.int k n
 | .str s=>.string s
def Sc.fits (P:Program) (t:TypeId):Sc→Prop
 | .int k _=>P.underlying t=some (.int k)
 | .str _=>P.underlying t=some .string
theorem Xgh (d:Nat) {t:TypeId} {a b:Sc} (ha:a.fits P t) (hb:b.fits P t) (w:World):(Op.equalIn (d+1) t a.val b.val).run P w = .ok (decide (a=b)) w:=by
 cases a with
 | int k n =>
  cases b with
  | int k' m =>
   simp only [Sc.fits] at ha hb
   rw [ha] at hb
   injection hb with hb; injection hb with hb
   subst hb
   simp only [Sc.val,run_equalIn_int w d t k k n m ha]
   congr 1
   by_cases h:n=m <;> simp [h]
  | str s=>simp only [Sc.fits] at ha hb; rw [ha] at hb; cases hb
 | str s =>
  cases b with
  | int k' m=>simp only [Sc.fits] at ha hb; rw [ha] at hb; cases hb
  | str u =>
   simp only [Sc.val,run_equalIn_string w d t s u ha]
   congr 1
   rw [Xd0]
   by_cases h:s=u <;> simp [h]
theorem Xjv {t:TypeId} {a:Sc} (ha:a.fits P t) {cs:List Value} {off:Nat} (hv:cs[off]? = some a.val) (w:World):(part t ⟨cs⟩ off).run P w = .ok a.val w:=by
 have hagg:(isAgg t).run P w = .ok false w:=by
  unfold isAgg
  cases a <;> (simp only [Sc.fits] at ha; rw [Sem.run_bind,run_underlying ha]; rfl)
 simp [part,hagg,hv]
theorem Xgn (d:Nat) (w:World) (xs ys:List Value):∀ (fs:List Field) (as bs:List Sc),as.length=fs.length→bs.length=fs.length →
  (∀ (j:Nat) (f:Field) (a b:Sc),fs[j]? = some f→as[j]? = some a→bs[j]? = some b→f.name ≠ "_" ∧ a.fits P f.type∧b.fits P f.type∧xs[f.offset]? = some a.val∧ys[f.offset]? = some b.val) →
  (Op.eqFields (d+1) ⟨xs⟩ ⟨ys⟩ fs).run P w = .ok (decide (as=bs)) w
 | [],as,bs,ha,hb,_=>by
  have:as=[]:=List.eq_nil_of_length_eq_zero ha
  have:bs=[]:=List.eq_nil_of_length_eq_zero hb
  subst as bs
  simp [Op.eqFields]
 | f::fs,[],bs,ha,hb,_=>by simp at ha
 | f::fs,a::as,[],ha,hb,_=>by simp at hb
 | f::fs,a::as,b::bs,ha,hb,h=>by
  obtain ⟨h1,h2,h3,h4,h5⟩:=h 0 f a b rfl rfl rfl
  have ih:=Xgn d w xs ys fs as bs (by simpa using ha) (by simpa using hb) (fun j g u v hg hu hv=>h (j+1) g u v (by simpa using hg) (by simpa using hu) (by simpa using hv))
  simp only [Op.eqFields,h1,ne_eq,not_false_eq_true,if_true,Sem.run_bind,Xjv h2 h4,Xjv h3 h5,Result.andThen_ok,Xgh d h2 h3]
  by_cases hab:a=b
  ·subst hab
   simp only [decide_true,Bool.not_true,Bool.false_eq_true,if_false,ih,List.cons.injEq,true_and]
  ·simp [hab]
end
section
variable {P:Program} {n:Nn} {w0:World} {F:Nat→Prop} {d:Option Nat} {t:TypeId} {pos:String} {aft:Array Edge} {g:Option (Nat × Bool)} {e:E} {Γ:List Fact} [Dr]
theorem Xhs {x y:Operand} {ty yt:TypeId} {u v:List Value} {b:Bool} [hx:Ev e x (.agg ⟨u⟩)] [hy:Ev e y (.agg ⟨v⟩)] [hp:Plain P ty] (h:∀ w,(Op.equal ty (.agg ⟨u⟩) (.agg ⟨v⟩)).run P w = .ok b w) :
  OpV P n w0 F ⟨d, .binOp .eql ty x y yt,t,pos,aft,g⟩ e Γ (.bool b) :=
 fun a w fr _=>by
  have h1:=run_eqGuard_agg (P:=P) w .eql ty x y ⟨u⟩ ⟨v⟩ hp.guard
  have h2:=run_eql_struct (P:=P) w ty ⟨u⟩ ⟨v⟩
  have h3:=h w
  unfold Op.equal at h3
  rw [show Op.maxDepth=10000 from rfl] at h3
  rw [h3] at h2
  simp only [execOp,hx.ok n a fr,hy.ok n a fr,Sem.run_bind,h1,h2,Result.andThen_ok,Sem.run_pure]
theorem Xf7 {x y:Operand} {ty yt:TypeId} {u v:List Value} {b:Bool} [hx:Ev e x (.agg ⟨u⟩)] [hy:Ev e y (.agg ⟨v⟩)] [hp:Plain P ty] (h:∀ w,(Op.equal ty (.agg ⟨u⟩) (.agg ⟨v⟩)).run P w = .ok b w) :
  OpV P n w0 F ⟨d, .binOp .neq ty x y yt,t,pos,aft,g⟩ e Γ (.bool (!b)) :=
 fun a w fr _=>by
  have h1:=run_eqGuard_agg (P:=P) w .neq ty x y ⟨u⟩ ⟨v⟩ hp.guard
  have h2:=run_neq_struct (P:=P) w ty ⟨u⟩ ⟨v⟩
  have h3:=h w
  unfold Op.equal at h3
  rw [show Op.maxDepth=10000 from rfl] at h3
  rw [h3] at h2
  simp only [execOp,hx.ok n a fr,hy.ok n a fr,Sem.run_bind,h1,h2,Result.andThen_ok,Sem.run_pure]
theorem Vx {x y:Operand} {ty yt el:TypeId} {a b:ID} {sz by_ eb:Nat} {z ez:Value} [hx:Ev e x (.agg ⟨idc a⟩)] [hy:Ev e y (.agg ⟨idc b⟩)] [hp:Plain P ty] [hT:Ty P ty (.array 32 el) sz by_ z] [hE:Ty P el (.int .u8) 1 eb ez] :
  OpV P n w0 F ⟨d, .binOp .eql ty x y yt,t,pos,aft,g⟩ e Γ (.bool (decide (a=b))):=Xhs fun w=>Xig hT hE rfl a b w
theorem Vy {x y:Operand} {ty yt el:TypeId} {a b:ID} {sz by_ eb:Nat} {z ez:Value} [hx:Ev e x (.agg ⟨idc a⟩)] [hy:Ev e y (.agg ⟨idc b⟩)] [hp:Plain P ty] [hT:Ty P ty (.array 32 el) sz by_ z] [hE:Ty P el (.int .u8) 1 eb ez] :
  OpV P n w0 F ⟨d, .binOp .neq ty x y yt,t,pos,aft,g⟩ e Γ (.bool (!decide (a=b))):=Xf7 fun w=>Xig hT hE rfl a b w
class Scs (P:Program) (fs:List Field) (o:Nat) (vs:List Value) (as:outParam (List Sc)):Prop where
 ok:as.length=fs.length∧∀ (j:Nat) (f:Field) (a:Sc),fs[j]? = some f→as[j]? = some a→f.name ≠ "_" ∧ a.fits P f.type∧o≤f.offset∧vs[f.offset - o]? = some a.val
instance {P:Program} {o:Nat}:Scs P [] o [] []:=⟨rfl,by simp⟩
class NotBlank (s:String):Prop where
 ok:s ≠ "_"
instance {P:Program} {nm tag pp:String} {o ft bo sz by_:Nat} {z:Value} {em:Bool} {fs:List Field} {k:IntKind} {m:Int} {vs:List Value} {as:List Sc} [hn:NotBlank nm] [hT:Ty P ft (.int k) sz by_ z] [h:Scs P fs (o+1) vs as] :
  Scs P (⟨nm,ft,o,em,tag,pp,bo⟩::fs) o (.int k m::vs) (.int k m::as):=by
 refine ⟨by simp [h.ok.1],fun j f a hf ha=>?_⟩
 cases j with
 | zero=>simp at hf ha; subst hf ha; exact ⟨hn.ok,hT.und,Nat.le_refl _,by simp [Sc.val]⟩
 | succ j =>
  obtain ⟨h1,h2,h3,h4⟩:=h.ok.2 j f a (by simpa using hf) (by simpa using ha)
  exact ⟨h1,h2,by omega,by rw [show f.offset - o=(f.offset - (o+1))+1 by omega]; simpa using h4⟩
instance {P:Program} {nm tag pp:String} {o ft bo sz by_:Nat} {z:Value} {em:Bool} {fs:List Field} {s:ByteArray} {vs:List Value} {as:List Sc} [hn:NotBlank nm] [hT:Ty P ft .string sz by_ z] [h:Scs P fs (o+1) vs as] :
  Scs P (⟨nm,ft,o,em,tag,pp,bo⟩::fs) o (.string s::vs) (.str s::as):=by
 refine ⟨by simp [h.ok.1],fun j f a hf ha=>?_⟩
 cases j with
 | zero=>simp at hf ha; subst hf ha; exact ⟨hn.ok,hT.und,Nat.le_refl _,by simp [Sc.val]⟩
 | succ j =>
  obtain ⟨h1,h2,h3,h4⟩:=h.ok.2 j f a (by simpa using hf) (by simpa using ha)
  exact ⟨h1,h2,by omega,by rw [show f.offset - o=(f.offset - (o+1))+1 by omega]; simpa using h4⟩
end
section
variable {P:Program} {n:Nn} {w0:World} {F:Nat→Prop} {d:Option Nat} {t:TypeId} {pos:String} {aft:Array Edge} {g:Option (Nat × Bool)} {e:E} {Γ:List Fact}
theorem Xg0 {ty:TypeId} {fs:List Field} {sz by_:Nat} {z:Value} {u v:List Value} {as bs:List Sc} (hT:Ty P ty (.struct ⟨fs⟩) sz by_ z) (hp:Plain P ty) (ha:Scs P fs 0 u as) (hb:Scs P fs 0 v bs) (w:World) :
  (Op.equal ty (.agg ⟨u⟩) (.agg ⟨v⟩)).run P w = .ok (decide (as=bs)) w:=by
 unfold Op.equal
 rw [show Op.maxDepth=9999+1 from rfl,run_equalIn_struct (P:=P) w 9999 ty ⟨u⟩ ⟨v⟩ (by rw [Xc8 hT]; exact hT.und) hp.stood,Xc8 hT]
 exact Xgn 9998 w u v fs as bs ha.ok.1 hb.ok.1 fun j f a b hf h1 h2=>by
  obtain ⟨p1,p2,_,p4⟩:=ha.ok.2 j f a hf h1
  obtain ⟨_,q2,_,q4⟩:=hb.ok.2 j f b hf h2
  exact ⟨p1,p2,q2,by simpa using p4,by simpa using q4⟩
theorem Vz [Dr] {x y:Operand} {ty yt:TypeId} {fs:List Field} {p q p' q':Int} {sz by_:Nat} {z:Value} [hx:Ev e x (.agg ⟨[.int .i64 p, .int .i64 q]⟩)] [hy:Ev e y (.agg ⟨[.int .i64 p', .int .i64 q']⟩)] [hp:Plain P ty] [hT:Ty P ty (.struct ⟨fs⟩) sz by_ z]
  [ha:Scs P fs 0 [.int .i64 p, .int .i64 q] [.int .i64 p, .int .i64 q]] [hb:Scs P fs 0 [.int .i64 p', .int .i64 q'] [.int .i64 p', .int .i64 q']] :
  OpV P n w0 F ⟨d, .binOp .eql ty x y yt,t,pos,aft,g⟩ e Γ (.bool (decide ((⟨p,q⟩:Ev_)=⟨p',q'⟩))) :=
 Xhs fun w=>by rw [Xg0 hT hp ha hb w]; congr 1; exact decide_eq_decide.2 (by simp)
theorem VA [Dr] {x y:Operand} {ty yt:TypeId} {fs:List Field} {k m k' m':Int} {s u s' u':ByteArray} {sz by_:Nat} {z:Value} [hx:Ev e x (.agg ⟨[.int .i64 k, .string s, .string u, .int .i64 m]⟩)] [hy:Ev e y (.agg ⟨[.int .i64 k', .string s', .string u', .int .i64 m']⟩)] [hp:Plain P ty] [hT:Ty P ty (.struct ⟨fs⟩) sz by_ z]
  [ha:Scs P fs 0 [.int .i64 k, .string s, .string u, .int .i64 m] [.int .i64 k, .str s, .str u, .int .i64 m]] [hb:Scs P fs 0 [.int .i64 k', .string s', .string u', .int .i64 m'] [.int .i64 k', .str s', .str u', .int .i64 m']] :
  OpV P n w0 F ⟨d, .binOp .eql ty x y yt,t,pos,aft,g⟩ e Γ (.bool (decide ((⟨k,s,u,m⟩:Op_)=⟨k',s',u',m'⟩))) :=
 Xhs fun w=>by rw [Xg0 hT hp ha hb w]; congr 1; exact decide_eq_decide.2 (by simp)
theorem VB [Dr] {x y:Operand} {ty yt:TypeId} {s u:ByteArray} [hx:Ev e x (.string s)] [hy:Ev e y (.string u)]:OpV P n w0 F ⟨d, .binOp .eql ty x y yt,t,pos,aft,g⟩ e Γ (.bool (decide (s=u))) :=
 fun a w fr _=>by
  have:=Xd0 s u
  simp [execOp,hx.ok n a fr,hy.ok n a fr,eqGuard,binOp,Op.stringOp,this]
theorem VC [Dr] {x y:Operand} {ty yt:TypeId} {s u:ByteArray} [hx:Ev e x (.string s)] [hy:Ev e y (.string u)]:OpV P n w0 F ⟨d, .binOp .neq ty x y yt,t,pos,aft,g⟩ e Γ (.bool (!decide (s=u))) :=
 fun a w fr _=>by
  have:=Xd0 s u
  simp [execOp,hx.ok n a fr,hy.ok n a fr,eqGuard,binOp,Op.stringOp,this]
theorem VD [Dr] {x:Operand} {ty yt el:TypeId} {p:Option Addr} {m c sz by_:Nat} {z:Value} [hx:Ev e x (.slice p m c)] [hT:Ty P ty (.slice el) sz by_ z] :
  OpV P n w0 F ⟨d, .binOp .eql ty x (.const (.slice none 0 0)) yt,t,pos,aft,g⟩ e Γ (.bool p.isNone) :=
 fun a w fr _=>by
  have h1:=Xaz (P:=P) (t:=ty) w
  have h2:(Act.eval a (.const (.slice none 0 0))) = .slice none 0 0:=rfl
  have h3:(Op.equal ty (.slice p m c) (.slice none 0 0)).run P w = .ok p.isNone w:=by
   unfold Op.equal
   rw [show Op.maxDepth=9999+1 from rfl]
   generalize 9999=dd
   cases p <;> simp [Op.equalIn,h1]
  have h4:(eqGuard .eql ty x (.const (.slice none 0 0)) (.slice p m c) (.slice none 0 0)).run P w = .ok () w:=by simp [eqGuard]
  have h5:binOp .eql ty (.slice p m c) (.slice none 0 0)=(do pure (.bool (← Op.equal ty (.slice p m c) (.slice none 0 0)))):=rfl
  simp only [execOp,hx.ok n a fr,h2,Sem.run_bind,h4,h5,h3,Result.andThen_ok,Sem.run_pure]
end
theorem Xi9 {α:Type} [Cell α] {F:Nat→Prop} {w:World} {b:Nat}:∀ (L:List α) (off:Nat),Xlf F w b off L →
  ∃ r:List (α × Cell.Ix α),r.map (·.1)=L∧(∀ j u,(flat r)[j]? = some u→w.cell? ⟨b,off+j,none⟩=some u)∧∀ p∈r,∀ A∈Cell.facts p.1 p.2,A.holds F w
 | [],off,_=>⟨[],rfl,by simp [flat],by simp⟩
 | x::L,off,h=>by
  obtain ⟨y,h1,h2⟩:=h 0 (by simp)
  have ht:Xlf F w b (off+Cell.sz α) L:=fun i hi=>by
   obtain ⟨y,h1,h2⟩:=h (i+1) (by simpa using hi)
   refine ⟨y,?_,h2⟩
   rw [show off+Cell.sz α+i * Cell.sz α=off+(i+1) * Cell.sz α by rw [Nat.add_mul]; omega]
   exact h1
  obtain ⟨r,hr1,hr2,hr3⟩:=Xi9 L _ ht
  refine ⟨(x,y)::r,by simp [hr1],fun j u hu=>?_,fun p hp A hA=>?_⟩
  ·simp only [flat] at hu
   by_cases hj:j < Cell.sz α
   ·rw [List.getElem?_append_left (by rw [Cell.len]; exact hj)] at hu
    have:=h1 j u hu
    simpa using this
   ·rw [List.getElem?_append_right (by rw [Cell.len]; omega),Cell.len] at hu
    have:=hr2 _ u hu
    rw [show off+Cell.sz α+(j - Cell.sz α)=off+j by omega] at this
    exact this
  ·rcases List.mem_cons.1 hp with rfl | hp
   ·exact h2 A hA
   ·exact hr3 p hp A hA
theorem Xsj {α:Type} [Cell α] {F:Nat→Prop} {w:World} {b off:Nat} {L:List α} (h:Xlf F w b off L) (k:Nat):Xlf F w b (off+k * Cell.sz α) (L.drop k):=by
 intro i hi
 obtain ⟨y,h1,h2⟩:=h (k+i) (by simp at hi; omega)
 simp only [List.getElem_drop]
 refine ⟨y,?_,h2⟩
 rw [show off+k * Cell.sz α+i * Cell.sz α=off+(k+i) * Cell.sz α by rw [Nat.add_mul]; omega]
 exact h1
theorem Xsk {α:Type} [Cell α] {F:Nat→Prop} {w:World} {b off:Nat} {L:List α} (h:Xlf F w b off L) (k:Nat):Xlf F w b off (L.take k):=by
 intro i hi
 obtain ⟨y,h1,h2⟩:=h i (by simp at hi; omega)
 simp only [List.getElem_take]
 exact ⟨y,h1,h2⟩
section
variable {P:Program} {n:Nn} {w0:World} {F:Nat→Prop} {ops:Array Oper} {i d:Nat} {t:TypeId} {pos:String} {aft:Array Edge} {g:Option (Nat × Bool)} {os:List Oper} {Q:Cont} {e:E} {Γ:List Fact}
theorem Xgi [Dr] {α:Type} [ic:Cell α] {w:World} {Δ:List Fact} {a0 a1:Option Addr} {c0 c1:Nat} {el ty:TypeId} {L L':List α} {ed:TypeDesc} {sz by_ es eb:Nat} {z ez:Value} {ecs:List Value}
  (ho:Hold w0 F (.res (buf a0 c0 el L)::Δ) w) (hs:(sl a1 c1 L').holds (fp w0 F (.res (buf a0 c0 el L)::Δ)) w)
  [hT:Ty P ty (.slice el) sz by_ z] [hE:Ty P el ed es eb ez] [hz:Cel ez ecs] (hes:es=Cell.sz α∧ecs.length=es∧eb≤4096) (hl:L.length+L'.length≤34359738368) :
  ∃ a2 k2 w',(Builtin.append_ #[ty,ty] t #[.slice a0 L.length c0, .slice a1 L'.length c1]).run P w = .ok (.slice a2 (L++L').length k2) w'∧Hold w0 F (.res (buf a2 k2 el (L++L'))::Δ) w':=by
 obtain ⟨h1,h2,h3,h4⟩:=hs
 by_cases hL:L'=[]
 ·subst hL
  obtain ⟨h0,q,hq,hown,hfacts⟩:(buf a0 c0 el L).holds _ w:=ho.sat (.res (buf a0 c0 el L)) (by simp)
  have hlen:L.length≤c0:=by
   rcases hown.2 with ⟨hv,hn⟩ | ⟨gb,cap,cur,hv,_,_,hnc,_⟩
   ·omega
   ·injection hv with _ _ e3; omega
  obtain ⟨ti,hti,hti1,hti2,hti3⟩:=hE.some
  refine ⟨a0,c0,w,?_,by simpa using ho⟩
  cases a0 <;> cases a1 <;> simp [Builtin.append_,run_underlying hT.und,sizeOf,typeInfo,hti,Builtin.lenOf,Builtin.firstCells,loadCells,loadCellsFrom,hlen,storeCells]
 ·obtain ⟨b,off,rfl,hF,hlt,hrow⟩:=h4 hL
  obtain ⟨r,hr1,hr2,hr3⟩:=Xi9 L' off hrow
  have hm:r.length=L'.length:=by rw [← hr1]; simp
  obtain ⟨a2,k2,w',e1,e2⟩:=Xe3 (P:=P) (t:=t) (ty:=ty) (ad:=⟨b,off,none⟩) (m:=L'.length) (c1:=c1) ho r (fun j u hu=>by rw [Addr.add_mid]; exact hr2 j u hu) (Xrf r) hm hr3 hes hl
  rw [hr1] at e1 e2
  exact ⟨a2,k2,w',e1,e2⟩
theorem Xul {α:Type} [ic:Cell α] {a:Option Addr} {c:Nat} {L:List α} {Γ Δ:List Fact} {w:World} (h:(sl a c L).holds (fp w0 F Γ) w) (hp:Γ.Perm Δ):(sl a c L).holds (fp w0 F Δ) w :=
 (sl a c L).mono _ _ _ (fun k hk=>⟨hk.1,fun f hf=>hk.2 f (hp.mem_iff.2 hf)⟩) h
theorem Xbq [Dr] {α:Type} [ic:Cell α] {x y:Operand} {v u:Value} {L L':List α} {el ty:TypeId} {ed:TypeDesc} {sz by_ es eb:Nat} {z ez:Value} {ecs:List Value} {Δ:List Fact}
  [hx:Ev e x v] [hB:HasBuf Γ v α ic el L Δ] [hy:Ev e y u] [hS:HasSl Γ u α ic L'] [hT:Ty P ty (.slice el) sz by_ z] [hE:Ty P el ed es eb ez] [hz:Cel ez ecs]
  (hd:Nat.blt d n.s=true) (hes:es=Cell.sz α∧ecs.length=es∧eb≤4096) (hl:L.length+L'.length≤34359738368)
  (K:∀ a c,JO P n w0 F ops (i+1) os Q ((d, .slice a (L++L').length c)::e) (.res (buf a c el (L++L'))::Δ)) :
  JR P n w0 F ops i ⟨some d, .call ⟨.builtin .append,#[x,y],#[ty,ty]⟩,t,pos,aft,g⟩ os Q e Γ :=
 JR.value hd fun a w fr ho=>by
  obtain ⟨a0,c0,rfl,hperm⟩:=hB.ok
  obtain ⟨a1,c1,rfl,hsl⟩:=hS.holds ho
  obtain ⟨a2,k2,w',hrun,hw'⟩:=Xgi (P:=P) (t:=t) (ty:=ty) (ho.perm hperm) (Xul hsl hperm) hes hl
  refine ⟨_,w',_,?_,hw',K a2 k2⟩
  simp [execOp,Xag,invoke,builtin,hx.ok n a fr,hy.ok n a fr] at hrun ⊢
  simp [hrun]
theorem JR.appendNil [Dr] {α:Type} [ic:Cell α] {x y:Operand} {u:Value} {L':List α} {el ty:TypeId} {ed:TypeDesc} {sz by_ es eb:Nat} {z ez:Value} {ecs:List Value}
  [hx:Ev e x (.slice none 0 0)] [hy:Ev e y u] [hS:HasSl Γ u α ic L'] [hT:Ty P ty (.slice el) sz by_ z] [hE:Ty P el ed es eb ez] [hz:Cel ez ecs]
  (hd:Nat.blt d n.s=true) (hes:es=Cell.sz α∧ecs.length=es∧eb≤4096) (hl:L'.length≤34359738368)
  (K:∀ a c,JO P n w0 F ops (i+1) os Q ((d, .slice a L'.length c)::e) (.res (buf a c el L')::Γ)) :
  JR P n w0 F ops i ⟨some d, .call ⟨.builtin .append,#[x,y],#[ty,ty]⟩,t,pos,aft,g⟩ os Q e Γ :=
 JR.value hd fun a w fr ho=>by
  obtain ⟨a1,c1,rfl,hsl⟩:=hS.holds ho
  have ho':Hold w0 F (.res (buf (α:=α) none 0 el [])::Γ) w:=ho.res (fun k hk=>by obtain ⟨a,h,_⟩:=hk; cases h) buf_nil
  have hsl':(sl a1 c1 L').holds (fp w0 F (.res (buf (α:=α) none 0 el [])::Γ)) w :=
   (sl a1 c1 L').mono _ _ _ (fun k hk=>⟨hk.1,fun f hf=>by
    rcases List.mem_cons.1 hf with rfl | hf
    ·rintro ⟨a,h,_⟩; cases h
    ·exact hk.2 f hf⟩) hsl
  obtain ⟨a2,k2,w',hrun,hw'⟩:=Xgi (P:=P) (t:=t) (ty:=ty) ho' hsl' hes (by simpa using hl)
  refine ⟨_,w',_,?_,hw',K a2 k2⟩
  simp [execOp,Xag,invoke,builtin,hx.ok n a fr,hy.ok n a fr] at hrun ⊢
  simp [hrun]
theorem Xjw [Dr] {α:Type} [ic:Cell α] {ty el:TypeId} {ed:TypeDesc} {sz by_ es eb:Nat} {z ez:Value} [hT:Ty P ty (.slice el) sz by_ z] [hE:Ty P el ed es eb ez] (hd:Nat.blt d n.s=true)
  (K:∀ a,JO P n w0 F ops (i+1) os Q ((d, .slice a ([]:List α).length 0)::e) (.res (buf (α:=α) a 0 el [])::Γ)):JR P n w0 F ops i ⟨some d, .buildSlice ty 0 #[],t,pos,aft,g⟩ os Q e Γ :=
 JR.value hd fun a w fr ho=>by
  have h1:=Xaz (P:=P) (t:=ty) w
  have h2:=Xbg (P:=P) (t:=el) w
  refine ⟨.slice (some ⟨w.heap.size,0,none⟩) 0 0,w.alloc (.cells #[] el),_,?_,?_,K (some ⟨w.heap.size,0,none⟩)⟩
  ·simp [execOp,Instr.buildSlice,h1,h2,Instr.fill,newRow]
   rw [show Array.range 0 = #[] by simp [Array.range],Array.map_empty]
  ·refine ho.push (f:=.res (buf (some ⟨w.heap.size,0,none⟩) 0 el [])) (fun k=>⟨?_,?_⟩) (fun F' w' hw=>?_)
   ·rintro ⟨a',ha',rfl⟩; injection ha' with ha'; subst ha'; rfl
   ·rintro rfl; exact ⟨_,rfl,rfl⟩
   ·exact ⟨by simp [lim],[],rfl,⟨by simp [flat], .inr ⟨w.heap.size,0,#[],rfl,Nat.zero_le _,hw,Nat.le_refl _,by simp [maxLen],by simp,by simp [flat]⟩⟩,by simp⟩
theorem Xum {α:Type} [ic:Cell α] {G:Nat→Prop} {w:World} {a:Option Addr} {c:Nat} {L:List α} (h:(sl a c L).holds G w) {k:Nat} (hk:k≤L.length) :
  (sl (if c - k=0∧c=k then a else a.map (·.add (k * Cell.sz α))) (c - k) (L.drop k)).holds G w:=by
 obtain ⟨h1,h2,h3,h4⟩:=h
 refine ⟨by simp; omega,by omega,by simp; omega,fun hne=>?_⟩
 have hlt:k < L.length:=by
  rcases Nat.lt_or_ge k L.length with h | h
  ·exact h
  ·exact (hne (List.drop_eq_nil_of_le h)).elim
 obtain ⟨b,off,rfl,hb,hlt2,hrow⟩:=h4 (by intro h; subst h; simp at hlt)
 have:¬ (c - k=0∧c=k):=by omega
 rw [if_neg this]
 exact ⟨b,off+k * Cell.sz α,by simp [Addr.add_mid],hb,hlt2,Xsj hrow k⟩
theorem Xmr {α:Type} [ic:Cell α] {G:Nat→Prop} {w:World} {a:Option Addr} {c:Nat} {L:List α} (h:(sl a c L).holds G w) {k c':Nat} (hk:k≤L.length) (hc:k≤c'∧c'≤c):(sl a c' (L.take k)).holds G w:=by
 obtain ⟨h1,h2,h3,h4⟩:=h
 refine ⟨by simp; omega,by omega,by simp; omega,fun hne=>?_⟩
 obtain ⟨b,off,rfl,hb,hlt2,hrow⟩:=h4 (by intro h; subst h; simp at hne)
 exact ⟨b,off,rfl,hb,hlt2,Xsk hrow k⟩
theorem Hold.addSl [Dr] {α:Type} [ic:Cell α] {w:World} {a:Option Addr} {c:Nat} {L:List α} (ho:Hold w0 F Γ w) (h:(sl a c L).holds (fp w0 F Γ) w):Hold w0 F (.st (sl a c L)::Γ) w:=ho.add h
theorem Xfm [Dr] {α:Type} [ic:Cell α] {x lo:Operand} {v:Value} {L:List α} {kk:IntKind} {j:Int} {k:Nat} {ty el:TypeId} {ed:TypeDesc} {sz by_ es eb:Nat} {z ez:Value}
  [hx:Ev e x v] [hL:HasSl Γ v α ic L] [hi:Ev e lo (.int kk j)] [hk:NatI j k] [hT:Ty P ty (.slice el) sz by_ z] [hE:Ty P el ed es eb ez] (hd:Nat.blt d n.s=true) (hes:es=Cell.sz α) (h:k≤L.length)
  (K:∀ a c,JO P n w0 F ops (i+1) os Q ((d, .slice a (L.drop k).length c)::e) (.st (sl a c (L.drop k))::Γ)):JR P n w0 F ops i ⟨some d, .slice ty x (some lo) none none,t,pos,aft,g⟩ os Q e Γ :=
 JR.value hd fun a w fr ho=>by
  obtain ⟨a0,c,rfl,hsl⟩:=hL.holds ho
  have hlc:L.length≤c:=hsl.1
  have h1:=Xaz (P:=P) (t:=ty) w
  have h2:=Xbg (P:=P) (t:=el) w
  have hj:=hk.ok
  subst hj
  refine ⟨_,w,_,?_,ho.addSl (Xum hsl h),K _ _⟩
  have hb:(Instr.sliceBound (.int kk (k:Int)) L.length .sliceB).run P w = .ok k w:=by
   simp [Instr.sliceBound,asIntOf]
   omega
  simp [execOp,hx.ok n a fr,hi.ok n a fr,Instr.sliceAt,Instr.slice,h1,h2,Instr.sliceBounds,hb,hes]
  by_cases hck:c=k
  ·simp [hck]
  ·rw [if_neg hck,if_neg (by omega)]
end
def X3a (p:Prop):Asn where
 holds _ _:=p
 mono _ _ _ _ h:=h
 frame _ _ _ _ h:=h
 within _ _ h:=h
def elA (v:Value) (k es b o:Nat):Asn:=X3a (∃ off m c,v = .slice (some ⟨b,off,none⟩) m c∧o=off+k * es∧k < m)
class HasEl (Γ:List Fact) (v:Value) (k es:Nat) (b o:outParam Nat):Prop where
 ok : .st (elA v k es b o)∈Γ
instance (priority:=100) {Γ:List Fact} {g:Fact} {v:Value} {k es b o:Nat} [h:HasEl Γ v k es b o]:HasEl (g::Γ) v k es b o:=⟨List.mem_cons_of_mem _ h.ok⟩
instance (priority:=1000) {Γ:List Fact} {v:Value} {k es b o:Nat}:HasEl (.st (elA v k es b o)::Γ) v k es b o:=⟨by simp⟩
theorem Ve [Dr] {P:Program} {n:Nn} {w0:World} {F:Nat→Prop} {d:Option Nat} {t:TypeId} {pos:String} {aft:Array Edge} {g:Option (Nat × Bool)} {e:E} {Γ:List Fact}
  {x ix:Operand} {v:Value} {kk:IntKind} {j:Int} {k:Nat} {ty el:TypeId} {ed:TypeDesc} {sz by_ es eb b o:Nat} {z ez:Value} [hx:Ev e x v] [hi:Ev e ix (.int kk j)] [hk:NatI j k] [hT:Ty P ty (.slice el) sz by_ z] [hE:Ty P el ed es eb ez] [h:HasEl Γ v k es b o] :
  OpV P n w0 F ⟨d, .indexAddr ty x ix,t,pos,aft,g⟩ e Γ (.pointer (some ⟨b,o,none⟩)) :=
 fun a w fr ho=>by
  obtain ⟨off,m,c,rfl,rfl,hkm⟩:∃ off m c,v = .slice (some ⟨b,off,none⟩) m c∧o=off+k * es∧k < m:=ho.sat _ h.ok
  have e1:=Xaz (P:=P) (t:=ty) w
  have e2:=Xbg (P:=P) (t:=el) w
  have hj:=hk.ok
  subst hj
  simp [execOp,hx.ok n a fr,hi.ok n a fr,Instr.indexAt,asIntOf,e1,e2,hkm,Addr.add_mid]
section
variable {P:Program} {n:Nn} {w0:World} {F:Nat→Prop} {ops:Array Oper} {i:Nat} {os:List Oper} {Q:Cont} {e:E} {Γ:List Fact}
theorem Hold.addAll [Dr] {w:World} (ho:Hold w0 F Γ w):∀ (As:List Asn),(∀ A∈As,A.holds (fp w0 F Γ) w)→Hold w0 F (As.map Fact.st++Γ) w
 | [],_=>ho
 | A::As,hA=>(ho.addAll As (fun B hB=>hA B (by simp [hB]))).add (A.mono _ _ _ (fun k hk=>⟨hk.1,Xcn.2 ⟨fun f hf=>by
   simp only [List.mem_map] at hf
   obtain ⟨B,_,rfl⟩:=hf
   exact fun h=>h,hk.2⟩⟩) (hA A (by simp)))
theorem Hold.open_ [Dr] {α:Type} {ic:Cell α} {v:Value} {L:List α} (k:Nat) (hL:HasSl Γ v α ic L) (h:k < L.length) {w:World} (ho:Hold w0 F Γ w) :
  ∃ b o y,Hold w0 F (.st (elA v k (Cell.sz α) b o)::.st (ro b o (Cell.cells (L[k]'h) y))::((Cell.facts (L[k]'h) y).map Fact.st++Γ)) w:=by
 obtain ⟨a0,c,rfl,h1,h2,h3,h4⟩:=hL.holds ho
 obtain ⟨b,off,rfl,hb,hlt,hrow⟩:=h4 (by intro h; subst h; simp at h)
 obtain ⟨y,hy,hf⟩:=hrow k h
 refine ⟨b,off+k * Cell.sz α,y,?_⟩
 have:=ho.addAll (elA (.slice (some ⟨b,off,none⟩) L.length c) k (Cell.sz α) b (off+k * Cell.sz α)::ro b (off+k * Cell.sz α) (Cell.cells (L[k]'h) y)::Cell.facts (L[k]'h) y) (fun A hA=>?_)
 ·simpa using this
 ·rcases List.mem_cons.1 hA with rfl | hA
  ·exact ⟨off,L.length,c,rfl,rfl,h⟩
  ·rcases List.mem_cons.1 hA with rfl | hA
   ·exact ⟨hb,hlt,hy⟩
   ·exact hf A hA
theorem JC.open_ [Dr] {α:Type} {ic:Cell α} {c:Code} {v:Value} {L:List α} (k:Nat) (hL:HasSl Γ v α ic L) (h:k < L.length)
  (K:∀ b o y,JC P n w0 F c Q e (.st (elA v k (Cell.sz α) b o)::.st (ro b o (Cell.cells (L[k]'h) y))::((Cell.facts (L[k]'h) y).map Fact.st++Γ))):JC P n w0 F c Q e Γ :=
 fun a w fr ho=>let ⟨b,o,y,ho'⟩:=ho.open_ k hL h; K b o y a w fr ho'
theorem Xg1 [Dr] {c:Code} (v:Value) {L:List ID} (k:Nat) [hL:HasSl Γ v ID iI L] (h:k < L.length)
  (K:∀ b o,JC P n w0 F c Q e (.st (elA v k 32 b o)::.st (ro b o (idc (L[k]'h)))::Γ)):JC P n w0 F c Q e Γ:=JC.open_ k hL h fun b o _=>K b o
theorem Xe4 [Dr] {c:Code} (v:Value) {L:List Commit} (k:Nat) [hL:HasSl Γ v Commit iI L] (h:k < L.length)
  (K:∀ b o p q,JC P n w0 F c Q e (.st (elA v k 8 b o) ::
   .st (ro b o [.int .i64 (L[k]'h).ev.node, .int .i64 (L[k]'h).ev.seq, .int .i64 (L[k]'h).gen, .slice p (L[k]'h).parents.length q, .int .i64 (L[k]'h).op.kind, .string (L[k]'h).op.key, .string (L[k]'h).op.elem, .int .i64 (L[k]'h).op.n]) ::
    .st (sl p q (L[k]'h).parents)::Γ)):JC P n w0 F c Q e Γ:=JC.open_ k hL h fun b o (y:Option Addr × Nat)=>K b o y.1 y.2
end
section
variable {P:Program} {ops:Array Oper} {C:World→Prop} {R:Exit→Act→World→Prop} [Dr]
def Xn4:Exit→Act→World→Prop:=fun _ _ _=>False
def mOp (P:Program) (ops:Array Oper) (i:Nat) (K:Act→World→Prop) (a:Act) (w:World):Prop :=
 match ops[i]? with
 | none=>K a w
 | some o=>if Region.wanted o (yielded ops a.tmps) then o.wp P a w (fun a' w'=>Bel w.heap.size w w'∧K a' w') Xn4 else K (a.put o.dst undef) w
end
section
variable {P:Program} {ops:Array Oper} {C:World→Prop} {R:Exit→Act→World→Prop}
theorem Xn5 {o:Oper} {a:Act} {w:World} {K K':Act→World→Prop} (hk:∀ a w,K a w→K' a w) (h:o.wp P a w K Xn4):o.wp P a w K' R:=by
 have h':=Oper.wp_mono (P:=P) hk h
 clear h
 unfold Oper.wp at *
 generalize (execOp a.eval o).run P w=r at *
 cases r with
 | ok n w' =>
  cases n <;> simp only [Oper.upon] at h' ⊢ <;> first | exact h' | skip
  refine Calls.mono h' fun e w'' he=>?_
  cases e <;> first | exact he | exact he.elim | skip
  obtain ⟨_,_,h⟩:=he
  exact h.elim
 | halt x w'=>cases x <;> simp only [Oper.upon] at h' ⊢ <;> first | exact h' | exact h'.elim
end
section
variable {P:Program} {ops:Array Oper} {C:World→Prop} {R:Exit→Act→World→Prop} [Dr]
def mAny (P:Program) (ops:Array Oper) (m:Nat) (R:Exit→Act→World→Prop):Nat→Array Bool→Act→World→Prop
 | 0,listed,a,w=>Region.ready .any ops listed=[]∧R .normal a w
 | fuel+1,listed,a,w =>
  (Region.ready .any ops listed=[]→R .normal a w) ∧
  ∀ i∈Region.ready .any ops listed,if i < m then mOp P ops i (fun a' w'=>∀ w'',Bel w'.heap.size w' w''→mAny P ops m R fuel (listed.setIfInBounds i true) a' w'') a w else wpOp P ops R i (mAny P ops m R fuel (listed.setIfInBounds i true)) a w
theorem X2c {i:Nat} {K K':Act→World→Prop} {a:Act} {w:World} (hk:∀ a w,K a w→K' a w) (h:mOp P ops i K a w):wpOp P ops R i K' a w:=by
 unfold mOp at h
 unfold wpOp
 split
 ·rename_i ho; simp only [ho] at h; exact hk _ _ h
 ·rename_i o ho
  simp only [ho] at h
  split
  ·rename_i hw; simp only [hw,if_true] at h; exact .inl (Xn5 (fun a w h=>hk a w h.2) h)
  ·rename_i hw; simp only [hw] at h; exact hk _ _ h
theorem Xpx {m:Nat}:∀ (fuel:Nat) (listed:Array Bool) (a:Act) (w:World),mAny P ops m R fuel listed a w→wpAny P .any ops R fuel listed a w
 | 0,_,_,_,h=>h
 | fuel+1,listed,a,w,h=>⟨h.1,fun i hi=>by
   have:=h.2 i hi
   split at this
   ·exact X2c (fun a w h=>Xpx fuel _ a w (h w (Bel.refl _ _))) this
   ·exact wpOp_mono (fun a w=>Xpx fuel _ a w) this⟩
def Xdu (P:Program) (o:Oper) (v:Value) (a:Act) (w:World):Prop :=
 match (execOp a.eval o).run P w with
 | .ok (.value u) w'=>u=v∧w'=w
 | .ok (.enter f args) w'=>Calls P f args w' (fun x w''=>x = .returned v∧Bel w.heap.size w w'')
 | _=>False
def YieldsC (P:Program) (ops:Array Oper) (C:World→Prop) (o:Oper) (v:Value) (a:Act):Prop :=
 (Region.wanted o (yielded ops a.tmps)=true∧∀ w,C w→Xdu P o v a w)∨(Region.wanted o (yielded ops a.tmps)=false∧v=undef)
theorem YieldsC.mOp {i:Nat} {o:Oper} {v:Value} {a:Act} (hi:ops[i]? = some o) (hy:YieldsC P ops C o v a) {K:Act→World→Prop} {w:World} (hC:C w) (h:∀ w',Bel w.heap.size w w'→K (a.put o.dst v) w'):mOp P ops i K a w:=by
 unfold Ab.mOp
 simp only [hi]
 rcases hy with ⟨hw,hv⟩ | ⟨hw,rfl⟩
 ·simp only [hw,if_true]
  have h1:=hv w hC
  unfold Xdu at h1
  unfold Oper.wp
  generalize (execOp a.eval o).run P w=r at *
  cases r with
  | ok n w' =>
   cases n <;> simp only [Oper.upon] at h1 ⊢ <;> first | exact h1.elim | skip
   case value u =>
    obtain ⟨rfl,rfl⟩:=h1
    exact ⟨Bel.refl _ _,h _ (Bel.refl _ _)⟩
   case enter f args =>
    refine Calls.mono h1 fun x w'' hx=>?_
    obtain ⟨rfl,hb⟩:=hx
    exact ⟨hb,h _ hb⟩
  | halt x w'=>exact h1.elim
 ·simp only [hw,Bool.false_eq_true,if_false]; exact h w (Bel.refl _ _)
theorem YieldsC.same {o:Oper} {v:Value} {a a':Act} (hy:YieldsC P ops C o v a) (he:execOp a'.eval o=execOp a.eval o)
  (hw:Region.wanted o (yielded ops a'.tmps)=Region.wanted o (yielded ops a.tmps)):YieldsC P ops C o v a':=by
 unfold YieldsC Xdu at *
 rw [he,hw]
 exact hy
theorem X0k {j:Nat} {oi oj:Oper} {v:Value} (hj:ops[j]? = some oj) (hap:oi.apart ops oj=true)
  (hsi:∀ cs b,oi.op≠.select cs b) (hsj:∀ cs b,oj.op≠.select cs b) {K:Act→World→Prop} {a:Act} {w:World}
  (hC:∀ w w',C w→Bel w.heap.size w w'→C w') (hw0:C w) (hy:YieldsC P ops C oi v a) (h:mOp P ops j K (a.put oi.dst v) w) :
  mOp P ops j (fun a' w'=>(C w'∧YieldsC P ops C oi v a')∧K (a'.put oi.dst v) w') a w:=by
 obtain ⟨h1,h2,h3⟩:=Oper.apart_spec hap
 have keep:∀ u,YieldsC P ops C oi v (a.put oj.dst u):=fun u=>hy.same (execOp_put oi hsi a oj.dst u h3) (wanted_put oi a oj.dst u h3)
 unfold mOp at *
 simp only [hj] at *
 rw [wanted_put oj a oi.dst v h1] at h
 split
 ·rename_i hw
  simp only [hw,if_true] at h
  unfold Oper.wp at *
  rw [execOp_put oj hsj a oi.dst v h1] at h
  generalize (execOp a.eval oj).run P w=r at *
  have put:∀ u w',(Bel w.heap.size w w'∧K ((a.put oi.dst v).put oj.dst u) w')→(Bel w.heap.size w w'∧(C w'∧YieldsC P ops C oi v (a.put oj.dst u))∧K ((a.put oj.dst u).put oi.dst v) w') :=
   fun u w' hh=>⟨hh.1,⟨hC w w' hw0 hh.1,keep u⟩,by rw [← Act.put_comm a v u h2]; exact hh.2⟩
  cases r with
  | ok n w' =>
   cases n <;> simp only [Oper.upon] at h ⊢
   case value u=>exact put u _ h
   case skip=>exact put undef _ h
   case defer d =>
    have hd:YieldsC P ops C oi v ({ a with defers:=d::a.defers }:Act):=hy.same rfl rfl
    refine ⟨h.1,⟨hC w _ hw0 h.1,hd.same (execOp_put oi hsi _ oj.dst undef h3) (wanted_put oi _ oj.dst undef h3)⟩,?_⟩
    rw [← Act.put_comm _ v undef h2,← Act.put_defers]
    exact h.2
   case enter f args =>
    refine Calls.mono h fun e w'' he=>?_
    cases e with
    | returned u=>exact put u _ he
    | panicked c=>exact he
    | outgrown=>exact he
   case row row args=>exact Rows.mono h fun u w'' he=>put u _ he
  | halt x w' =>
   cases x <;> simp only [Oper.upon] at h ⊢
   case panic u=>exact h
 ·rename_i hw
  simp only [hw] at h
  exact ⟨⟨hw0,keep _⟩,by rw [← Act.put_comm a v undef h2]; exact h⟩
theorem Xx4 {i:Nat} {K K':Act→World→Prop} {a:Act} {w:World} (hk:∀ a w,K a w→K' a w) (h:mOp P ops i K a w):mOp P ops i K' a w:=by
 unfold mOp at *
 split
 ·rename_i ho; simp only [ho] at h; exact hk _ _ h
 ·rename_i o ho
  simp only [ho] at h
  split
  ·rename_i hw; simp only [hw,if_true] at h; exact Oper.wp_mono (fun a w h=>⟨h.1,hk _ _ h.2⟩) h
  ·rename_i hw; simp only [hw] at h; exact hk _ _ h
theorem Xsl {m i:Nat} {oi:Oper} {v:Value} (hi:ops[i]? = some oi) (him:i < m) (hsel:∀ (j:Nat) (o:Oper) cs b,ops[j]? = some o→o.op≠.select cs b)
  (hC:∀ w w',C w→Bel w.heap.size w w'→C w') (dep:Nat→Bool) (hdep:∀ k o,ops[k]? = some o→dep k=true→∃ e∈o.after,Region.binds .any e=true∧(e.on=i∨dep e.on=true)) (htail:∀ k o,ops[k]? = some o→m≤k→dep k=true) :
  ∀ (fuel:Nat) (listed:Array Bool) (a:Act) (w:World),
   (∀ j oj,ops[j]? = some oj→j≠i→listed.getD j true=false→(∀ e∈oj.after,Region.binds .any e=true→e.on≠i)→oi.apart ops oj=true) →
   (∀ k,dep k=true→listed.getD k false=false)→i∈Region.ready .any ops listed→C w→YieldsC P ops C oi v a →
   (∀ w',Bel w.heap.size w w'→mAny P ops m R fuel (listed.setIfInBounds i true) (a.put oi.dst v) w')→mAny P ops m R (fuel+1) listed a w:=by
 intro fuel
 induction fuel with
 | zero =>
  intro listed a w _ _ hr hw hy H
  refine ⟨fun h=>(by rw [h] at hr; cases hr),fun j hj=>?_⟩
  by_cases hji:j=i
  ·subst hji; rw [if_pos him]; exact hy.mOp hi hw (fun w' hb w'' hb'=>H w'' (hb.trans (hb'.mono hb.size)))
  ·have:=ready_mono hj hji
   rw [(H w (Bel.refl _ _)).1] at this
   cases this
 | succ fuel ih =>
  intro listed a w hfree hcl hr hw hy H
  refine ⟨fun h=>(by rw [h] at hr; cases hr),fun j hj=>?_⟩
  by_cases hji:j=i
  ·subst hji; rw [if_pos him]; exact hy.mOp hi hw (fun w' hb w'' hb'=>H w'' (hb.trans (hb'.mono hb.size)))
  ·have h1:=(H w (Bel.refl _ _)).2 j (ready_mono hj hji)
   obtain ⟨hjun,oj,hoj,hall⟩:=mem_ready.1 hj
   have hnot:∀ e∈oj.after,Region.binds .any e=true→e.on≠i:=fun e he hb heq=>by
    have h1:=hall e he hb
    have h0:=(mem_ready.1 hr).1
    rw [heq] at h1
    rcases Nat.lt_or_ge i listed.size with h' | h'
    ·simp [h'] at h0 h1; rw [h0] at h1; cases h1
    ·simp [Array.getElem?_eq_none h'] at h1
   have hjd:dep j=false:=by
    rw [← Bool.not_eq_true]
    intro hd
    obtain ⟨e,he,hb,hon⟩:=hdep j oj hoj hd
    rcases hon with hon | hon
    ·exact hnot e he hb hon
    ·have:=hall e he hb
     rw [hcl _ hon] at this
     cases this
   have hjm:j < m:=by
    rcases Nat.lt_or_ge j m with h | h
    ·exact h
    ·rw [htail j oj hoj h] at hjd; cases hjd
   have hcl':∀ k,dep k=true→(listed.setIfInBounds j true).getD k false=false:=fun k hk=>by
    have hjk:j≠k:=fun e=>by subst e; rw [hk] at hjd; cases hjd
    rw [getD_set_ne false hjk]
    exact hcl k hk
   rw [if_pos hjm] at h1 ⊢
   have h2:=X0k hoj (hfree j oj hoj hji hjun hnot) (fun cs b=>hsel i oi cs b hi) (fun cs b=>hsel j oj cs b hoj) hC hw hy h1
   have hfree':∀ k ok,ops[k]? = some ok→k≠i→(listed.setIfInBounds j true).getD k true=false →
     (∀ e∈ok.after,Region.binds .any e=true→e.on≠i)→oi.apart ops ok=true:=fun k ok hk hki hun hno=>by
    refine hfree k ok hk hki ?_ hno
    by_cases hjk:j=k
    ·subst hjk; exact hjun
    ·rw [getD_set_ne true hjk] at hun; exact hun
   refine Xx4 (fun a' w' h3 w2 hb2=>ih (listed.setIfInBounds j true) a' w2 hfree' hcl' (ready_mono hr (Ne.symm hji)) (hC _ _ h3.1.1 hb2) h3.1.2 (fun w3 hb3=>?_)) h2
   rw [Array.setIfInBounds_comm _ _ hji]
   exact h3.2 w3 (hb2.trans (hb3.mono hb2.size))
end
def JM [Dr] (P:Program) (n:Nn) (w0:World) (F:Nat→Prop) (ops:List Oper) (m fuel:Nat) (done:List Bool) (Q:Cont) (e:E) (Γ:List Fact):Prop :=
 ∀ a w,Fr n e a→Hold w0 F Γ w→mAny P ⟨ops⟩ m (up n w0 F Q) fuel ⟨done⟩ a w
section
variable {P:Program} {n:Nn} {w0:World} {F:Nat→Prop} {ops:List Oper} {m fuel i d:Nat} {done done':List Bool} {t:TypeId} {pos:String} {aft:Array Edge} {g:Option (Nat × Bool)} {Q:Cont} {e:E} {Γ:List Fact} [Dr]
theorem Xca {id:Nat} (m:Nat) (hm:P.follows .mixedOrders=true) (h:JM P n w0 F ops m ops.length (List.replicate ops.length false) Q e Γ):JC P n w0 F (.region id ⟨ops⟩ true) Q e Γ:=by
 intro a w fr ho
 refine wp_region_any hm ?_
 have:=Xpx _ _ _ _ (h a w.drew fr ho.drew)
 have e1:(⟨List.replicate ops.length false⟩:Array Bool)=Array.replicate (⟨ops⟩:Array Oper).size false:=by apply Array.ext'; simp
 rw [← e1]
 exact this
theorem JM.nil (hr:Region.ready .any ⟨ops⟩ ⟨done⟩=[]) (h:Q .normal e Γ):JM P n w0 F ops m fuel done Q e Γ:=by
 intro a w fr ho
 cases fuel with
 | zero=>exact ⟨hr,e,Γ,h,fr,ho⟩
 | succ fuel=>exact ⟨fun _=>⟨e,Γ,h,fr,ho⟩,by rw [hr]; simp⟩
def Xc3 (ops:List Oper) (i:Nat):List Bool :=
 ops.foldl (fun acc o=>acc++[o.after.any fun e=>Region.binds .any e && (e.on == i || acc.getD e.on false)]) []
def X2d (ops:List Oper) (m:Nat) (done:List Bool) (i:Nat) (dep:List Bool):Bool :=
 (List.range ops.length).all fun k=>(decide (k < m) || dep.getD k false) && (!dep.getD k false || (!done.getD k false && (match ops[k]? with | some o=>o.after.any fun e=>Region.binds .any e && (e.on == i || dep.getD e.on false) | none=>false)))
def Xjx (ops:List Oper) (m:Nat) (done:List Bool) (i:Nat):Bool :=
 decide (i < m) && Region.noSelect ⟨ops⟩ && Region.free .any ⟨ops⟩ ⟨done⟩ i && (Region.ready .any ⟨ops⟩ ⟨done⟩).contains i && (X2d ops m done i (Xc3 ops i) && Nat.beq (Xc3 ops i).length ops.length)
theorem Xms {o:Oper} {v:Value} (hi:ops[i]? = some o) (hok:Xjx ops m done i=true) (hy:∀ a,Fr n e a→YieldsC P ⟨ops⟩ (Hold w0 F Γ) o v a)
  (h:∀ a w,Fr n e a→Hold w0 F Γ w→mAny P ⟨ops⟩ m (up n w0 F Q) fuel ⟨done.set i true⟩ (a.put o.dst v) w):JM P n w0 F ops m (fuel+1) done Q e Γ:=by
 intro a w fr ho
 simp only [Xjx,Bool.and_eq_true,decide_eq_true_eq] at hok
 obtain ⟨⟨⟨⟨h1,h2⟩,h3⟩,h4⟩,h5⟩:=hok
 have hi':(⟨ops⟩:Array Oper)[i]? = some o:=by simpa using hi
 have h6:∀ k,k < ops.length→(k < m∨(Xc3 ops i).getD k false=true)∧((Xc3 ops i).getD k false=true→done.getD k false=false∧∃ o,ops[k]? = some o∧∃ e∈o.after,Region.binds .any e=true∧(e.on=i∨(Xc3 ops i).getD e.on false=true)):=by
  intro k hk
  have h7:=List.all_eq_true.1 h5.1 k (List.mem_range.2 hk)
  simp only [Bool.and_eq_true,Bool.or_eq_true,decide_eq_true_eq,Bool.not_eq_true'] at h7
  refine ⟨h7.1,fun hd=>?_⟩
  rcases h7.2 with h8 | h8
  ·rw [hd] at h8; cases h8
  ·refine ⟨h8.1,ops[k],List.getElem?_eq_getElem hk,?_⟩
   have h9:=h8.2
   rw [List.getElem?_eq_getElem hk] at h9
   obtain ⟨e,he,hb⟩:=Array.any_eq_true'.1 h9
   simp only [Bool.and_eq_true,Bool.or_eq_true,beq_iff_eq] at hb
   exact ⟨e,he,hb.1,hb.2⟩
 have hlen:(Xc3 ops i).length=ops.length:=Nat.eq_of_beq_eq_true h5.2
 have hdl:∀ k,(Xc3 ops i).getD k false=true→k < ops.length:=by
  intro k hk
  rcases Nat.lt_or_ge k ops.length with h | h
  ·exact h
  ·rw [List.getD_eq_getElem?_getD,List.getElem?_eq_none (by omega)] at hk; cases hk
 refine Xsl (C:=Hold w0 F Γ) hi' h1 (Region.noSelect_spec h2) (fun w w' h hb=>h.of_below hb) (fun k=>(Xc3 ops i).getD k false) (fun k o' hk hd=>?_) (fun k o' hk hmk=>?_) fuel ⟨done⟩ a w (Region.free_spec hi' h3) (fun k hk=>?_) (by simpa using h4) ho (hy a fr) ?_
 ·obtain ⟨o2,ho2,h⟩:=((h6 k (hdl k hd)).2 hd).2
  have:ops[k]? = some o':=by simpa using hk
  rw [this] at ho2
  injection ho2 with ho2
  subst ho2
  exact h
 ·have hkl:k < ops.length:=by
   have:ops[k]? = some o':=by simpa using hk
   exact (List.getElem?_eq_some_iff.1 this).1
  rcases (h6 k hkl).1 with h | h
  ·omega
  ·exact h
 ·have:=((h6 k (hdl k hk)).2 hk).1
  simpa using this
 ·intro w' hb
  have:=h a w' fr (ho.of_below hb)
  simpa using this
theorem JM.take {op:Op} {v:Value} (i:Nat) (hi:ops[i]? = some ⟨some d,op,t,pos,aft,g⟩) (hok:Xjx ops m done i=true) (hg:Xbj ops e g=some true) (h:OpV P n w0 F ⟨some d,op,t,pos,aft,g⟩ e Γ v) (hd:Nat.blt d n.s=true)
  (hdone:done.set i true=done') (k:JM P n w0 F ops m fuel done' Q ((d,v)::e) Γ):JM P n w0 F ops m (fuel+1) done Q e Γ :=
 Xms hi hok (fun a fr=>.inl ⟨Xa9 (o:=⟨some d,op,t,pos,aft,g⟩) hg fr,fun w ho=>by unfold Xdu; rw [h a w fr ho]; exact ⟨rfl,rfl⟩⟩) fun a w fr ho=>by rw [hdone]; exact k _ w (fr.put hd v) ho
theorem JM.omit {op:Op} (i:Nat) (hi:ops[i]? = some ⟨some d,op,t,pos,aft,g⟩) (hok:Xjx ops m done i=true) (hg:Xbj ops e g=some false) (hd:Nat.blt d n.s=true)
  (hdone:done.set i true=done') (k:JM P n w0 F ops m fuel done' Q ((d,undef)::e) Γ):JM P n w0 F ops m (fuel+1) done Q e Γ :=
 Xms hi hok (fun a fr=>.inr ⟨Xa9 (o:=⟨some d,op,t,pos,aft,g⟩) hg fr,rfl⟩) fun a w fr ho=>by rw [hdone]; exact k _ w (fr.put hd _) ho
theorem JM.takeCall {v:Value} {f:Operand} {args:Array Operand} {ats:Array TypeId} {fid:FuncId} {caps vs us:List Value} (i:Nat) (hi:ops[i]? = some ⟨some d, .call ⟨.value f,args,ats⟩,t,pos,aft,g⟩) (hok:Xjx ops m done i=true) (hg:Xbj ops e g=some true)
  [hf:Fun e f fid caps] [hv:ArgVs e args.toList vs] [hu:App vs caps us] [hb:Body P fid] (hc:∀ w,Hold w0 F Γ w→GivesV P fid us w (fp w0 F Γ) v) (hd:Nat.blt d n.s=true)
  (hdone:done.set i true=done') (k:JM P n w0 F ops m fuel done' Q ((d,v)::e) Γ):JM P n w0 F ops m (fuel+1) done Q e Γ :=
 Xms hi hok (fun a fr=>.inl ⟨Xa9 (o:=⟨some d, .call ⟨.value f,args,ats⟩,t,pos,aft,g⟩) hg fr,fun w ho=>by
  unfold Xdu
  rw [Xf6 fr hf hv hu hb]
  exact Calls.mono (hc w ho) fun x w' ⟨_,hx,hbel,_⟩=>⟨hx,hbel⟩⟩) fun a w fr ho=>by rw [hdone]; exact k _ w (fr.put hd v) ho
def JS (P:Program) (n:Nn) (w0:World) (F:Nat→Prop) (o:Oper) (e:E) (Γ:List Fact) (K:E→List Fact→Prop):Prop :=
 ∀ a w,Fr n e a→Hold w0 F Γ w→o.wp P a w (fun a' w'=>Bel w.heap.size w w'∧∃ e' Γ',K e' Γ'∧Fr n e' a'∧Hold w0 F Γ' w') Xn4
theorem JM.all {rs:List Nat} (hr:Region.ready .any ⟨ops⟩ ⟨done⟩=rs) (hne:rs.isEmpty=false)
  (h:∀ i∈rs,i < m∧∃ o,ops[i]? = some o∧Xbj ops e o.guard=some true∧JS P n w0 F o e Γ (JM P n w0 F ops m fuel (done.set i true) Q)):JM P n w0 F ops m (fuel+1) done Q e Γ:=by
 intro a w fr ho
 refine ⟨fun h0=>?_,fun i hi=>?_⟩
 ·rw [h0] at hr; subst hr; cases hne
 ·rw [hr] at hi
  obtain ⟨him,o,hio,hg,hs⟩:=h i hi
  have hi':(⟨ops⟩:Array Oper)[i]? = some o:=by simpa using hio
  rw [if_pos him]
  unfold mOp
  simp only [hi']
  rw [if_pos (Xa9 hg fr)]
  refine Oper.wp_mono (fun a' w' h=>⟨h.1,fun w2 hb2=>?_⟩) (hs a w fr ho)
  obtain ⟨e',Γ',hk,fr',ho'⟩:=h.2
  have:=hk a' w2 fr' (ho'.of_below hb2)
  simpa using this
theorem JM.one {o:Oper} (i:Nat) (hr:Region.ready .any ⟨ops⟩ ⟨done⟩=[i]) (him:Nat.blt i m=true) (hi:ops[i]? = some o) (hg:Xbj ops e o.guard=some true) (hdone:done.set i true=done')
  (h:JS P n w0 F o e Γ (JM P n w0 F ops m fuel done' Q)):JM P n w0 F ops m (fuel+1) done Q e Γ :=
 JM.all hr rfl fun j hj=>by
  simp only [List.mem_singleton] at hj; subst hj
  exact ⟨Nat.blt_eq.mp him,o,hi,hg,by rw [hdone]; exact h⟩
theorem Xrg {o o':Oper} {done1 done2:List Bool} (i j:Nat) (hr:Region.ready .any ⟨ops⟩ ⟨done⟩=[i,j]) (him:Nat.blt i m=true) (hjm:Nat.blt j m=true) (hi:ops[i]? = some o) (hj:ops[j]? = some o') (hg:Xbj ops e o.guard=some true) (hg':Xbj ops e o'.guard=some true)
  (hd1:done.set i true=done1) (hd2:done.set j true=done2)
  (h:JS P n w0 F o e Γ (JM P n w0 F ops m fuel done1 Q)) (h':JS P n w0 F o' e Γ (JM P n w0 F ops m fuel done2 Q)):JM P n w0 F ops m (fuel+1) done Q e Γ :=
 JM.all hr rfl fun k hk=>by
  simp only [List.mem_cons,List.not_mem_nil,or_false] at hk
  rcases hk with rfl | rfl
  ·exact ⟨Nat.blt_eq.mp him,o,hi,hg,by rw [hd1]; exact h⟩
  ·exact ⟨Nat.blt_eq.mp hjm,o',hj,hg',by rw [hd2]; exact h'⟩
theorem JS.val {op:Op} {v:Value} {K:E→List Fact→Prop} (h:OpV P n w0 F ⟨some d,op,t,pos,aft,g⟩ e Γ v) (hd:Nat.blt d n.s=true) (k:K ((d,v)::e) Γ):JS P n w0 F ⟨some d,op,t,pos,aft,g⟩ e Γ K:=by
 intro a w fr ho
 unfold Oper.wp
 rw [h a w fr ho]
 exact ⟨Bel.refl _ _,_,_,k,fr.put hd v,ho⟩
theorem JS.alloc {K:E→List Fact→Prop} {ty:TypeId} {td:TypeDesc} {sz by_:Nat} {z:Value} {cs:List Value} [hT:Ty P ty td sz by_ z] [hc:Cel z cs] (hd:Nat.blt d n.s=true)
  (k:∀ b,K ((d, .pointer (some ⟨b,0,none⟩))::e) (.own b ty cs::Γ)):JS P n w0 F ⟨some d, .alloc ty,t,pos,aft,g⟩ e Γ K:=by
 intro a w fr ho
 have hrun:(execOp a.eval ⟨some d, .alloc ty,t,pos,aft,g⟩).run P w = .ok (.value (.pointer (some ⟨w.heap.size,0,none⟩))) (w.alloc (.cells cs.toArray ty (0,0))):=by
  simp only [execOp,Instr.alloc,Sem.run_bind,Xf5 (P:=P) (t:=ty) w,Result.andThen_ok,newVar,newRow,Xbt (v:=z) (cs:=cs),run_newObj,Sem.run_pure]
  rfl
 unfold Oper.wp
 rw [hrun]
 exact ⟨(Bel.refl _ _).alloc (Nat.le_refl _) _,_,_,k w.heap.size,fr.put hd _,ho.alloc ty cs⟩
theorem JS.call {K:E→List Fact→Prop} {f:Operand} {args:Array Operand} {ats:Array TypeId} {fid:FuncId} {caps vs us:List Value} {Y:Type} {v:Y→Value} {B:Y→List Fact}
  [hf:Fun e f fid caps] [hv:ArgVs e args.toList vs] [hu:App vs caps us] [hb:Body P fid] (hd:Nat.blt d n.s=true)
  (hg:∀ w,Hold w0 F Γ w→Gives P fid us w (fp w0 F Γ) v B) (k:∀ y,K ((d,v y)::e) (B y++Γ)):JS P n w0 F ⟨some d, .call ⟨.value f,args,ats⟩,t,pos,aft,g⟩ e Γ K:=by
 intro a w fr ho
 unfold Oper.wp
 rw [Xf6 fr hf hv hu hb]
 refine Calls.mono (hg w ho) ?_
 rintro x w' ⟨y,rfl,hbel,hfr⟩
 exact ⟨hbel,_,_,k y,fr.put hd _,ho.call hbel hfr⟩
theorem JS.call1 {K:E→List Fact→Prop} {f:Operand} {args:Array Operand} {ats:Array TypeId} {fid:FuncId} {caps vs us:List Value} {Y:Type} {v:Y→Value} {B:Y→Fact}
  [hf:Fun e f fid caps] [hv:ArgVs e args.toList vs] [hu:App vs caps us] [hb:Body P fid] (hd:Nat.blt d n.s=true)
  (hg:∀ w,Hold w0 F Γ w→Gives P fid us w (fp w0 F Γ) v (fun y=>[B y])) (k:∀ y,K ((d,v y)::e) (B y::Γ)):JS P n w0 F ⟨some d, .call ⟨.value f,args,ats⟩,t,pos,aft,g⟩ e Γ K:=JS.call hd hg k
theorem JS.callV {K:E→List Fact→Prop} {f:Operand} {args:Array Operand} {ats:Array TypeId} {fid:FuncId} {caps vs us:List Value} {v:Value}
  [hf:Fun e f fid caps] [hv:ArgVs e args.toList vs] [hu:App vs caps us] [hb:Body P fid] (hd:Nat.blt d n.s=true)
  (hg:∀ w,Hold w0 F Γ w→GivesV P fid us w (fp w0 F Γ) v) (k:K ((d,v)::e) Γ):JS P n w0 F ⟨some d, .call ⟨.value f,args,ats⟩,t,pos,aft,g⟩ e Γ K:=JS.call hd hg fun _=>k
theorem JS.callSl {K:E→List Fact→Prop} {α:Type} [Cell α] {L:List α} {f:Operand} {args:Array Operand} {ats:Array TypeId} {fid:FuncId} {caps vs us:List Value}
  [hf:Fun e f fid caps] [hv:ArgVs e args.toList vs] [hu:App vs caps us] [hb:Body P fid] (hd:Nat.blt d n.s=true)
  (hg:∀ w,Hold w0 F Γ w→Xcp P fid us w (fp w0 F Γ) L) (k:∀ a c,K ((d, .slice a L.length c)::e) (.st (sl a c L)::Γ)):JS P n w0 F ⟨some d, .call ⟨.value f,args,ats⟩,t,pos,aft,g⟩ e Γ K :=
 JS.call hd hg fun y=>k y.1 y.2
theorem JS.callBuf {K:E→List Fact→Prop} {α:Type} [Cell α] {L:List α} {el:TypeId} {f:Operand} {args:Array Operand} {ats:Array TypeId} {fid:FuncId} {caps vs us:List Value}
  [hf:Fun e f fid caps] [hv:ArgVs e args.toList vs] [hu:App vs caps us] [hb:Body P fid] (hd:Nat.blt d n.s=true)
  (hg:∀ w,Hold w0 F Γ w→GivesBuf P fid us w (fp w0 F Γ) el L) (k:∀ a c,K ((d, .slice a L.length c)::e) (.res (buf a c el L)::Γ)):JS P n w0 F ⟨some d, .call ⟨.value f,args,ats⟩,t,pos,aft,g⟩ e Γ K :=
 JS.call hd hg fun y=>k y.1 y.2
theorem JS.value {K:E→List Fact→Prop} {op:Op} (hd:Nat.blt d n.s=true)
  (h:∀ a w,Fr n e a→Hold w0 F Γ w→∃ v w' Γ',(execOp a.eval ⟨some d,op,t,pos,aft,g⟩).run P w = .ok (.value v) w'∧Bel w.heap.size w w'∧Hold w0 F Γ' w'∧K ((d,v)::e) Γ'):JS P n w0 F ⟨some d,op,t,pos,aft,g⟩ e Γ K:=by
 intro a w fr ho
 obtain ⟨v,w',Γ',hr,hb,ho',h⟩:=h a w fr ho
 unfold Oper.wp
 rw [hr]
 exact ⟨hb,_,_,h,fr.put hd v,ho'⟩
theorem JM.tail {os:List Oper} (h:∀ (a:Act) (w:World),Fr n e a→Hold w0 F Γ w→mAny P ⟨ops⟩ m (up n w0 F Q) fuel ⟨done⟩ a w):JM P n w0 F ops m fuel done Q e Γ:=h
theorem Xrh {o:Oper} (i:Nat) (hi:ops[i]? = some o) (hg:Xbj ops e o.guard=some true)
  (h:JR P n w0 F ⟨[o]⟩ 0 o [] (fun x e' Γ'=>x = .normal∧JM P n w0 F ops m fuel (done.set i true) Q e' Γ') e Γ) (a:Act) (w:World) (fr:Fr n e a) (ho:Hold w0 F Γ w) :
  wpOp P ⟨ops⟩ (up n w0 F Q) i (mAny P ⟨ops⟩ m (up n w0 F Q) fuel ((⟨done⟩:Array Bool).setIfInBounds i true)) a w:=by
 have hi':(⟨ops⟩:Array Oper)[i]? = some o:=by simpa using hi
 unfold wpOp
 simp only [hi']
 rw [if_pos (Xa9 hg fr)]
 refine .inl ?_
 have h1:=h rfl a w fr ho
 have key:∀ (K K':Act→World→Prop) (Q1 Q2:Exit→Act→World→Prop),(∀ a w,K a w→K' a w)→(∀ x a w,Q1 x a w→x = .normal)→o.wp P a w K Q1→o.wp P a w K' Q2:=by
  intro K K' Q1 Q2 hk hq hh
  have hh':=Oper.wp_mono (P:=P) hk hh
  unfold Oper.wp at *
  generalize (execOp a.eval o).run P w=r at *
  cases r with
  | ok n w' =>
   cases n <;> simp only [Oper.upon] at hh' ⊢ <;> first | exact hh' | skip
   refine Calls.mono hh' fun e w'' he=>?_
   cases e with
   | returned v=>exact he
   | panicked c=>have:=hq _ _ _ he; cases this
   | outgrown=>obtain ⟨_,_,h⟩:=he; have:=hq _ _ _ h; cases this
  | halt x w'=>cases x <;> simp only [Oper.upon] at hh' ⊢ <;> first | exact hh' | (have:=hq _ _ _ hh'; cases this)
 refine key _ _ _ _ (fun a' w' hk=>?_) ?_ h1
 ·simp only [List.range'_zero,List.length_nil,wpOps] at hk
  obtain ⟨e',Γ',⟨_,hj⟩,fr',ho'⟩:=hk
  have:=hj a' w' fr' ho'
  simpa using this
 ·rintro x a w ⟨e',Γ',⟨hx,_⟩,_⟩
  exact hx
theorem Xah {o:Oper} (i:Nat) (hr:Region.ready .any ⟨ops⟩ ⟨done⟩=[i]) (hi:ops[i]? = some o) (him:Nat.ble m i=true) (hg:Xbj ops e o.guard=some true)
  (h:JR P n w0 F ⟨[o]⟩ 0 o [] (fun x e' Γ'=>x = .normal∧JM P n w0 F ops m fuel (done.set i true) Q e' Γ') e Γ):JM P n w0 F ops m (fuel+1) done Q e Γ:=by
 intro a w fr ho
 refine ⟨fun h0=>?_,fun j hj=>?_⟩
 ·rw [h0] at hr; cases hr
 ·rw [hr] at hj
  simp only [List.mem_singleton] at hj; subst hj
  rw [if_neg (by have:=Nat.le_of_ble_eq_true him; omega)]
  exact Xrh j hi hg h a w fr ho
theorem Xn6 {o o':Oper} {done1:List Bool} (i j:Nat) (hr:Region.ready .any ⟨ops⟩ ⟨done⟩=[i,j]) (him:Nat.blt i m=true) (hjm:Nat.ble m j=true) (hi:ops[i]? = some o) (hj:ops[j]? = some o') (hg:Xbj ops e o.guard=some true) (hg':Xbj ops e o'.guard=some true)
  (hd1:done.set i true=done1) (h:JS P n w0 F o e Γ (JM P n w0 F ops m fuel done1 Q))
  (h':JR P n w0 F ⟨[o']⟩ 0 o' [] (fun x e' Γ'=>x = .normal∧JM P n w0 F ops m fuel (done.set j true) Q e' Γ') e Γ):JM P n w0 F ops m (fuel+1) done Q e Γ:=by
 intro a w fr ho
 refine ⟨fun h0=>?_,fun k hk=>?_⟩
 ·rw [h0] at hr; cases hr
 ·rw [hr] at hk
  simp only [List.mem_cons,List.not_mem_nil,or_false] at hk
  rcases hk with rfl | rfl
  ·have hi':(⟨ops⟩:Array Oper)[k]? = some o:=by simpa using hi
   rw [if_pos (Nat.blt_eq.mp him)]
   unfold mOp
   simp only [hi']
   rw [if_pos (Xa9 hg fr)]
   refine Oper.wp_mono (fun a' w' h=>⟨h.1,fun w2 hb2=>?_⟩) (h a w fr ho)
   obtain ⟨e',Γ',hk,fr',ho'⟩:=h.2
   have:=hk a' w2 fr' (ho'.of_below hb2)
   rw [← hd1] at this
   simpa using this
  ·rw [if_neg (by have:=Nat.le_of_ble_eq_true hjm; omega)]
   exact Xrh k hj hg' h' a w fr ho
end
instance {n:Nat} {v:Value}:Len (List.replicate n v) n:=⟨by simp⟩
theorem GivesV.any [Dr] {P:Program} {f:FuncId} {args:List Value} {w:World} {F G:Nat→Prop} {v:Value} (h:GivesV P f args w F v):GivesV P f args w G v :=
 Calls.mono h fun x w' ⟨y,hx,hb,hf⟩=>⟨y,hx,hb,⟨by simp,by simp,by simp⟩⟩
theorem Xmt {α:Type} [Cell α] {w:World} {a:Option Addr} {c:Nat} {L:List α} {F:Nat→Prop} (h:(sl a c L).holds F w) (hL:L≠[]) :
  ∃ b off,a=some ⟨b,off,none⟩∧F b∧b < w.heap.size∧Xlf F w b off L:=h.2.2.2 hL
theorem Xmu {w:World} {b off c:Nat} {L:List UInt8} {F:Nat→Prop} (h:(sl (some ⟨b,off,none⟩) c L).holds F w) (i:Nat) (hi:i < L.length):w.cell? ⟨b,off+i,none⟩=some (.int .u8 (L[i].toNat:Int)):=by
 obtain ⟨b',off',he,_,_,hrow⟩:=Xmt h (by intro h; subst h; simp at hi)
 injection he with he
 injection he with h1 h2
 subst h1 h2
 obtain ⟨y,hy,_⟩:=hrow i hi
 have:=hy 0 (Xaq L[i]) (by simp [Cell.cells])
 simpa [Cell.sz,Xaq] using this
theorem Xjy {P:Program} {w:World} {a:Option Addr} {c:Nat} {L:List UInt8} {F:Nat→Prop} (h:(sl a c L).holds F w):(Extern.Bytes.bytesOf (.slice a L.length c)).run P w = .ok ⟨L.toArray⟩ w:=by
 cases a with
 | none =>
  have hL:L=[]:=by
   by_cases hL:L=[]
   ·exact hL
   ·obtain ⟨b,off,he,_⟩:=Xmt h hL; cases he
  subst hL
  rfl
 | some a =>
  by_cases hL:L=[]
  ·subst hL; rfl
  obtain ⟨b,off,he,_⟩:=Xmt h hL
  injection he with he
  subst he
  have h1:=Lib.run_loadBytesX (P:=P) w (L.map fun x=>(x.toNat:Int)) ⟨b,off,none⟩ .empty (fun j x hj=>by
   rw [List.getElem?_map] at hj
   cases hq:L[j]? with
   | none=>rw [hq] at hj; cases hj
   | some u =>
    rw [hq] at hj
    obtain ⟨hlt,hu⟩:=List.getElem?_eq_some_iff.1 hq
    have:=Xmu h j hlt
    rw [Addr.add_mid,this,hu]
    simpa using hj)
  rw [List.length_map] at h1
  show (Extern.Bytes.loadBytes ⟨b,off,none⟩ L.length .empty).run P w=_
  rw [h1]
  congr 1
  apply ByteArray.ext
  simp only [Lib.bytesOf,List.map_map]
  have:(((fun n:Int=>n.toNat.toUInt8) ∘ fun x:UInt8=>(x.toNat:Int)))=id:=by funext x; simp
  simp [this]
section
variable {P:Program} {n:Nn} {w0:World} {F:Nat→Prop} {ops:Array Oper} {i:Nat} {d:Option Nat} {t:TypeId} {pos:String} {aft:Array Edge} {g:Option (Nat × Bool)} {os:List Oper} {Q:Cont} {e:E} {Γ:List Fact}
theorem JC.reslot [Dr] {c:Code} (s:Nat) {v:Value} (u:Value) [hs:Lk e s v] (h:v=u) (k:JC P n w0 F c Q ((s,u)::e) Γ):JC P n w0 F c Q e Γ :=
 k.weaken (fun a fr=>fr.again (by rw [← h]; exact hs.ok)) (fun _ h=>h)
theorem Vu [Dr] {x y:Operand} {ty yt:TypeId} {p q:Int} {k m:Nat} [hx:Ev e x (.int .i64 p)] [hy:Ev e y (.int .i64 q)] [hk:NatI p k] [hm:NatI q m] (h:m≤k∧k≤9223372036854775807) :
  OpV P n w0 F ⟨d, .binOp .sub ty x y yt,t,pos,aft,g⟩ e Γ (.int .i64 ((k - m:Nat):Int)):=by
 have h1:=hk.ok
 have h2:=hm.ok
 subst h1 h2
 have:=Vv (P:=P) (n:=n) (w0:=w0) (F:=F) (d:=d) (t:=t) (pos:=pos) (aft:=aft) (g:=g) (e:=e) (Γ:=Γ) (x:=x) (y:=y) (ty:=ty) (yt:=yt) (p:=k) (q:=m) (by omega)
 rwa [show ((k:Int) - (m:Int))=((k - m:Nat):Int) by omega] at this
theorem Vs [Dr] {x y:Operand} {ty yt:TypeId} {p q:Int} {k m:Nat} [hx:Ev e x (.int .i64 p)] [hy:Ev e y (.int .i64 q)] [hk:NatI p k] [hm:NatI q m] (h:k+m≤9223372036854775807) :
  OpV P n w0 F ⟨d, .binOp .add ty x y yt,t,pos,aft,g⟩ e Γ (.int .i64 ((k+m:Nat):Int)):=by
 have h1:=hk.ok
 have h2:=hm.ok
 subst h1 h2
 have:=Vt (P:=P) (n:=n) (w0:=w0) (F:=F) (d:=d) (t:=t) (pos:=pos) (aft:=aft) (g:=g) (e:=e) (Γ:=Γ) (x:=x) (y:=y) (ty:=ty) (yt:=yt) (p:=k) (q:=m) (by omega)
 rwa [show ((k:Int)+(m:Int))=((k+m:Nat):Int) by omega] at this
theorem Xht [Dr] {f:Operand} {args:Array Operand} {ats:Array TypeId} {fid:FuncId} {caps vs us:List Value} {v:Value}
  [hf:Fun e f fid caps] [hv:ArgVs e args.toList vs] [hu:App vs caps us] (h:∀ w,Hold w0 F Γ w→(callFunc fid ⟨us⟩).run P w = .ok (.value v) w) :
  OpV P n w0 F ⟨d, .call ⟨.value f,args,ats⟩,t,pos,aft,g⟩ e Γ v:=fun a w fr ho=>by
 have e1:=hf.ok n a fr
 have e2:args.map a.eval=⟨vs⟩:=by apply Array.ext'; simp [hv.ok n a fr]
 have e3:(⟨vs⟩:Array Value)++(⟨caps⟩:Array Value)=⟨us⟩:=by apply Array.ext'; simp [← hu.ok]
 have:=h w ho
 simp only [execOp,Sem.run_bind,Xgz e1,Result.andThen_ok,invoke,e2,e3,this]
theorem VE [Dr] {x y:Operand} {ty yt:TypeId} {a b:Bool} {sz by_:Nat} {z:Value} [hx:Ev e x (.bool a)] [hy:Ev e y (.bool b)] [hT:Ty P ty .bool sz by_ z]:OpV P n w0 F ⟨d, .binOp .eql ty x y yt,t,pos,aft,g⟩ e Γ (.bool (decide (a=b))) :=
 fun a' w fr _=>by
  have h1:=Xaz (P:=P) (t:=ty) w
  have h3:(Op.equal ty (.bool a) (.bool b)).run P w = .ok (decide (a=b)) w:=by
   unfold Op.equal
   rw [show Op.maxDepth=9999+1 from rfl]
   generalize 9999=dd
   simp [Op.equalIn,h1,Bool.beq_eq_decide_eq]
  simp [execOp,hx.ok n a' fr,hy.ok n a' fr,eqGuard,binOp,h3]
theorem VF [Dr] {x y:Operand} {ty yt:TypeId} {a b:Bool} {sz by_:Nat} {z:Value} [hx:Ev e x (.bool a)] [hy:Ev e y (.bool b)] [hT:Ty P ty .bool sz by_ z]:OpV P n w0 F ⟨d, .binOp .neq ty x y yt,t,pos,aft,g⟩ e Γ (.bool (!decide (a=b))) :=
 fun a' w fr _=>by
  have h1:=Xaz (P:=P) (t:=ty) w
  have h3:(Op.equal ty (.bool a) (.bool b)).run P w = .ok (decide (a=b)) w:=by
   unfold Op.equal
   rw [show Op.maxDepth=9999+1 from rfl]
   generalize 9999=dd
   simp [Op.equalIn,h1,Bool.beq_eq_decide_eq]
  simp [execOp,hx.ok n a' fr,hy.ok n a' fr,eqGuard,binOp,h3]
theorem Xcv [Dr] {x:Operand} {ty el:TypeId} {b o m sz by_ es eb:Nat} {z ez:Value} {ed:TypeDesc} [hx:Ev e x (.pointer (some ⟨b,o,none⟩))]
  [hT:Ty P ty (.array m el) sz by_ z] [hE:Ty P el ed es eb ez] (hm:0 < m):OpV P n w0 F ⟨d, .slice ty x none none none,t,pos,aft,g⟩ e Γ (.slice (some ⟨b,o,none⟩) m m) :=
 fun a w fr _=>by
  have h1:=Xaz (P:=P) (t:=ty) w
  have h2:=Xbg (P:=P) (t:=el) w
  simp [execOp,hx.ok n a fr,Instr.sliceAt,h1,h2,Instr.sureAddr,Instr.sliceBounds,Addr.add]
theorem OpV.indexStr [Dr] {x ix:Operand} {ty:TypeId} {s:ByteArray} {kk:IntKind} {k sz by_:Nat} {z:Value} {j:Int} [hx:Ev e x (.string s)] [hi:Ev e ix (.int kk j)] [hk:NatI j k]
  [hT:Ty P ty .string sz by_ z] (h:k < s.size):OpV P n w0 F ⟨d, .index ty x ix,t,pos,aft,g⟩ e Γ (.int .u8 (s[k].toNat:Int)) :=
 fun a w fr _=>by
  have h1:=Xaz (P:=P) (t:=ty) w
  have hj:=hk.ok
  subst hj
  simp [execOp,hx.ok n a fr,hi.ok n a fr,Instr.index,asIntOf,h1,h]
theorem Xn7 [Dr] {x ix:Operand} {ty el:TypeId} {cs r:List Value} {kk:IntKind} {k m sz by_ es eb:Nat} {z ez v:Value} {ed:TypeDesc} {j:Int} [hx:Ev e x (.agg ⟨cs⟩)] [hi:Ev e ix (.int kk j)] [hk:NatI j k]
  [hT:Ty P ty (.array m el) sz by_ z] [hE:Ty P el ed es eb ez] (h:k < m) (hv:∀ w,(part el ⟨cs⟩ (k * es)).run P w = .ok v w):OpV P n w0 F ⟨d, .index ty x ix,t,pos,aft,g⟩ e Γ v :=
 fun a w fr _=>by
  have h1:=Xaz (P:=P) (t:=ty) w
  have h2:=Xbg (P:=P) (t:=el) w
  have hj:=hk.ok
  subst hj
  simp [execOp,hx.ok n a fr,hi.ok n a fr,Instr.index,asIntOf,h1,h2,h,hv]
theorem At.sl_bytes [Dr] {b o m:Nat} {vs:List Value} {L:List UInt8} {w:World} (hA:At Γ b o vs) (hL:vs=L.map Xaq) (ho:Hold w0 F Γ w) (hm:L.length=m) (hmax:m≤4096):(sl (some ⟨b,o,none⟩) m L).holds (fun _=>True) w:=by
 refine ⟨by omega,by simp [maxLen]; omega,by simp only [lim]; omega,fun hne=>⟨b,o,rfl,trivial,?_,fun i hi=>⟨(),?_,by simp [Cell.facts]⟩⟩⟩
 ·have hpos:0 < L.length:=List.length_pos_iff.2 hne
  have h1:=hA.ok w0 F w ho 0 (Xaq L[0]) (by rw [hL]; simp [hpos])
  unfold World.cell? at h1
  rcases Nat.lt_or_ge b w.heap.size with h | h
  ·exact h
  ·simp [Array.getElem?_eq_none h] at h1
 ·intro j v hj
  simp only [Cell.cells,List.getElem?_singleton] at hj
  split at hj
  ·rename_i h0; subst h0
   have h1:=hA.ok w0 F w ho i (Xaq L[i]) (by rw [hL]; simp [hi])
   injection hj with hj
   subst hj
   simpa [Cell.sz] using h1
  ·cases hj
theorem JR.call1 [Dr] {d:Nat} {f:Operand} {args:Array Operand} {ats:Array TypeId} {fid:FuncId} {caps vs us:List Value} {Y:Type} {v:Y→Value} {B:Y→Fact}
  [hf:Fun e f fid caps] [hv:ArgVs e args.toList vs] [hu:App vs caps us] [hb:Body P fid] (hd:Nat.blt d n.s=true)
  (hg:∀ w,Hold w0 F Γ w→Gives P fid us w (fp w0 F Γ) v (fun y=>[B y])) (k:∀ y,JO P n w0 F ops (i+1) os Q ((d,v y)::e) (B y::Γ)) :
  JR P n w0 F ops i ⟨some d, .call ⟨.value f,args,ats⟩,t,pos,aft,g⟩ os Q e Γ:=JR.call hd hg k
end
class MKey (P:Program) (kt:TypeId) {K:outParam Type} (kv:outParam (K→Value)):Prop where
 inj:∀ a b:K,kv a=kv b→a=b
 check:∀ (w:World) (em:Bool) (a:K),(Instr.checkKey em 10000 kt (kv a)).run P w = .ok () w
 find:∀ (w:World) (a:K) (es:List MapEntry),(∀ x∈es,∃ c,x.key=kv c) →
  ((Instr.findKey kt (kv a) es).run P w = .ok none w∧∀ x∈es,x.key≠kv a)∨∃ j x,(Instr.findKey kt (kv a) es).run P w = .ok (some (j,x.val)) w∧es[j]? = some x∧x.key=kv a
 stays:∀ (w:World) (a:K),(Instr.keyThatStays (kv a) (kv a)).run P w = .ok (kv a) w
def ents {K:Type} (kv:K→Value) (M:List (K × Value)):List MapEntry:=M.zipIdx.map fun p=>⟨kv p.1.1,p.1.2,p.2⟩
def sety {K:Type} (L:List K):List (K × Value):=L.map fun k=>(k, .bool true)
theorem Xb2 {K:Type} (kv:K→Value) (M:List (K × Value)):(ents kv M).length=M.length:=by simp [ents]
theorem Xbv {K:Type} (kv:K→Value) (M:List (K × Value)) (i:Nat) (h:i < M.length):(ents kv M)[i]? = some ⟨kv M[i].1,M[i].2,i⟩:=by
 simp [ents,h]
theorem Xjz {K:Type} (kv:K→Value) (M:List (K × Value)) (k:K) (v:Value):ents kv (M++[(k,v)])=ents kv M++[⟨kv k,v,M.length⟩]:=by
 simp [ents,List.zipIdx_append]
theorem Xc9 {P:Program} {w:World} {r:Nat} {es:Array MapEntry} {clock:Nat} (hb:w.heap[r]? = some (.map es clock)):(getObj r).run P w = .ok (.map es clock) w:=by
 simp [getObj,Sem.run,hb]
theorem Xd1 {P:Program} {w:World} {r:Nat} {o':Obj} (o:Obj) (hb:w.heap[r]? = some o') (hn:match o' with | .cells ..=>False | _=>True):(setObj r o).run P w = .ok () { w with heap:=w.heap.setIfInBounds r o }:=by
 cases o' <;> first | exact hn.elim | simp [setObj,Sem.run,hb]
theorem Xri {w:World} {r:Nat} {o o':Obj} (hb:w.heap[r]? = some o):(w.heap.setIfInBounds r o')[r]? = some o'∧∀ r',r'≠r→(w.heap.setIfInBounds r o')[r']? = w.heap[r']?:=by
 have hlt:r < w.heap.size:=(Array.getElem?_eq_some_iff.1 hb).1
 exact ⟨by simp [hlt],fun r' hne=>by simp [Ne.symm hne]⟩
def plc {K:Type} [DecidableEq K] (M:List (K × Value)) (k:K):Option Nat:=M.findIdx? (fun p=>decide (p.1=k))
def upd {K:Type} [DecidableEq K] (M:List (K × Value)) (k:K) (v:Value):List (K × Value) :=
 match plc M k with
 | some i=>M.modify i fun _=>(k,v)
 | none=>M++[(k,v)]
def Xa4 {K:Type} [DecidableEq K] (M:List (K × Value)) (k:K):Option Value:=(M.find? (fun p=>decide (p.1=k))).map (·.2)
theorem Xj0 {K:Type} (kv:K→Value) (M:List (K × Value)) (i:Nat) (k:K) (v:Value) (h:i < M.length) :
  (ents kv M).toArray.modify i (fun e=>{ e with key:=kv k,val:=v })=(ents kv (M.modify i fun _=>(k,v))).toArray:=by
 apply Array.ext'
 simp only [Array.toList_modify]
 apply List.ext_getElem?
 intro j
 rw [List.getElem?_modify]
 simp only [ents,List.getElem?_map,List.getElem?_zipIdx,List.getElem?_modify]
 by_cases hij:i=j
 ·subst hij
  simp [h]
 ·simp only [hij,if_false]
  cases M[j]? <;> simp
section
variable {P:Program} {kt:TypeId} {K:Type} [DecidableEq K] {kv:K→Value}
theorem Xmv (h:MKey P kt kv) (w:World) (M:List (K × Value)) (hnd:(M.map (·.1)).Nodup) (k:K) :
  (Instr.findKey kt (kv k) (ents kv M)).run P w = .ok ((plc M k).bind fun i=>M[i]?.map fun p=>(i,p.2)) w:=by
 have hk:∀ x∈ents kv M,∃ c,x.key=kv c:=by
  intro x hx
  obtain ⟨i,hi,rfl⟩:=List.getElem_of_mem hx
  have hi':i < M.length:=by simpa [Xb2] using hi
  have:=Xbv kv M i hi'
  rw [List.getElem?_eq_getElem hi] at this
  injection this with this
  exact ⟨_,by rw [this]⟩
 rcases h.find w k (ents kv M) hk with ⟨h1,h2⟩ | ⟨j,x,h1,h2,h3⟩
 ·have:plc M k=none:=by
   simp only [plc,List.findIdx?_eq_none_iff,decide_eq_false_iff_not]
   intro p hp hpk
   obtain ⟨i,hi,rfl⟩:=List.getElem_of_mem hp
   have:=Xbv kv M i hi
   exact h2 _ (List.mem_of_getElem? this) (by simp [hpk])
  rw [h1,this]; rfl
 ·have hj:j < M.length:=by
   have:=(List.getElem?_eq_some_iff.1 h2).1
   simpa [Xb2] using this
  have e1:=Xbv kv M j hj
  rw [h2] at e1
  injection e1 with e1
  subst e1
  have hjk:M[j].1=k:=h.inj _ _ h3
  have:plc M k=some j:=by
   simp only [plc,List.findIdx?_eq_some_iff_getElem]
   refine ⟨hj,by simpa using hjk,fun i hij=>?_⟩
   simp only [decide_eq_true_eq]
   intro hik
   have:=(List.pairwise_iff_getElem.1 hnd) i j (by simp; omega) (by simpa using hj) hij
   simp at this
   exact this (hik.trans hjk.symm)
  rw [h1,this]
  simp [hj]
theorem Xzn {M:List (K × Value)} {k:K} {i:Nat} (h:plc M k=some i):i < M.length:=(List.findIdx?_eq_some_iff_getElem.1 h).1
theorem Xmw (h:MKey P kt kv) {t e:TypeId} {w:World} {b:Nat} {M:List (K × Value)} (hu:P.underlying t=some (.map kt e)) (hb:w.heap[b]? = some (.map (ents kv M).toArray M.length)) (hnd:(M.map (·.1)).Nodup) (k:K) (v:Value) :
  (Instr.mapUpdate t (.map (some b)) (kv k) v).run P w = .ok () { w with heap:=w.heap.setIfInBounds b (.map (ents kv (upd M k v)).toArray (upd M k v).length) }:=by
 have h1:=Xmv h w M hnd k
 have h2:=h.check w false k
 have h3:=Xc9 (P:=P) hb
 unfold Instr.mapUpdate
 simp only [Sem.run_bind,run_underlying hu,Result.andThen_ok,h3,h2,h1]
 cases hp:plc M k with
 | none =>
  simp only [Option.bind_none,upd,hp,Xd1 _ hb trivial]
  simp [Xjz]
 | some i =>
  have hi:=Xzn hp
  have h4:(((ents kv M).toArray[i]?.map (·.key)).getD (kv k))=kv k:=by
   have hik:M[i].1=k:=by
    have:=(List.findIdx?_eq_some_iff_getElem.1 hp).2.1
    simpa using this
   simp [Xbv kv M i hi,hik]
  simp only [Option.bind_some,hi,List.getElem?_eq_getElem,Option.map_some,Sem.run_bind,h4,h.stays,Result.andThen_ok,upd,hp,Xd1 _ hb trivial]
  rw [Xj0 kv M i k v hi]
  simp
theorem Xsm (h:MKey P kt kv) {t e:TypeId} {w:World} {b:Nat} {M:List (K × Value)} {z:Value} (hu:P.underlying t=some (.map kt e)) (hz:(zeroValue e).run P w = .ok z w) (hb:w.heap[b]? = some (.map (ents kv M).toArray M.length)) (hnd:(M.map (·.1)).Nodup) (k:K) (c:Bool) :
  (Instr.lookup t (.map (some b)) (kv k) c).run P w = .ok (if c then .tuple #[(Xa4 M k).getD z, .bool (Xa4 M k).isSome] else (Xa4 M k).getD z) w:=by
 have h1:=Xmv h w M hnd k
 have h3:=Xc9 (P:=P) hb
 have hg:((plc M k).bind fun i=>M[i]?.map fun p=>(i,p.2)).map (·.2)=Xa4 M k:=by
  unfold Xa4
  cases hp:plc M k with
  | none =>
   have:M.find? (fun p=>decide (p.1=k))=none:=by
    rw [List.find?_eq_none]
    intro p hpm
    have:=List.findIdx?_eq_none_iff.1 hp p hpm
    simpa using this
   simp [this]
  | some i =>
   have hi:=Xzn hp
   have:M.find? (fun p=>decide (p.1=k))=some M[i]:=by
    rw [List.find?_eq_some_iff_getElem]
    obtain ⟨_,h5,h6⟩:=List.findIdx?_eq_some_iff_getElem.1 hp
    exact ⟨h5,i,hi,rfl,fun j hj=>by simpa using h6 j hj⟩
   simp [this,hi]
 unfold Instr.lookup
 simp only [Sem.run_bind,run_underlying hu,Result.andThen_ok,h3,h.check,Sem.run_pure,h1]
 revert hg
 cases ((plc M k).bind fun i=>M[i]?.map fun p=>(i,p.2)) with
 | none =>
  intro hg
  rw [← hg]
  simp only [Option.map_none,Sem.run_bind,hz,Result.andThen_ok,Sem.run_pure]
  cases c <;> simp
 | some q =>
  intro hg
  rw [← hg]
  simp only [Option.map_some,Sem.run_pure,Result.andThen_ok]
  cases c <;> simp
end
class OwnM (Γ:List Fact) (b:Nat) (es:outParam (List MapEntry)) (c:outParam Nat) (Δ:outParam (List Fact)):Prop where
 ok:Γ.Perm (.omap b es c::Δ)
instance (priority:=100) OwnM.miss {Γ:List Fact} {g:Fact} {b:Nat} {es:List MapEntry} {c:Nat} {Δ:List Fact} [h:OwnM Γ b es c Δ]:OwnM (g::Γ) b es c (g::Δ) :=
 ⟨(h.ok.cons g).trans (List.Perm.swap _ g Δ)⟩
instance (priority:=1000) OwnM.hit {Γ:List Fact} {b:Nat} {es:List MapEntry} {c:Nat}:OwnM (.omap b es c::Γ) b es c Γ:=⟨List.Perm.refl _⟩
def rmap (b:Nat) (es:List MapEntry) (c:Nat):Asn where
 holds F w:=F b∧w.heap[b]? = some (.map es.toArray c)
 mono F G w h hh:=⟨h b hh.1,hh.2⟩
 frame F w w' hk h:=⟨h.1,(hk b h.1).trans h.2⟩
 within F w h:=⟨⟨h.1,(Array.getElem?_eq_some_iff.1 h.2).1⟩,h.2⟩
class RdM [Dr] (Γ:List Fact) (b:Nat) (es:outParam (List MapEntry)) (c:outParam Nat):Prop where
 ok:∀ w0 F w,Hold w0 F Γ w→w.heap[b]? = some (.map es.toArray c)
instance (priority:=100) RdM.miss [Dr] {Γ:List Fact} {g:Fact} {b:Nat} {es:List MapEntry} {c:Nat} [h:RdM Γ b es c]:RdM (g::Γ) b es c:=⟨fun w0 F w hw=>h.ok w0 F w hw.tail⟩
instance (priority:=1000) RdM.own [Dr] {Γ:List Fact} {b:Nat} {es:List MapEntry} {c:Nat}:RdM (.omap b es c::Γ) b es c:=⟨fun w0 F w hw=>hw.sat (.omap b es c) (by simp)⟩
instance (priority:=1000) RdM.st [Dr] {Γ:List Fact} {b:Nat} {es:List MapEntry} {c:Nat}:RdM (.st (rmap b es c)::Γ) b es c:=⟨fun w0 F w hw=>(hw.sat (.st (rmap b es c)) (by simp)).2⟩
theorem Hold.pubMap [Dr] {w0 w:World} {F:Nat→Prop} {Γ:List Fact} {b c:Nat} {es:List MapEntry} (h:Hold w0 F (.omap b es c::Γ) w):Hold w0 F (.st (rmap b es c)::Γ) w :=
 h.publish fun hk=>⟨hk b (.inr rfl),h.sat (.omap b es c) (by simp)⟩
class OwnO (Γ:List Fact) (b:Nat) (o:outParam Obj) (Δ:outParam (List Fact)):Prop where
 ok:Γ.Perm (.obj b o::Δ)
instance (priority:=100) OwnO.miss {Γ:List Fact} {g:Fact} {b:Nat} {o:Obj} {Δ:List Fact} [h:OwnO Γ b o Δ]:OwnO (g::Γ) b o (g::Δ) :=
 ⟨(h.ok.cons g).trans (List.Perm.swap _ g Δ)⟩
instance (priority:=1000) OwnO.hit {Γ:List Fact} {b:Nat} {o:Obj}:OwnO (.obj b o::Γ) b o Γ:=⟨List.Perm.refl _⟩
section
variable {P:Program} {n:Nn} {w0:World} {F:Nat→Prop} {ops:Array Oper} {i d:Nat} {t:TypeId} {pos:String} {aft:Array Edge} {g:Option (Nat × Bool)} {os:List Oper} {Q:Cont} {e:E} {Γ:List Fact}
theorem JR.makeMap [Dr] {K:Type} (kv:K→Value) {ty:TypeId} (hd:Nat.blt d n.s=true)
  (k:∀ b,JO P n w0 F ops (i+1) os Q ((d, .map (some b))::e) (.omap b (ents kv ([]:List (K × Value))) ([]:List (K × Value)).length::Γ)):JR P n w0 F ops i ⟨some d, .makeMap ty none,t,pos,aft,g⟩ os Q e Γ :=
 JR.value hd fun a w fr ho=>⟨_,w.alloc (.map #[] 0),_,by
  simp only [execOp,Instr.makeMap,Option.map_none,Sem.run_bind,Result.andThen_ok,run_newObj,Sem.run_pure]
  rfl,ho.push (f:=.omap w.heap.size [] 0) (o:=.map #[] 0) (fun _=>Iff.rfl) (fun _ _ h=>h),k w.heap.size⟩
theorem Xhu [Dr] {K:Type} (kv:K→Value) {ty:TypeId} (hd:Nat.blt d n.s=true)
  (k:∀ b,JO P n w0 F ops (i+1) os Q ((d, .map (some b))::e) (.omap b (ents kv (sety ([]:List K))) ([]:List K).length::Γ)):JR P n w0 F ops i ⟨some d, .makeMap ty none,t,pos,aft,g⟩ os Q e Γ :=
 JR.makeMap kv hd k
theorem Hold.setMap [Dr] {w:World} {b:Nat} {es es':List MapEntry} {c c':Nat} {Δ:List Fact} (h:Hold w0 F (.omap b es c::Δ) w):Hold w0 F (.omap b es' c'::Δ) { w with heap:=w.heap.setIfInBounds b (.map es'.toArray c') }:=by
 have hw:w.heap[b]? = some (.map es.toArray c):=h.sat (.omap b es c) (by simp)
 have e1:=Xri (o':=.map es'.toArray c') hw
 exact h.swap (b:=b) (fun _=>Iff.rfl) (fun _=>Iff.rfl) rfl rfl rfl (by simp) e1.2 e1.1
theorem Xbo [Dr] {K:Type} [DecidableEq K] {kv:K→Value} {x y z:Operand} {ty kt el:TypeId} {sz by_ b:Nat} {zz v:Value} {M:List (K × Value)} {k:K} {Δ:List Fact} {op:Op}
  (hop:op = .mapUpdate ty x y z∨op = .insert ty x y z) [hx:Ev e x (.map (some b))] [hy:Ev e y (kv k)] [hz:Ev e z v] [hT:Ty P ty (.map kt el) sz by_ zz] [hK:MKey P kt kv] [hM:OwnM Γ b (ents kv M) M.length Δ]
  (hnd:(M.map (·.1)).Nodup) (kk:JO P n w0 F ops (i+1) os Q e (.omap b (ents kv (upd M k v)) (upd M k v).length::Δ)):JR P n w0 F ops i ⟨none,op,t,pos,aft,g⟩ os Q e Γ :=
 Xdi fun a w fr ho=>by
  have ho':=ho.perm hM.ok
  have hw:w.heap[b]? = some (.map (ents kv M).toArray M.length):=ho'.sat (.omap b (ents kv M) M.length) (by simp)
  have hr:=Xmw hK hT.und hw hnd k v
  refine ⟨.skip,_,_, .inl rfl,?_,ho'.setMap,kk⟩
  rcases hop with rfl | rfl <;> simp only [execOp,hx.ok n a fr,hy.ok n a fr,hz.ok n a fr,Sem.run_bind,hr,Result.andThen_ok,Sem.run_pure]
theorem Xgo [Dr] {K:Type} [DecidableEq K] {kv:K→Value} {x y:Operand} {ty kt el:TypeId} {ed:TypeDesc} {sz by_ b s2 b2:Nat} {zz z:Value} {M:List (K × Value)} {k:K} {c:Bool} {d:Option Nat}
  [hx:Ev e x (.map (some b))] [hy:Ev e y (kv k)] [hT:Ty P ty (.map kt el) sz by_ zz] [hE:Ty P el ed s2 b2 z] [hK:MKey P kt kv] [hM:RdM Γ b (ents kv M) M.length]
  (hnd:(M.map (·.1)).Nodup):OpV P n w0 F ⟨d, .lookup ty x y c,t,pos,aft,g⟩ e Γ (if c then .tuple #[(Xa4 M k).getD z, .bool (Xa4 M k).isSome] else (Xa4 M k).getD z) :=
 fun a w fr ho=>by
  have hw:w.heap[b]? = some (.map (ents kv M).toArray M.length):=hM.ok w0 F w ho
  have hr:=Xsm hK hT.und (Xf5 (P:=P) (t:=el) w) hw hnd k c
  simp only [execOp,hx.ok n a fr,hy.ok n a fr,Sem.run_bind,hr,Result.andThen_ok,Sem.run_pure]
theorem JR.range [Dr] {K:Type} {kv:K→Value} {x:Operand} {ty kt el:TypeId} {sz by_ b:Nat} {zz:Value} {M:List (K × Value)}
  [hx:Ev e x (.map (some b))] [hT:Ty P ty (.map kt el) sz by_ zz] [hM:RdM Γ b (ents kv M) M.length] (hd:Nat.blt d n.s=true)
  (k:∀ r,JO P n w0 F ops (i+1) os Q ((d, .pointer (some ⟨r,0,none⟩))::e) (.obj r (.mapIter (some b) M.length ([]:List Nat).toArray M.length)::Γ)):JR P n w0 F ops i ⟨some d, .range ty x,t,pos,aft,g⟩ os Q e Γ :=
 JR.value hd fun a w fr ho=>by
  have hw:w.heap[b]? = some (.map (ents kv M).toArray M.length):=hM.ok w0 F w ho
  have h1:=Xaz (P:=P) (t:=ty) w
  have h2:=Xc9 (P:=P) hw
  refine ⟨_,w.alloc (.mapIter (some b) M.length #[] M.length),_,?_,ho.push (f:=.obj w.heap.size (.mapIter (some b) M.length #[] M.length)) (fun _=>Iff.rfl) (fun _ _ h=>h),k w.heap.size⟩
  simp only [execOp,hx.ok n a fr,Instr.range,Sem.run_bind,h1,h2,Result.andThen_ok,Sem.run_pure,run_newObj]
  rfl
theorem Xly [Dr] {w:World} {r:Nat} {o o':Obj} {Δ:List Fact} (h:Hold w0 F (.obj r o::Δ) w):Hold w0 F (.obj r o'::Δ) { w with heap:=w.heap.setIfInBounds r o' }:=by
 have hw:w.heap[r]? = some o:=h.sat (.obj r o) (by simp)
 have e1:=Xri (o':=o') hw
 exact h.swap (b:=r) (fun _=>Iff.rfl) (fun _=>Iff.rfl) rfl rfl rfl (by simp) e1.2 e1.1
theorem Xmx {K:Type} (kv:K→Value) (M:List (K × Value)) (S:List Nat) (x:MapEntry) (h:x∈((ents kv M).toArray.filter fun e=>!S.toArray.contains e.born)):∃ i,∃ h:i < M.length,i∉S∧x=⟨kv M[i].1,M[i].2,i⟩:=by
 rw [Array.mem_filter] at h
 obtain ⟨h1,h2⟩:=h
 rw [List.mem_toArray] at h1
 obtain ⟨i,hi,rfl⟩:=List.getElem_of_mem h1
 have hi':i < M.length:=by simpa [Xb2] using hi
 have:=Xbv kv M i hi'
 rw [List.getElem?_eq_getElem hi] at this
 injection this with this
 rw [this] at h2 ⊢
 exact ⟨i,hi',by simpa using h2,rfl⟩
end
section
variable {P:Program} {n:Nn} {w0:World} {F:Nat→Prop} {ops:Array Oper} {i d:Nat} {t:TypeId} {pos:String} {aft:Array Edge} {g:Option (Nat × Bool)} {os:List Oper} {Q:Cont} {e:E} {Γ:List Fact} [Dr]
def Xj1 {K:Type} (kv:K→Value) (M:List (K × Value)) (S:List Nat):Array MapEntry:=(ents kv M).toArray.filter fun e=>!S.toArray.contains e.born
def Xix (l:Array MapEntry):Array (Option MapEntry):=(if l.isEmpty then #[none] else #[])++(l++#[]).map some
end
section
variable {P:Program} {n:Nn} {w0:World} {F:Nat→Prop} {ops:Array Oper} {i d:Nat} {t:TypeId} {pos:String} {aft:Array Edge} {g:Option (Nat × Bool)} {os:List Oper} {Q:Cont} {e:E} {Γ:List Fact}
theorem Xun (l:Array MapEntry) (m:Nat) (hm:0 < (Xix l).size→m < (Xix l).size):(l = #[]∧(Xix l)[m]? = some none)∨∃ y∈l,(Xix l)[m]? = some (some y):=by
 by_cases h:l = #[]
 ·subst h
  have e1:Xix #[] = #[none]:=by simp [Xix]
  rw [e1] at hm ⊢
  have:m < 1:=hm (by simp)
  have:m=0:=by omega
  subst this
  exact .inl ⟨rfl,by simp⟩
 ·have h1:l.isEmpty=false:=by simpa using h
  have h2:Xix l=l.map some:=by simp [Xix,h1]
  have h3:0 < l.size:=Array.size_pos_iff.2 h
  rw [h2] at hm ⊢
  have hml:m < l.size:=by have:=hm (by simpa using h3); simpa using this
  exact .inr ⟨l[m],Array.getElem_mem hml,by simp [hml]⟩
theorem Xpy (sz:Nat) (w:World):∃ m w',(choose (.mapNext sz)).run P w = .ok m w'∧(w'=w∨w'=w.drew)∧(0 < sz→m < sz):=by
 rw [run_choose_drew]
 by_cases hf:(Question.mapNext sz).forced=true
 ·rw [if_pos hf]; exact ⟨0,w,rfl, .inl rfl,fun h=>h⟩
 ·rw [if_neg hf]; exact ⟨_,w.drew,rfl, .inr rfl,fun h=>Nat.mod_lt _ h⟩
theorem JR.next [Dr] {K:Type} {kv:K→Value} {x:Operand} {b r:Nat} {M:List (K × Value)} {S:List Nat} {Δ:List Fact}
  [hx:Ev e x (.pointer (some ⟨r,0,none⟩))] [hO:OwnO Γ r (.mapIter (some b) M.length S.toArray M.length) Δ] [hM:RdM Δ b (ents kv M) M.length] (hd:Nat.blt d n.s=true) (hS:∀ i∈S,i < M.length)
  (k1:(∀ i,i < M.length→i∈S)→JO P n w0 F ops (i+1) os Q ((d, .tuple ⟨[.bool false]⟩)::e) Γ)
  (k2:∀ j,(h:j < M.length)→j∉S→JO P n w0 F ops (i+1) os Q ((d, .tuple ⟨[.bool true,kv M[j].1,M[j].2]⟩)::e) (.obj r (.mapIter (some b) M.length (S++[j]).toArray M.length)::Δ)) :
  JR P n w0 F ops i ⟨some d, .next x false,t,pos,aft,g⟩ os Q e Γ :=
 JR.value hd fun a w fr ho=>by
  have ho1:=ho.perm hO.ok
  have hr:w.heap[r]? = some (.mapIter (some b) M.length S.toArray M.length):=ho1.sat (.obj r _) (by simp)
  have hw:w.heap[b]? = some (.map (ents kv M).toArray M.length):=hM.ok w0 F w ho1.tail
  have g1:(getObj r).run P w = .ok (.mapIter (some b) M.length S.toArray M.length) w:=by simp [getObj,Sem.run,hr]
  have g2:=Xc9 (P:=P) hw
  have hstale:(!S.toArray.isEmpty && !(ents kv M).toArray.isEmpty && (ents kv M).toArray.all (·.born≥M.length))=false:=by
   by_cases hS0:S=[]
   ·subst hS0; rfl
   ·by_cases hM0:M=[]
    ·subst hM0; simp [ents]
    ·have hpos:0 < M.length:=List.length_pos_iff.2 hM0
     have:(ents kv M).toArray.all (·.born≥M.length)=false:=by
      rw [← Bool.not_eq_true,Array.all_eq_true]
      intro h
      have:=h 0 (by simpa [Xb2] using hpos)
      have e0:=Xbv kv M 0 hpos
      have hl:0 < (ents kv M).length:=by rw [Xb2]; exact hpos
      rw [List.getElem?_eq_getElem hl] at e0
      injection e0 with e0
      have h0:=of_decide_eq_true this
      have e1:((ents kv M).toArray[0]'(by simpa using hl)).born=0:=by
       rw [List.getElem_toArray,e0]
      omega
     rw [this,Bool.and_false]
  have hold:(((ents kv M).toArray.filter fun e=>!S.toArray.contains e.born).filter (·.born < M.length))=(ents kv M).toArray.filter fun e=>!S.toArray.contains e.born:=by
   rw [Array.filter_eq_self]
   intro x hx
   obtain ⟨i,hi,_,rfl⟩:=Xmx kv M S x hx
   simpa using hi
  have hnew:(((ents kv M).toArray.filter fun e=>!S.toArray.contains e.born).filter (·.born≥M.length)) = #[]:=by
   rw [Array.filter_eq_empty_iff]
   intro x hx
   obtain ⟨i,hi,_,rfl⟩:=Xmx kv M S x hx
   simpa using hi
  obtain ⟨m,w',hrun,hw',hm⟩:=Xpy (P:=P) (Xix (Xj1 kv M S)).size w
  have key:(execOp a.eval ⟨some d, .next x false,t,pos,aft,g⟩).run P w=(match ((Xix (Xj1 kv M S))[m]? : Option (Option MapEntry)) with
    | some (some e)=>((do setObj r (.mapIter (some b) M.length (S.toArray.push e.born) M.length); pure (Value.tuple #[.bool true,e.key,e.val])):Sem Value).run P w'
    | some none=>.ok (.tuple #[.bool false]) w'
    | none=>((stuck "Next: no such candidate"):Sem Value).run P w').andThen fun v w'=>.ok (.value v) w':=by
   simp only [execOp,hx.ok n a fr,Instr.next,Sem.run_bind,g1,g2,Result.andThen_ok,hstale,hold,hnew,Bool.false_eq_true,if_false]
   change ((((choose (.mapNext (Xix (Xj1 kv M S)).size)).run P w).andThen _).andThen _)=_
   rw [hrun]
   simp only [Result.andThen_ok]
   congr 1
   change Sem.run P (match ((Xix (Xj1 kv M S))[m]? : Option (Option MapEntry)) with | some (some e)=>_ | some none=>_ | none=>_) w'=_
   split <;> first | exact Sem.run_bind .. | rfl
  have hho:Hold w0 F Γ w':=by rcases hw' with rfl | rfl; exact ho; exact ho.drew
  rcases Xun (Xj1 kv M S) m hm with ⟨h1,h2⟩ | ⟨y,h1,h2⟩
  ·refine ⟨_,w',Γ,?_,hho,k1 fun i hi=>?_⟩
   ·rw [key,h2]; rfl
   ·apply Classical.byContradiction
    intro hiS
    have:(⟨kv M[i].1,M[i].2,i⟩:MapEntry)∈Xj1 kv M S:=by
     unfold Xj1
     rw [Array.mem_filter]
     exact ⟨by rw [List.mem_toArray]; exact List.mem_of_getElem? (Xbv kv M i hi),by simpa using hiS⟩
    rw [h1] at this
    simp at this
  ·obtain ⟨j,hj,hjS,rfl⟩:=Xmx kv M S y h1
   have hr':w'.heap[r]? = some (.mapIter (some b) M.length S.toArray M.length):=by rcases hw' with rfl | rfl <;> exact hr
   refine ⟨_,{ w' with heap:=w'.heap.setIfInBounds r (.mapIter (some b) M.length (S++[j]).toArray M.length) },_,?_,Xly (hho.perm hO.ok),k2 j hj hjS⟩
   rw [key,h2]
   simp only [Sem.run_bind,Xd1 _ hr' trivial,Result.andThen_ok,Sem.run_pure]
   simp
theorem OpV.entry [Dr] {K:Type} {kv:K→Value} {x:Operand} {b r j:Nat} {M:List (K × Value)} {S:List Nat} {Δ:List Fact} {d:Option Nat}
  [hx:Ev e x (.pointer (some ⟨r,0,none⟩))] [hO:OwnO Γ r (.mapIter (some b) M.length (S++[j]).toArray M.length) Δ] [hM:RdM Δ b (ents kv M) M.length] (hj:j < M.length) :
  OpV P n w0 F ⟨d, .entry x,t,pos,aft,g⟩ e Γ (.tuple ⟨[kv M[j].1,M[j].2]⟩) :=
 fun a w fr ho=>by
  have ho1:=ho.perm hO.ok
  have hr:w.heap[r]? = some (.mapIter (some b) M.length (S++[j]).toArray M.length):=ho1.sat (.obj r _) (by simp)
  have hw:w.heap[b]? = some (.map (ents kv M).toArray M.length):=hM.ok w0 F w ho1.tail
  have g1:(getObj r).run P w = .ok (.mapIter (some b) M.length (S++[j]).toArray M.length) w:=by simp [getObj,Sem.run,hr]
  have g2:=Xc9 (P:=P) hw
  have hback:(S++[j]).toArray.back? = some j:=by simp
  have hfind:(ents kv M).toArray.find? (·.born == j)=some ⟨kv M[j].1,M[j].2,j⟩:=by
   rw [List.find?_toArray,List.find?_eq_some_iff_getElem]
   refine ⟨by simp,j,by rw [Xb2]; exact hj,?_,fun i hi=>?_⟩
   ·have:=Xbv kv M j hj
    exact (List.getElem?_eq_some_iff.1 this).2
   ·have:=Xbv kv M i (by omega)
    have:=(List.getElem?_eq_some_iff.1 this).2
    rw [this]
    simp; omega
  simp only [execOp,hx.ok n a fr,Instr.entry,Sem.run_bind,g1,g2,Result.andThen_ok,hback,bne_self_eq_false,Bool.false_eq_true,if_false,hfind,Sem.run_pure]
end
theorem Xn8 {α β:Type} (f:α→Option β):∀ (l:List α),(∀ x∈l,∃ y,f x=some y)→∃ ys,l.mapM f=some ys
 | [],_=>⟨[],rfl⟩
 | x::l,h=>by
  obtain ⟨y,hy⟩:=h x (by simp)
  obtain ⟨ys,hys⟩:=Xn8 f l (fun z hz=>h z (by simp [hz]))
  exact ⟨y::ys,by rw [List.mapM_cons,hy,hys]; rfl⟩
abbrev idV (a:ID):Value:=.agg ⟨idc a⟩
abbrev intV (n:Int):Value:=.int .i64 n
theorem Xuo {a b:UInt8} (h:Xaq a=Xaq b):a=b:=by
 simp only [Xaq,Value.int.injEq,true_and] at h
 exact UInt8.toNat_inj.1 (by omega)
theorem X0l {a b:ID} (h:idc a=idc b):a=b:=Subtype.ext (List.map_inj_right (fun _ _=>Xuo) |>.1 h)
open Go.WideMaps in
theorem MKey.id {P:Program} {k e:TypeId} (A:ArrKey P k e 32) (he:P.underlying e=some (.int .u8)) (hsz:∃ m,P.types.size=m+1):MKey P k idV:=by
 have key:∀ a:ID,∃ l,keyOf P k (idV a)=some l:=by
  intro a
  have hkt:=A.keyType hsz
  obtain ⟨m0,hm0⟩:=hsz
  unfold keyOf idV
  simp only [A.hu]
  have hf:(Value.agg ⟨idc a⟩).formed P k=true:=by simp [Value.formed,A.hu,A.size,Xbw]
  rw [if_pos (by simp [hkt,hf]),hm0]
  unfold Program.keyLits
  simp only [A.hu,Value.cells]
  rw [if_pos (by rw [A.size]; simp [Xbw])]
  obtain ⟨ys,hys⟩:=Xn8 (fun i=>P.keyLits (m0+1) e (((idc a).drop (i * P.cellsOf e)).take (P.cellsOf e))) (List.range 32) (by
   intro i hi
   have hi':i < 32:=List.mem_range.1 hi
   have hlt:i < (idc a).length:=by rw [Xbw]; exact hi'
   have ha:i < a.1.length:=by rw [a.2]; exact hi'
   rw [A.one,Nat.mul_one,List.drop_eq_getElem_cons hlt]
   have hb:(idc a)[i]=Xaq (a.1[i]):=by simp [idc]
   simp only [List.take_succ_cons,List.take_zero,hb]
   unfold Program.keyLits
   simp only [he,Xaq]
   rw [if_pos ⟨trivial,by
     have:=(a.1[i]).toNat_lt
     simp [Lit.wf,IntKind.min,IntKind.max,IntKind.signed,IntKind.bits]
     omega⟩]
   exact ⟨_,rfl⟩)
  rw [hys]
  exact ⟨_,rfl⟩
 have L:=A.law
 refine ⟨fun a b h=>?_,fun w em a=>?_,fun w a es hes=>?_,fun w a=>?_⟩
 ·simp only [idV,Value.agg.injEq,Array.mk.injEq] at h
  exact X0l h
 ·obtain ⟨l,hl⟩:=key a
  exact L.check w em hl
 ·obtain ⟨l,hl⟩:=key a
  exact L.find w hl es (fun x hx=>by obtain ⟨c,hc⟩:=hes x hx; rw [hc]; exact key c)
 ·obtain ⟨l,hl⟩:=key a
  exact L.stays w hl
open Go.MapKept in
theorem MKey.int {P:Program} {k:TypeId} (hu:P.underlying k=some (.int .i64)):MKey P k intV:=by
 refine ⟨fun a b h=>?_,fun w em a=>?_,fun w a es hes=>?_,fun w a=>?_⟩
 ·simpa [intV] using h
 ·exact run_checkKey hu (by simp [IsKey,intV]) em 9999
 ·have hk:IsKey (.int .i64) (intV a):=by simp [IsKey,intV]
  have:=findNow_spec hk es 0 (fun x hx=>by obtain ⟨c,hc⟩:=hes x hx; rw [hc]; simp [IsKey,intV])
  rcases this with ⟨h1,h2⟩ | ⟨j,x,h1,h2,h3⟩
  ·exact .inl ⟨run_findKey hu h1,h2⟩
  ·exact .inr ⟨j,x,by simpa using run_findKey hu h1,h2,h3⟩
 ·simp [Instr.keyThatStays,Instr.sameBits,intV]
theorem Xn9 {K:Type} (L:List K):(sety L).map (·.1)=L:=by simp [sety,Function.comp_def]
theorem Xaw {K:Type} (L:List K):(sety L).length=L.length:=by simp [sety]
theorem Xrj {K:Type} (L:List K) (i:Nat) (h:i < (sety L).length):(sety L)[i]=(L[i]'(by rwa [Xaw] at h), .bool true):=by simp [sety]
def addK {K:Type} [DecidableEq K] (L:List K) (k:K):List K:=if k∈L then L else L++[k]
theorem Xch {K:Type} [DecidableEq K] {L:List K} (h:L.Nodup) (k:K):(addK L k).Nodup:=by
 unfold addK
 split
 ·exact h
 ·rename_i hk
  exact List.nodup_append.2 ⟨h,by simp,fun a ha b hb=>by simp at hb; subst hb; exact fun e=>hk (e ▸ ha)⟩
theorem Xdv {K:Type} [DecidableEq K] {L:List K} {k x:K}:x∈addK L k↔x∈L∨x=k:=by
 unfold addK
 split
 ·rename_i hk
  exact ⟨.inl,fun h=>h.elim id (fun e=>e ▸ hk)⟩
 ·simp
theorem Xx5 {K:Type} [DecidableEq K] (L:List K) (k:K):plc (sety L) k=L.findIdx? (fun x=>decide (x=k)):=by
 simp [plc,sety,List.findIdx?_map,Function.comp_def]
theorem Xx6 {K:Type} [DecidableEq K] (L:List K) (k:K):upd (sety L) k (.bool true)=sety (addK L k):=by
 unfold upd addK
 rw [Xx5]
 cases h:L.findIdx? (fun x=>decide (x=k)) with
 | none =>
  have:k∉L:=by
   intro hk
   have:=List.findIdx?_eq_none_iff.1 h k hk
   simp at this
  simp [this,sety]
 | some i =>
  obtain ⟨h1,h2,_⟩:=List.findIdx?_eq_some_iff_getElem.1 h
  have h2:L[i]=k:=by simpa using h2
  have hk:k∈L:=by rw [← h2]; exact List.getElem_mem _
  simp only [hk,if_true]
  apply List.ext_getElem?
  intro j
  simp only [sety,List.getElem?_modify,List.getElem?_map]
  by_cases hij:i=j
  ·subst hij
   simp [h1,h2]
  ·simp only [hij,if_false]
   cases L[j]? <;> rfl
theorem Xpz {K:Type} [DecidableEq K] (L:List K) (k:K):Xa4 (sety L) k=if k∈L then some (.bool true) else none:=by
 unfold Xa4 sety
 induction L with
 | nil=>rfl
 | cons a L ih =>
  simp only [List.map_cons,List.find?_cons]
  by_cases h:a=k
  ·simp [h]
  ·have h':¬ k=a:=fun e=>h e.symm
   simp only [h,decide_false,List.mem_cons,h',false_or]
   exact ih
section
variable {P:Program} {n:Nn} {w0:World} {F:Nat→Prop} {ops:Array Oper} {i d:Nat} {t:TypeId} {pos:String} {aft:Array Edge} {g:Option (Nat × Bool)} {os:List Oper} {Q:Cont} {e:E} {Γ:List Fact}
theorem Xg2 [Dr] {K:Type} [DecidableEq K] {kv:K→Value} {x y z:Operand} {ty kt el:TypeId} {sz by_ b:Nat} {zz:Value} {L:List K} (k:K) {Δ:List Fact}
  [hT:Ty P ty (.map kt el) sz by_ zz] [hK:MKey P kt kv] [hx:Ev e x (.map (some b))] [hy:Ev e y (kv k)] [hz:Ev e z (.bool true)] [hM:OwnM Γ b (ents kv (sety L)) L.length Δ]
  (hnd:L.Nodup) (kk:JO P n w0 F ops (i+1) os Q e (.omap b (ents kv (sety (addK L k))) (addK L k).length::Δ)):JR P n w0 F ops i ⟨none, .mapUpdate ty x y z,t,pos,aft,g⟩ os Q e Γ:=by
 have hM':OwnM Γ b (ents kv (sety L)) (sety L).length Δ:=by rw [Xaw]; exact hM
 refine Xbo (M:=sety L) (k:=k) (v:=.bool true) (.inl rfl) (by rw [Xn9]; exact hnd) ?_
 rw [Xx6,Xaw]
 exact kk
theorem Xf8 [Dr] {K:Type} [DecidableEq K] {kv:K→Value} {x y:Operand} {ty kt el:TypeId} {ed:TypeDesc} {sz by_ b s2 b2:Nat} {zz:Value} {L:List K} (k:K) {d:Option Nat}
  [hT:Ty P ty (.map kt el) sz by_ zz] [hE:Ty P el ed s2 b2 (.bool false)] [hK:MKey P kt kv] [hx:Ev e x (.map (some b))] [hy:Ev e y (kv k)] [hM:RdM Γ b (ents kv (sety L)) L.length]
  (hnd:L.Nodup):OpV P n w0 F ⟨d, .lookup ty x y false,t,pos,aft,g⟩ e Γ (.bool (decide (k∈L))):=by
 have hM':RdM Γ b (ents kv (sety L)) (sety L).length:=by rw [Xaw]; exact hM
 have:=Xgo (P:=P) (n:=n) (w0:=w0) (F:=F) (t:=t) (pos:=pos) (aft:=aft) (g:=g) (e:=e) (Γ:=Γ) (x:=x) (y:=y) (ty:=ty) (M:=sety L) (k:=k) (c:=false) (d:=d) (by rw [Xn9]; exact hnd)
 rw [Xpz] at this
 by_cases hk:k∈L <;> simpa [hk] using this
theorem Xmy [Dr] {K:Type} {kv:K→Value} {x:Operand} {b r:Nat} {L:List K} {S:List Nat} {Δ:List Fact}
  [hx:Ev e x (.pointer (some ⟨r,0,none⟩))] [hO:OwnO Γ r (.mapIter (some b) L.length S.toArray L.length) Δ] [hM:RdM Δ b (ents kv (sety L)) L.length] (hd:Nat.blt d n.s=true) (hS:∀ i∈S,i < L.length)
  (k1:(∀ i,i < L.length→i∈S)→JO P n w0 F ops (i+1) os Q ((d, .tuple ⟨[.bool false]⟩)::e) Γ)
  (k2:∀ j,(h:j < L.length)→j∉S→JO P n w0 F ops (i+1) os Q ((d, .tuple ⟨[.bool true,kv L[j], .bool true]⟩)::e) (.obj r (.mapIter (some b) L.length (S++[j]).toArray L.length)::Δ)) :
  JR P n w0 F ops i ⟨some d, .next x false,t,pos,aft,g⟩ os Q e Γ:=by
 have hO':OwnO Γ r (.mapIter (some b) (sety L).length S.toArray (sety L).length) Δ:=by rw [Xaw]; exact hO
 have hM':RdM Δ b (ents kv (sety L)) (sety L).length:=by rw [Xaw]; exact hM
 refine JR.next (M:=sety L) (b:=b) (r:=r) (S:=S) hd (by rw [Xaw]; exact hS) (fun h=>k1 (by rw [Xaw] at h; exact h)) (fun j hj hjS=>?_)
 have:=k2 j (by rwa [Xaw] at hj) hjS
 rw [Xrj L j hj]
 simp only [Xaw]
 exact this
theorem Xj2 [Dr] {K:Type} {kv:K→Value} {x:Operand} {ty kt el:TypeId} {sz by_ b:Nat} {zz:Value} {L:List K}
  [hx:Ev e x (.map (some b))] [hT:Ty P ty (.map kt el) sz by_ zz] [hM:RdM Γ b (ents kv (sety L)) L.length] (hd:Nat.blt d n.s=true)
  (k:∀ r,JO P n w0 F ops (i+1) os Q ((d, .pointer (some ⟨r,0,none⟩))::e) (.obj r (.mapIter (some b) L.length ([]:List Nat).toArray L.length)::Γ)):JR P n w0 F ops i ⟨some d, .range ty x,t,pos,aft,g⟩ os Q e Γ:=by
 have hM':RdM Γ b (ents kv (sety L)) (sety L).length:=by rw [Xaw]; exact hM
 refine JR.range (M:=sety L) (b:=b) (kv:=kv) (kt:=kt) (el:=el) hd (fun r=>?_)
 rw [Xaw]
 exact k r
theorem Xhv [Dr] {K:Type} {kv:K→Value} {x:Operand} {b r j:Nat} {L:List K} {S:List Nat} {Δ:List Fact} {d:Option Nat}
  [hx:Ev e x (.pointer (some ⟨r,0,none⟩))] [hO:OwnO Γ r (.mapIter (some b) L.length (S++[j]).toArray L.length) Δ] [hM:RdM Δ b (ents kv (sety L)) L.length] (hj:j < L.length) :
  OpV P n w0 F ⟨d, .entry x,t,pos,aft,g⟩ e Γ (.tuple ⟨[kv L[j], .bool true]⟩):=by
 have hO':OwnO Γ r (.mapIter (some b) (sety L).length (S++[j]).toArray (sety L).length) Δ:=by rw [Xaw]; exact hO
 have hM':RdM Δ b (ents kv (sety L)) (sety L).length:=by rw [Xaw]; exact hM
 have:=OpV.entry (P:=P) (n:=n) (w0:=w0) (F:=F) (t:=t) (pos:=pos) (aft:=aft) (g:=g) (e:=e) (Γ:=Γ) (x:=x) (b:=b) (r:=r) (j:=j) (M:=sety L) (S:=S) (d:=d) (Δ:=Δ) (by rw [Xaw]; exact hj)
 rwa [Xrj L j (by rw [Xaw]; exact hj)] at this
end
class Parts (e:E) (ps:List (Nat × Operand)) (vs:outParam (List (Nat × Value))):Prop where
 ok:∀ n a,Fr n e a→(ps.map fun p=>(p.1,a.eval p.2))=vs
instance {e:E}:Parts e [] []:=⟨fun _ _ _=>rfl⟩
instance {e:E} {k:Nat} {x:Operand} {ps:List (Nat × Operand)} {v:Value} {vs:List (Nat × Value)} [h:Ev e x v] [h':Parts e ps vs]:Parts e ((k,x)::ps) ((k,v)::vs) :=
 ⟨fun n a fr=>by simp [h.ok n a fr,h'.ok n a fr]⟩
section
variable {P:Program} {n:Nn} {w0:World} {F:Nat→Prop} {ops:Array Oper} {i:Nat} {d:Option Nat} {t:TypeId} {pos:String} {aft:Array Edge} {g:Option (Nat × Bool)} {os:List Oper} {Q:Cont} {e:E} {Γ:List Fact}
theorem OpV.build [Dr] {ty:TypeId} {ps:List (Nat × Operand)} {vs:List (Nat × Value)} (cs:List Value) [hp:Parts e ps vs] (h:P.built ty vs=some cs.toArray):OpV P n w0 F ⟨d, .build ty ⟨ps⟩,t,pos,aft,g⟩ e Γ (.agg ⟨cs⟩) :=
 fun a w fr _=>by
  have hparts:((⟨ps⟩:Array (Nat × Operand)).map fun (i,x)=>(i,a.eval x))=⟨vs⟩:=by
   apply Array.ext'
   simpa using hp.ok n a fr
  have h1:=run_build (P:=P) w ty ⟨vs⟩ cs.toArray h
  simp only [execOp,hparts,Sem.run_bind,h1,Result.andThen_ok,Sem.run_pure]
theorem OpV.max [Dr] {x y:Operand} {ts:Array TypeId} {kk:IntKind} {p q:Int} [hx:Ev e x (.int kk p)] [hy:Ev e y (.int kk q)]:OpV P n w0 F ⟨d, .call ⟨.builtin .max,#[x,y],ts⟩,t,pos,aft,g⟩ e Γ (.int kk (Max.max p q)) :=
 fun a w fr _=>by
  have h1:=run_max_int2 (P:=P) w ts t kk kk p q
  have h2:(if q > p then q else p)=Max.max p q:=by split <;> omega
  rw [h2] at h1
  simp [execOp,Xag,invoke,builtin,hx.ok n a fr,hy.ok n a fr,h1]
theorem OpV.min [Dr] {x y:Operand} {ts:Array TypeId} {kk:IntKind} {p q:Int} [hx:Ev e x (.int kk p)] [hy:Ev e y (.int kk q)]:OpV P n w0 F ⟨d, .call ⟨.builtin .min,#[x,y],ts⟩,t,pos,aft,g⟩ e Γ (.int kk (Min.min p q)) :=
 fun a w fr _=>by
  have h1:=run_min_int2 (P:=P) w ts t kk kk p q
  have h2:(if q < p then q else p)=Min.min p q:=by split <;> omega
  rw [h2] at h1
  simp [execOp,Xag,invoke,builtin,hx.ok n a fr,hy.ok n a fr,h1]
theorem Xbp [Dr] {K:Type} [DecidableEq K] {kv:K→Value} {x y:Operand} {ty kt el:TypeId} {ed:TypeDesc} {sz by_ b s2 b2:Nat} {zz z v:Value} {M:List (K × Value)} (k:K) {is:Bool}
  [hT:Ty P ty (.map kt el) sz by_ zz] [hE:Ty P el ed s2 b2 z] [hK:MKey P kt kv] [hx:Ev e x (.map (some b))] [hy:Ev e y (kv k)] [hM:RdM Γ b (ents kv M) M.length]
  (hnd:(M.map (·.1)).Nodup) (h1:(Xa4 M k).getD z=v) (h2:(Xa4 M k).isSome=is):OpV P n w0 F ⟨d, .lookup ty x y true,t,pos,aft,g⟩ e Γ (.tuple ⟨[v, .bool is]⟩):=by
 have:=Xgo (P:=P) (n:=n) (w0:=w0) (F:=F) (t:=t) (pos:=pos) (aft:=aft) (g:=g) (e:=e) (Γ:=Γ) (x:=x) (y:=y) (ty:=ty) (M:=M) (k:=k) (c:=true) (d:=d) hnd
 rw [h1,h2] at this
 exact this
theorem JO.reslot [Dr] {l:Array Oper} (s:Nat) {v:Value} (u:Value) [hs:Lk e s v] (h:v=u) (k:JO P n w0 F l i os Q ((s,u)::e) Γ):JO P n w0 F l i os Q e Γ :=
 fun hd a w fr ho=>k hd a w (fr.again (by rw [← h]; exact hs.ok)) ho
theorem JR.insert [Dr] {K:Type} [DecidableEq K] {kv:K→Value} {x y z:Operand} {ty kt el:TypeId} {sz by_ b:Nat} {zz v:Value} {M:List (K × Value)} (k:K) {Δ:List Fact}
  [hT:Ty P ty (.map kt el) sz by_ zz] [hK:MKey P kt kv] [hx:Ev e x (.map (some b))] [hy:Ev e y (kv k)] [hz:Ev e z v] [hM:OwnM Γ b (ents kv M) M.length Δ]
  (hnd:(M.map (·.1)).Nodup) (hnew:plc M k=none) (kk:JO P n w0 F ops (i+1) os Q e (.omap b (ents kv (M++[(k,v)])) (M++[(k,v)]).length::Δ)):JR P n w0 F ops i ⟨none, .insert ty x y z,t,pos,aft,g⟩ os Q e Γ:=by
 refine Xbo (M:=M) (k:=k) (v:=v) (.inr rfl) hnd ?_
 simp only [upd,hnew]
 exact kk
end
section
variable {P:Program} {n:Nn} {w0:World} {F:Nat→Prop} {ops:Array Oper} {i d:Nat} {t:TypeId} {pos:String} {aft:Array Edge} {g:Option (Nat × Bool)} {os:List Oper} {Q:Cont} {e:E} {Γ:List Fact}
theorem Xrk [Dr] {len:Nat} {ps:List (Nat × Operand)} {vs:List Value} {ty el:TypeId} {ed:TypeDesc} {sz by_ es eb:Nat} {z ez:Value} {cs:List Value} {K:E→List Fact→Prop} [hp:PartVs e 0 ps vs] [hT:Ty P ty (.slice el) sz by_ z] [hE:Ty P el ed es eb ez] [hc:Cels vs es cs]
  (hd:Nat.blt d n.s=true) (hl:vs.length=len∧0 < es∧0 < len∧len * es≤16777216)
  (k:∀ b,K ((d, .slice (some ⟨b,0,none⟩) len len)::e) (.own b el cs::Γ)):JS P n w0 F ⟨some d, .buildSlice ty len ⟨ps⟩,t,pos,aft,g⟩ e Γ K :=
 JS.value hd fun a w fr ho=>by
  obtain ⟨ti,hti,hti1,hti2,hti3⟩:=hE.some
  have hmul:0 < len * es:=Nat.mul_pos hl.2.2.1 hl.2.1
  have hfill:=Go.Great.fill_whole hl.2.1 vs ((Array.range (len * es)).map (ez.cells[· % ez.cells.size]!)) hc.ok.1 (by simp [hl.1])
  have hparts:((⟨ps⟩:Array (Nat × Operand)).map fun (i,x)=>(i,a.eval x)).toList=(vs.zipIdx 0).map fun x=>(x.2,x.1):=by
   simpa using hp.ok n a fr
  have hrun:=Go.run_buildSlice (P:=P) w ty el len ((⟨ps⟩:Array (Nat × Operand)).map fun (i,x)=>(i,a.eval x)) ⟨cs⟩ ti ez hT.und hti hti3 (by rw [hti1]; omega) (by rw [hti1]; omega) (by rw [hti1,hparts,hfill,hc.ok.2])
  refine ⟨_,_,_,?_,(Bel.refl _ _).alloc (Nat.le_refl _) _,ho.alloc el cs,k w.heap.size⟩
  simp only [execOp,Sem.run_bind,hrun,Result.andThen_ok]
  rfl
theorem Hold.pubOwn [Dr] {w:World} {b:Nat} {bt:TypeId} {vs:List Value} (h:Hold w0 F (.own b bt vs::Γ) w):Hold w0 F (.st (ro b 0 vs)::Γ) w :=
 h.publish fun hk=>⟨hk b (.inr rfl),Fact.owned_lt (f:=.own b bt vs) (h.sat (.own b bt vs) (by simp)) rfl,Xjq (h.sat (.own b bt vs) (by simp))⟩
theorem JC.pubOwn [Dr] {c:Code} {bt:TypeId} {vs:List Value} {Δ:List Fact} (b:Nat) [h:Own Γ b bt vs Δ] (k:JC P n w0 F c Q e (.st (ro b 0 vs)::Δ)):JC P n w0 F c Q e Γ :=
 JC.more (fun w ho=>(ho.perm h.ok).pubOwn) k
theorem JO.pubOwn [Dr] {bt:TypeId} {vs:List Value} {Δ:List Fact} (b:Nat) [h:Own Γ b bt vs Δ] (k:JO P n w0 F ops i os Q e (.st (ro b 0 vs)::Δ)):JO P n w0 F ops i os Q e Γ :=
 JO.more (fun w ho=>(ho.perm h.ok).pubOwn) k
theorem JR.more [Dr] {o:Oper} {Γ':List Fact} (h:∀ w,Hold w0 F Γ w→Hold w0 F Γ' w) (k:JR P n w0 F ops i o os Q e Γ'):JR P n w0 F ops i o os Q e Γ :=
 fun hd a w fr ho=>k hd a w fr (h w ho)
theorem JR.pubOwn [Dr] {o:Oper} {bt:TypeId} {vs:List Value} {Δ:List Fact} (b:Nat) [h:Own Γ b bt vs Δ] (k:JR P n w0 F ops i o os Q e (.st (ro b 0 vs)::Δ)):JR P n w0 F ops i o os Q e Γ :=
 JR.more (fun w ho=>(ho.perm h.ok).pubOwn) k
theorem JM.more [Dr] {l:List Oper} {m fuel:Nat} {done:List Bool} {Γ':List Fact} (h:∀ w,Hold w0 F Γ w→Hold w0 F Γ' w) (k:JM P n w0 F l m fuel done Q e Γ'):JM P n w0 F l m fuel done Q e Γ :=
 fun a w fr ho=>k a w fr (h w ho)
theorem Xg3 {α:Type} [Cell α] {b c:Nat} {el:TypeId} {L:List α} {w:World} {G:Nat→Prop} (h:(buf (some ⟨b,0,none⟩) c el L).holds G w) :
  ∃ (q:List (α × Cell.Ix α)) (cur:Array Value),L.length≤lim∧q.map (·.1)=L∧(∀ p∈q,∀ A∈Cell.facts p.1 p.2,A.holds G w)∧w.heap[b]? = some (.cells cur el (0,0))∧L.length≤c∧c≤maxLen∧cur.size=c * Cell.sz α∧cur.toList.take (L.length * Cell.sz α)=flat q:=by
 obtain ⟨h0,q,h1,h2,h3⟩:=h
 rcases h2.2 with ⟨hv,hn⟩ | ⟨g,cap,cur,hv,_,hg,hnc,hcm,hcs,ht⟩
 ·cases hv
 ·injection hv with e1 e2 e3
  injection e1 with e1
  injection e1 with e1
  subst e1 e3
  exact ⟨q,cur,h0,h1,h3,hg,hnc,hcm,hcs,ht⟩
theorem Hold.rebuf [Dr] {α:Type} [Cell α] {b c:Nat} {el:TypeId} {L:List α} {w:World} {Δ:List Fact} (ho:Hold w0 F (.res (buf (some ⟨b,0,none⟩) c el L)::Δ) w)
  (q':List (α × Cell.Ix α)) (cur':Array Value) (hq:∀ p∈q',∀ A∈Cell.facts p.1 p.2,A.holds (fp w0 F (.res (buf (some ⟨b,0,none⟩) c el L)::Δ)) w) (hc:q'.length≤c) (hs:cur'.size=c * Cell.sz α) (ht:cur'.toList.take (q'.length * Cell.sz α)=flat q') (hlim:q'.length≤lim) :
  Hold w0 F (.res (buf (some ⟨b,0,none⟩) c el (q'.map (·.1)))::Δ) (w.setRow b cur'):=by
 obtain ⟨q,cur,h0,h1,h2,hg,hnc,hcm,hcs,htk⟩:=Xg3 (ho.sat (.res (buf (some ⟨b,0,none⟩) c el L)) (by simp))
 have howns:∀ (X:List α) k,(buf (some ⟨b,0,none⟩) c el X).owns k↔k=b:=by
  intro X k
  constructor
  ·rintro ⟨a',ha',rfl⟩; injection ha' with ha'; subst ha'; rfl
  ·rintro rfl; exact ⟨_,rfl,rfl⟩
 have hheap:∀ k,k≠b→(w.setRow b cur').heap[k]? = w.heap[k]?:=fun k hk=>by
  simp only [World.setRow,Array.getElem?_modify]; rw [if_neg (by omega)]
 refine ho.swap (b:=b) (howns L) (howns _) rfl rfl rfl (by simp) hheap ?_
 refine ⟨by simpa using hlim,q',rfl,⟨by rw [Xbf]; simp, .inr ⟨b,c,cur',rfl,Nat.zero_le _,setRow_heap w b cur cur' el _ hg,by simpa using hc,hcm,hs,by simpa using ht⟩⟩,fun p hp A hA=>?_⟩
 refine Fact.sat_keep (f:=.st A) (hq p hp A hA) (fun k hk hlt=>⟨hk.1,fun f hf=>?_⟩) (fun k hlt hk=>?_)
 ·rcases List.mem_cons.1 hf with rfl | hf
  ·exact fun h=>hk.2 (.res (buf (some ⟨b,0,none⟩) c el L)) (by simp) ((howns L k).2 ((howns _ k).1 h))
  ·exact hk.2 f (by simp [hf])
 ·have hk':=hk.resolve_right (by simp [Fact.owns])
  exact hheap k (fun e=>hk'.2 (.res (buf (some ⟨b,0,none⟩) c el L)) (by simp) ((howns L k).2 e))
end
section
variable {P:Program} {n:Nn} {w0:World} {F:Nat→Prop} {ops:Array Oper} {i d:Nat} {t:TypeId} {pos:String} {aft:Array Edge} {g:Option (Nat × Bool)} {os:List Oper} {Q:Cont} {e:E} {Γ:List Fact} [Dr]
theorem Xup {α:Type} [Cell α] {w:World} {Δ:List Fact} {b c:Nat} {el ty:TypeId} {L:List α} {ed:TypeDesc} {sz by_ es eb:Nat} {z ez:Value} {ecs:List Value} {ad:Addr} {l m c1:Nat}
  (ho:Hold w0 F (.res (buf (some ⟨b,0,none⟩) c el L)::Δ) w) [hT:Ty P ty (.slice el) sz by_ z] [hE:Ty P el ed es eb ez] [hz:Cel ez ecs] [h1c:One ecs] (hes:es=Cell.sz α∧ecs.length=es) (hl:L.length≤l) (hm:l+m≤c) (had:m≠0→ad=⟨b,l * es,none⟩) :
  ∃ w',(Builtin.clear_ #[ty] t #[.slice (some ad) m c1]).run P w = .ok (.tuple #[]) w'∧Hold w0 F (.res (buf (some ⟨b,0,none⟩) c el L)::Δ) w':=by
 by_cases hm0:m=0
 ·subst hm0
  refine ⟨w,?_,ho⟩
  simp [Builtin.clear_,run_underlying hT.und]
 obtain ⟨q,cur,h0,h1,h2,hg,hnc,hcm,hcs,htk⟩:=Xg3 (ho.sat (.res (buf (some ⟨b,0,none⟩) c el L)) (by simp))
 have hqL:q.length=L.length:=by rw [← h1]; simp
 have hzs:ez.cells.size=es:=by rw [Xbt (v:=ez) (cs:=ecs)]; simpa using hes.2
 have hzl:(Builtin.zeroCells ez.cells m).toList.length=m * es:=by simp [size_zeroCells,hzs]
 have hfit:l * es+m * es≤cur.size:=by rw [hcs,hes.1,← Nat.add_mul]; exact Nat.mul_le_mul_right _ hm
 have hone:∀ v∈(Builtin.zeroCells ez.cells m).toList,v.oneCell'=true:=by
  intro v hv
  simp only [Builtin.zeroCells,Array.toList_map,List.mem_map] at hv
  obtain ⟨x,hx,rfl⟩:=hv
  have hpos:0 < ez.cells.size:=by rw [hzs,hes.1]; exact Cell.pos
  have hlt:x % ez.cells.size < ez.cells.size:=Nat.mod_lt _ hpos
  rw [getElem!_pos ez.cells _ hlt]
  apply h1c.ok
  have:ez.cells=ecs.toArray:=Xbt
  simp [this]
 have hst:=run_storeCells_at (P:=P) b (l * es) el (Builtin.zeroCells ez.cells m).toList 0 cur w hg (by simpa [size_zeroCells,hzs] using hfit) hone
 obtain ⟨m',rfl⟩:∃ m',m=m'+1:=⟨m - 1,by omega⟩
 have hrun:(Builtin.clear_ #[ty] t #[.slice (some ad) (m'+1) c1]).run P w = .ok (.tuple #[]) (w.setRow b (cur.toList.take (l * es+0)++(Builtin.zeroCells ez.cells (m'+1)).toList++cur.toList.drop (l * es+0+(Builtin.zeroCells ez.cells (m'+1)).toList.length)).toArray):=by
  have hz0:=Xf5 (P:=P) (t:=el) w
  rw [had hm0]
  simp [Builtin.clear_,run_underlying hT.und,hz0,hst]
 refine ⟨_,hrun,?_⟩
 have hcl:cur.toList.length=cur.size:=by simp
 have hle:L.length * Cell.sz α≤l * es:=by rw [hes.1]; exact Nat.mul_le_mul_right _ hl
 have:=ho.rebuf q (cur.toList.take (l * es+0)++(Builtin.zeroCells ez.cells (m'+1)).toList++cur.toList.drop (l * es+0+(Builtin.zeroCells ez.cells (m'+1)).toList.length)).toArray h2 (by omega)
  (by simp only [List.size_toArray,List.length_append,List.length_take,List.length_drop,hcl,hzl]; rw [← hcs]; omega)
  (by
   rw [hqL,← htk,List.append_assoc,List.take_append_of_le_length (by simp only [List.length_take,hcl]; omega),List.take_take]
   congr 1
   omega)
  (by omega)
 rwa [h1] at this
theorem Xbb {x hi':Operand} {a0:Option Addr} {m c k:Nat} {kk:IntKind} {j:Int} {ty el:TypeId} {ed:TypeDesc} {sz by_ es eb:Nat} {z ez:Value} {d:Option Nat}
  [hx:Ev e x (.slice a0 m c)] [hi:Ev e hi' (.int kk j)] [hk:NatI j k] [hT:Ty P ty (.slice el) sz by_ z] [hE:Ty P el ed es eb ez] (h:∀ w,Hold w0 F Γ w→k≤c) :
  OpV P n w0 F ⟨d, .slice ty x none (some hi') none,t,pos,aft,g⟩ e Γ (.slice a0 k c) :=
 fun a w fr ho=>by
  have hlc:=h w ho
  have h1:=Xaz (P:=P) (t:=ty) w
  have h2:=Xbg (P:=P) (t:=el) w
  have hj:=hk.ok
  subst hj
  have hb:(Instr.sliceBound (.int kk (k:Int)) c .sliceAcap).run P w = .ok k w:=by
   simp [Instr.sliceBound,asIntOf]
   omega
  simp [execOp,hx.ok n a fr,hi.ok n a fr,Instr.sliceAt,Instr.slice,h1,h2,Instr.sliceBounds,hb]
  by_cases hc0:c=0
  ·simp [hc0]
  ·cases a0 with
   | none=>simp
   | some a1=>simp [Addr.add]
theorem Xba {x lo:Operand} {b m c l:Nat} {kk:IntKind} {j:Int} {ty el:TypeId} {ed:TypeDesc} {sz by_ es eb:Nat} {z ez:Value} {d:Option Nat}
  [hx:Ev e x (.slice (some ⟨b,0,none⟩) m c)] [hi:Ev e lo (.int kk j)] [hk:NatI j l] [hT:Ty P ty (.slice el) sz by_ z] [hE:Ty P el ed es eb ez] (h:∀ w,Hold w0 F Γ w→l≤m∧m≤c) :
  OpV P n w0 F ⟨d, .slice ty x (some lo) none none,t,pos,aft,g⟩ e Γ (.slice (some (if c=l then ⟨b,0,none⟩ else ⟨b,l * es,none⟩)) (m - l) (c - l)) :=
 fun a w fr ho=>by
  have hlc:=h w ho
  have h1:=Xaz (P:=P) (t:=ty) w
  have h2:=Xbg (P:=P) (t:=el) w
  have hj:=hk.ok
  subst hj
  have hb:(Instr.sliceBound (.int kk (l:Int)) m .sliceB).run P w = .ok l w:=by
   simp [Instr.sliceBound,asIntOf]
   omega
  simp [execOp,hx.ok n a fr,hi.ok n a fr,Instr.sliceAt,Instr.slice,h1,h2,Instr.sliceBounds,hb]
  by_cases hc0:c=l
  ·simp [hc0]
  ·simp [hc0,Addr.add_mid]
theorem JR.clear {α:Type} [ic:Cell α] {x:Operand} {b c c1 l m:Nat} {ad:Addr} {el ty:TypeId} {L:List α} {ed:TypeDesc} {sz by_ es eb:Nat} {z ez:Value} {ecs:List Value} {Δ:List Fact}
  [hx:Ev e x (.slice (some ad) m c1)] [hB:Rem Γ (.res (buf (some ⟨b,0,none⟩) c el L)) Δ] [hT:Ty P ty (.slice el) sz by_ z] [hE:Ty P el ed es eb ez] [hz:Cel ez ecs] [h1c:One ecs]
  (hes:es=Cell.sz α∧ecs.length=es) (hl:L.length≤l) (hm:l+m≤c) (had:m≠0→ad=⟨b,l * es,none⟩)
  (K:JO P n w0 F ops (i+1) os Q e (.res (buf (some ⟨b,0,none⟩) c el L)::Δ)) :
  JR P n w0 F ops i ⟨none, .call ⟨.builtin .clear,#[x],#[ty]⟩,t,pos,aft,g⟩ os Q e Γ :=
 Xdi fun a w fr ho=>by
  obtain ⟨w',hrun,hw'⟩:=Xup (P:=P) (t:=t) (ty:=ty) (ez:=ez) (ecs:=ecs) (ad:=ad) (c1:=c1) (ho.perm hB.ok) hes hl hm had
  refine ⟨.value (.tuple #[]),w',_, .inr ⟨_,rfl⟩,?_,hw',K⟩
  simp [execOp,Xag,invoke,builtin,hx.ok n a fr,hrun]
theorem Xfi {c:Code} {next:E→List Fact→Prop} {ι:Type} (St:ι→E) (Me:ι→List Fact) (h:JC P n w0 F c (fun x e' Γ'=>x = .normal∧∃ y,Ent e' Γ' (St y) (Me y)) e Γ)
  (k:∀ y,next (St y) (Me y)):JC P n w0 F c (andThen next Q) e Γ:=by
 intro a w fr ho
 refine wp_mono (h a w fr ho) ?_
 rintro x a' w' ⟨e',Γ',⟨rfl,y,hy⟩,fr',ho'⟩
 exact ⟨St y,Me y,k y,hy.slots n a' fr',hy.facts w0 F w' ho'⟩
class BufAt {α:Type} [ic:Cell α] (Γ:List Fact) (b:Nat) (c:outParam Nat) (el:outParam TypeId) (L:outParam (List α)) (Δ:outParam (List Fact)):Prop where
 ok:Γ.Perm (.res (buf (some ⟨b,0,none⟩) c el L)::Δ)
instance (priority:=100) BufAt.miss {α:Type} [ic:Cell α] {Γ:List Fact} {f:Fact} {b c:Nat} {el:TypeId} {L:List α} {Δ:List Fact} [h:BufAt Γ b c el L Δ]:BufAt (f::Γ) b c el L (f::Δ) :=
 ⟨(h.ok.cons f).trans (List.Perm.swap _ f Δ)⟩
instance (priority:=1000) BufAt.hit {α:Type} [ic:Cell α] {Γ:List Fact} {b c:Nat} {el:TypeId} {L:List α}:BufAt (.res (buf (some ⟨b,0,none⟩) c el L)::Γ) b c el L Γ:=⟨List.Perm.refl _⟩
theorem Hold.bufSl {α:Type} [Cell α] {w:World} {a:Option Addr} {c:Nat} {el:TypeId} {L:List α} {Δ:List Fact} (ho:Hold w0 F (.res (buf a c el L)::Δ) w):(sl a c L).holds (fun _=>True) w :=
 (sl a c L).mono _ _ _ (fun _ _=>trivial) (ho.pub.sat (.st (sl a c L)) (by simp))
theorem JC.pure {c:Code} {φ:Prop} (h:∀ w,Hold w0 F Γ w→φ) (k:φ→JC P n w0 F c Q e Γ):JC P n w0 F c Q e Γ:=fun a w fr ho=>k (h w ho) a w fr ho
theorem JR.pure {o:Oper} {φ:Prop} (h:∀ w,Hold w0 F Γ w→φ) (k:φ→JR P n w0 F ops i o os Q e Γ):JR P n w0 F ops i o os Q e Γ:=fun hd a w fr ho=>k (h w ho) hd a w fr ho
end
section
variable {P:Program} {n:Nn} {w0:World} {F:Nat→Prop} {ops:Array Oper} {i d:Nat} {t:TypeId} {pos:String} {aft:Array Edge} {g:Option (Nat × Bool)} {os:List Oper} {Q:Cont} {e:E} {Γ:List Fact}
theorem Xja {α:Type} [Cell α] {a:Option Addr} {c:Nat} {el:TypeId} {L:List α} {w:World} {G:Nat→Prop} (h:(buf a c el L).holds G w) (hL:L≠[]):∃ b,a=some ⟨b,0,none⟩:=by
 obtain ⟨_,q,h1,h2,_⟩:=h
 rcases h2.2 with ⟨hv,hn⟩ | ⟨g,cap,cur,hv,_⟩
 ·exact (hL (List.eq_nil_of_length_eq_zero hn)).elim
 ·injection hv with e1 e2 e3
  exact ⟨g,e1⟩
theorem Xdj [Dr] {x ix:Operand} {b m c k:Nat} {kk:IntKind} {j:Int} {ty el:TypeId} {ed:TypeDesc} {sz by_ es eb:Nat} {z ez:Value} {d:Option Nat}
  [hx:Ev e x (.slice (some ⟨b,0,none⟩) m c)] [hi:Ev e ix (.int kk j)] [hk:NatI j k] [hT:Ty P ty (.slice el) sz by_ z] [hE:Ty P el ed es eb ez] (h:k < m) :
  OpV P n w0 F ⟨d, .indexAddr ty x ix,t,pos,aft,g⟩ e Γ (.pointer (some ⟨b,k * es,none⟩)) :=
 fun a w fr ho=>by
  have e1:=Xaz (P:=P) (t:=ty) w
  have e2:=Xbg (P:=P) (t:=el) w
  have hj:=hk.ok
  subst hj
  simp [execOp,hx.ok n a fr,hi.ok n a fr,Instr.indexAt,asIntOf,e1,e2,h,Addr.add_mid]
theorem Xsn [Dr] {α:Type} [ic:Cell α] {x:Operand} {b c k o:Nat} {el:TypeId} {L:List α} {fs:List Field} {sz by_:Nat} {z:Value} {Δ:List Fact}
  [hx:Ev e x (.pointer (some ⟨b,o,none⟩))] [hB:BufAt Γ b c el L Δ] [hT:Ty P el (.struct ⟨fs⟩) sz by_ z] (hd:Nat.blt d n.s=true) (hsz:sz=Cell.sz α) (h:k < L.length) (ho':o=k * sz)
  (K:∀ y,JO P n w0 F ops (i+1) os Q ((d, .agg ⟨Cell.cells (L[k]'h) y⟩)::e) ((Cell.facts (L[k]'h) y).map Fact.st++Γ)) :
  JR P n w0 F ops i ⟨some d, .load el x,t,pos,aft,g⟩ os Q e Γ :=
 JR.value hd fun a w fr ho=>by
  have hp:=ho.perm hB.ok
  obtain ⟨q,cur,h0,h1,h2,hg,hnc,hcm,hcs,htk⟩:=Xg3 (hp.sat (.res (buf (some ⟨b,0,none⟩) c el L)) (by simp))
  have hqL:q.length=L.length:=by rw [← h1]; simp
  have hkq:k < q.length:=by omega
  have hqk:q[k].1=L[k]:=by simp [← h1]
  have hrange:w.rangeAt b o (Cell.cells (L[k]'h) q[k].2):=by
   intro j v hv
   rw [← hqk] at hv
   have:=Xjs q k hkq j v hv
   rw [cell_of_row w b _ cur el _ hg,ho',hsz]
   rw [← htk,List.getElem?_take] at this
   split at this
   ·simpa using this
   ·cases this
  have hload:=Xd4 (P:=P) (t:=el) (v:=.agg ⟨Cell.cells (L[k]'h) q[k].2⟩) hrange (by rw [Cell.len,hsz])
  refine ⟨_,w,_,?_,?_,K q[k].2⟩
  ·simp [execOp,hx.ok n a fr,hload]
  ·have key:∀ (As:List Asn),(∀ A∈As,A.holds (fp w0 F Γ) w)→Hold w0 F (As.map Fact.st++Γ) w:=by
    intro As
    induction As with
    | nil=>exact fun _=>ho
    | cons A As ih =>
     intro hA
     refine (ih (fun B hB=>hA B (by simp [hB]))).add (A.mono _ _ _ (fun k hk=>⟨hk.1,Xcn.2 ⟨fun f hf=>?_,hk.2⟩⟩) (hA A (by simp)))
     simp only [List.mem_map] at hf
     obtain ⟨B,_,rfl⟩:=hf
     exact fun h=>h
   refine key _ fun A hA=>?_
   have hA':=h2 q[k] (List.getElem_mem hkq) A (by rw [hqk]; exact hA)
   exact A.mono _ _ _ (fun j hj=>⟨hj.1,fun f hf=>hj.2 f (hB.ok.mem_iff.1 hf)⟩) hA'
end
theorem X2e (n:Nat):IntKind.u8.wrap (n:Int)=((n % 256:Nat):Int):=by simp [IntKind.wrap,IntKind.bits,IntKind.signed]
abbrev w32 (x:UInt32):Value:=.int .u32 (x.toNat:Int)
theorem Xj3 (n:Nat):IntKind.u32.wrap (n:Int)=((n % 4294967296:Nat):Int):=by simp [IntKind.wrap,IntKind.bits,IntKind.signed]
theorem bv32 (x:UInt32):BitVec.ofInt 32 (x.toNat:Int)=x.toBitVec:=by
 rw [BitVec.ofInt_natCast]; exact BitVec.ofNat_toNat .. |>.trans (by simp)
def Xoa (a:UInt32) (k:Nat):UInt32:=UInt32.ofNat (a.toNat / 2 ^ k)
def Xlz (a:UInt32) (k:Nat):UInt32:=UInt32.ofNat (a.toNat * 2 ^ k)
theorem X2f (a b:UInt32):IntKind.u32.wrap ((BitVec.ofInt 32 (a.toNat:Int) ^^^ BitVec.ofInt 32 (b.toNat:Int)).toNat:Int)=((a ^^^ b).toNat:Int):=by
 rw [bv32,bv32,Xj3]
 congr 1
 exact Nat.mod_eq_of_lt (a ^^^ b).toNat_lt
theorem X2g (a b:UInt32):IntKind.u32.wrap ((BitVec.ofInt 32 (a.toNat:Int) &&& BitVec.ofInt 32 (b.toNat:Int)).toNat:Int)=((a &&& b).toNat:Int):=by
 rw [bv32,bv32,Xj3]
 congr 1
 exact Nat.mod_eq_of_lt (a &&& b).toNat_lt
theorem X3b (a b:UInt32):IntKind.u32.wrap ((BitVec.ofInt 32 (a.toNat:Int) ||| BitVec.ofInt 32 (b.toNat:Int)).toNat:Int)=((a ||| b).toNat:Int):=by
 rw [bv32,bv32,Xj3]
 congr 1
 exact Nat.mod_eq_of_lt (a ||| b).toNat_lt
theorem Xuq (a b:UInt32):IntKind.u32.wrap ((BitVec.ofInt 32 (a.toNat:Int) &&& ~~~ BitVec.ofInt 32 (b.toNat:Int)).toNat:Int)=((a &&& ~~~ b).toNat:Int):=by
 rw [bv32,bv32,Xj3]
 congr 1
 exact Nat.mod_eq_of_lt (a &&& ~~~ b).toNat_lt
abbrev w64 (x:UInt64):Value:=.int .u64 (x.toNat:Int)
theorem Xg4 (n:Nat):IntKind.u64.wrap (n:Int)=((n % 18446744073709551616:Nat):Int):=by simp [IntKind.wrap,IntKind.bits,IntKind.signed]
def Xur (a:UInt64) (k:Nat):UInt64:=UInt64.ofNat (a.toNat / 2 ^ k)
section
variable {P:Program} {n:Nn} {w0:World} {F:Nat→Prop} {d:Option Nat} {t:TypeId} {pos:String} {aft:Array Edge} {g:Option (Nat × Bool)} {e:E} {Γ:List Fact}
 {x y:Operand} {ty yt:TypeId}
theorem Xai [Dr] {a b:UInt32} [hx:Ev e x (w32 a)] [hy:Ev e y (w32 b)]:OpV P n w0 F ⟨d, .binOp .add ty x y yt,t,pos,aft,g⟩ e Γ (w32 (a+b)):=by
 have:=Xc1 (P:=P) (n:=n) (w0:=w0) (F:=F) (d:=d) (t:=t) (pos:=pos) (aft:=aft) (g:=g) (e:=e) (Γ:=Γ) (x:=x) (y:=y) (ty:=ty) (yt:=yt) (kk:=.u32) (p:=a.toNat) (q:=b.toNat)
 rwa [← Int.natCast_add,Xj3,← show (a+b).toNat=(a.toNat+b.toNat) % 4294967296 from UInt32.toNat_add a b] at this
theorem Xa5 [Dr] {a b:UInt32} [hx:Ev e x (w32 a)] [hy:Ev e y (w32 b)]:OpV P n w0 F ⟨d, .binOp .xor ty x y yt,t,pos,aft,g⟩ e Γ (w32 (a ^^^ b)):=by
 have:=OpV.xor (P:=P) (n:=n) (w0:=w0) (F:=F) (d:=d) (t:=t) (pos:=pos) (aft:=aft) (g:=g) (e:=e) (Γ:=Γ) (x:=x) (y:=y) (ty:=ty) (yt:=yt) (kk:=.u32) (p:=a.toNat) (q:=b.toNat)
 exact Eq.mp (congrArg (fun v=>OpV P n w0 F ⟨d, .binOp .xor ty x y yt,t,pos,aft,g⟩ e Γ (Value.int .u32 v)) (X2f a b)) this
theorem Xa6 [Dr] {a b:UInt32} [hx:Ev e x (w32 a)] [hy:Ev e y (w32 b)]:OpV P n w0 F ⟨d, .binOp .and ty x y yt,t,pos,aft,g⟩ e Γ (w32 (a &&& b)):=by
 have:=OpV.and (P:=P) (n:=n) (w0:=w0) (F:=F) (d:=d) (t:=t) (pos:=pos) (aft:=aft) (g:=g) (e:=e) (Γ:=Γ) (x:=x) (y:=y) (ty:=ty) (yt:=yt) (kk:=.u32) (p:=a.toNat) (q:=b.toNat)
 exact Eq.mp (congrArg (fun v=>OpV P n w0 F ⟨d, .binOp .and ty x y yt,t,pos,aft,g⟩ e Γ (Value.int .u32 v)) (X2g a b)) this
theorem Xa8 [Dr] {a b:UInt32} [hx:Ev e x (w32 a)] [hy:Ev e y (w32 b)]:OpV P n w0 F ⟨d, .binOp .or ty x y yt,t,pos,aft,g⟩ e Γ (w32 (a ||| b)):=by
 have:=OpV.or (P:=P) (n:=n) (w0:=w0) (F:=F) (d:=d) (t:=t) (pos:=pos) (aft:=aft) (g:=g) (e:=e) (Γ:=Γ) (x:=x) (y:=y) (ty:=ty) (yt:=yt) (kk:=.u32) (p:=a.toNat) (q:=b.toNat)
 exact Eq.mp (congrArg (fun v=>OpV P n w0 F ⟨d, .binOp .or ty x y yt,t,pos,aft,g⟩ e Γ (Value.int .u32 v)) (X3b a b)) this
theorem Xak [Dr] {a b:UInt32} [hx:Ev e x (w32 a)] [hy:Ev e y (w32 b)]:OpV P n w0 F ⟨d, .binOp .andNot ty x y yt,t,pos,aft,g⟩ e Γ (w32 (a &&& ~~~ b)):=by
 have:=OpV.andNot (P:=P) (n:=n) (w0:=w0) (F:=F) (d:=d) (t:=t) (pos:=pos) (aft:=aft) (g:=g) (e:=e) (Γ:=Γ) (x:=x) (y:=y) (ty:=ty) (yt:=yt) (kk:=.u32) (p:=a.toNat) (q:=b.toNat)
 exact Eq.mp (congrArg (fun v=>OpV P n w0 F ⟨d, .binOp .andNot ty x y yt,t,pos,aft,g⟩ e Γ (Value.int .u32 v)) (Xuq a b)) this
theorem Xj4 [Dr] {a:UInt32} {kk:IntKind} {j:Int} {k:Nat} [hx:Ev e x (w32 a)] [hy:Ev e y (.int kk j)] [hk:NatI j k] (h:k≤32):OpV P n w0 F ⟨d, .binOp .shr ty x y yt,t,pos,aft,g⟩ e Γ (w32 (Xoa a k)):=by
 have hj:=hk.ok
 subst hj
 have:=OpV.shr (P:=P) (n:=n) (w0:=w0) (F:=F) (d:=d) (t:=t) (pos:=pos) (aft:=aft) (g:=g) (e:=e) (Γ:=Γ) (x:=x) (y:=y) (ty:=ty) (yt:=yt) (kk:=.u32) (yk:=kk) (p:=a.toNat) (q:=(k:Int)) (by omega)
 refine Eq.mp (congrArg (fun v=>OpV P n w0 F ⟨d, .binOp .shr ty x y yt,t,pos,aft,g⟩ e Γ (Value.int .u32 v)) ?_) this
 have e1:Min.min (Int.toNat (k:Int)) (IntKind.bits .u32)=k:=Nat.min_eq_left h
 have e2:((2:Int) ^ k)=((2 ^ k:Nat):Int):=by simp
 rw [e1,e2,Int.fdiv_eq_ediv_of_nonneg _ (Int.natCast_nonneg _),← Int.natCast_ediv,Xoa,UInt32.toNat_ofNat',Nat.mod_eq_of_lt (Nat.lt_of_le_of_lt (Nat.div_le_self _ _) a.toNat_lt)]
theorem Xg5 [Dr] {a:UInt32} {kk:IntKind} {j:Int} {k:Nat} [hx:Ev e x (w32 a)] [hy:Ev e y (.int kk j)] [hk:NatI j k] (h:k≤32):OpV P n w0 F ⟨d, .binOp .shl ty x y yt,t,pos,aft,g⟩ e Γ (w32 (Xlz a k)):=by
 have hj:=hk.ok
 subst hj
 have:=OpV.shl (P:=P) (n:=n) (w0:=w0) (F:=F) (d:=d) (t:=t) (pos:=pos) (aft:=aft) (g:=g) (e:=e) (Γ:=Γ) (x:=x) (y:=y) (ty:=ty) (yt:=yt) (kk:=.u32) (yk:=kk) (p:=a.toNat) (q:=(k:Int)) (by omega)
 refine Eq.mp (congrArg (fun v=>OpV P n w0 F ⟨d, .binOp .shl ty x y yt,t,pos,aft,g⟩ e Γ (Value.int .u32 v)) ?_) this
 have e1:Min.min (Int.toNat (k:Int)) (IntKind.bits .u32)=k:=Nat.min_eq_left h
 have e2:((2:Int) ^ k)=((2 ^ k:Nat):Int):=by simp
 rw [e1,e2,← Int.natCast_mul,Xj3,Xlz,UInt32.toNat_ofNat']
theorem Xus [Dr] {a:UInt64} {kk:IntKind} {j:Int} {k:Nat} [hx:Ev e x (w64 a)] [hy:Ev e y (.int kk j)] [hk:NatI j k] (h:k≤64):OpV P n w0 F ⟨d, .binOp .shr ty x y yt,t,pos,aft,g⟩ e Γ (w64 (Xur a k)):=by
 have hj:=hk.ok
 subst hj
 have:=OpV.shr (P:=P) (n:=n) (w0:=w0) (F:=F) (d:=d) (t:=t) (pos:=pos) (aft:=aft) (g:=g) (e:=e) (Γ:=Γ) (x:=x) (y:=y) (ty:=ty) (yt:=yt) (kk:=.u64) (yk:=kk) (p:=a.toNat) (q:=(k:Int)) (by omega)
 refine Eq.mp (congrArg (fun v=>OpV P n w0 F ⟨d, .binOp .shr ty x y yt,t,pos,aft,g⟩ e Γ (Value.int .u64 v)) ?_) this
 have e1:Min.min (Int.toNat (k:Int)) (IntKind.bits .u64)=k:=Nat.min_eq_left h
 have e2:((2:Int) ^ k)=((2 ^ k:Nat):Int):=by simp
 rw [e1,e2,Int.fdiv_eq_ediv_of_nonneg _ (Int.natCast_nonneg _),← Int.natCast_ediv,Xur,UInt64.toNat_ofNat',Nat.mod_eq_of_lt (Nat.lt_of_le_of_lt (Nat.div_le_self _ _) a.toNat_lt)]
end
end Ab
end Go.Proofs.YtllddbbldmoibaaGreat
