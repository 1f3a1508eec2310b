/- Lemmas for the walks, part 2 of 7: More6, Words, Arr, More7, More8, Makers, More9, More10, More13, Draw3, Draw2, Pk, Str, Seat, Spec, Lib, WalkA, More11, CtrA, StrK, PokeS, RefOps, Pan, SortS, Cmp. -/
import Derived.Test.YtllddbbldmoibaaGreatBrV1
import Derived.Deep.AppendSrc
import Derived.Lib.AppendZeros
import Derived.Laws.MakeOwn
import Derived.Laws.CopyRow
import Derived.Test.YtllddbbldmoibaaGreatChecked
import Derived.KernelRfl
import Derived.Lib.Bytealg
import Derived.Recover
import Derived.WalkSmall
import Derived.Laws.Build
namespace Go.Proofs.YtllddbbldmoibaaGreat
namespace Ab
open Go Go.RowKit Tryz
set_option linter.unusedVariables false
set_option linter.unusedSimpArgs false
set_option linter.unusedSectionVars false
set_option synthInstance.maxSize 4000
set_option synthInstance.maxHeartbeats 400000
set_option maxHeartbeats 16000000
variable (w:World) (F:Nat→Prop)
section
variable {P:Program} {n:Nn} {w0:World} {F:Nat→Prop} {ops:Array Oper} {i d:Nat} {t:TypeId} {pos:String} {aft:Array Edge} {g:Option (Nat × Bool)} {os:List Oper} {Q:Cont} {e:E} {Γ:List Fact}
theorem Xg6 {α:Type} [Cell α] {b c:Nat} {el:TypeId} {L:List α} {w:World} {G:Nat→Prop} (h:(buf (some ⟨b,0,none⟩) c el L).holds G w) :
  ∃ (q:List (α × Cell.Ix α)) (cur:Array Value),L.length≤lim∧q.map (·.1)=L∧(∀ p∈q,∀ A∈Cell.facts p.1 p.2,A.holds G w)∧w.heap[b]? = some (.cells cur el (0,0))∧L.length≤c∧c≤maxLen∧cur.size=c * Cell.sz α∧cur.toList.take (L.length * Cell.sz α)=flat q:=by
 obtain ⟨h0,q,h1,h2,h3⟩:=h
 rcases h2.2 with ⟨hv,hn⟩ | ⟨g,cap,cur,hv,_,hg,hnc,hcm,hcs,ht⟩
 ·cases hv
 ·injection hv with e1 e2 e3
  injection e1 with e1
  injection e1 with e1
  subst e1 e3
  exact ⟨q,cur,h0,h1,h3,hg,hnc,hcm,hcs,ht⟩
theorem Hold.rebuf [Dr] {α:Type} [Cell α] {b c:Nat} {el:TypeId} {L:List α} {w:World} {Δ:List Fact} (ho:Hold w0 F (.res (buf (some ⟨b,0,none⟩) c el L)::Δ) w)
  (q':List (α × Cell.Ix α)) (cur':Array Value) (hq:∀ p∈q',∀ A∈Cell.facts p.1 p.2,A.holds (fp w0 F (.res (buf (some ⟨b,0,none⟩) c el L)::Δ)) w) (hc:q'.length≤c) (hs:cur'.size=c * Cell.sz α) (ht:cur'.toList.take (q'.length * Cell.sz α)=flat q') (hlim:q'.length≤lim) :
  Hold w0 F (.res (buf (some ⟨b,0,none⟩) c el (q'.map (·.1)))::Δ) (w.setRow b cur'):=by
 obtain ⟨q,cur,h0,h1,h2,hg,hnc,hcm,hcs,htk⟩:=Xg6 (ho.sat (.res (buf (some ⟨b,0,none⟩) c el L)) (by simp))
 have howns:∀ (X:List α) k,(buf (some ⟨b,0,none⟩) c el X).owns k↔k=b:=by
  intro X k
  constructor
  ·rintro ⟨a',ha',rfl⟩; injection ha' with ha'; subst ha'; rfl
  ·rintro rfl; exact ⟨_,rfl,rfl⟩
 have hheap:∀ k,k≠b→(w.setRow b cur').heap[k]? = w.heap[k]?:=fun k hk=>by
  simp only [World.setRow,Array.getElem?_modify]; rw [if_neg (by omega)]
 refine ho.swap (b:=b) (howns L) (howns _) rfl rfl rfl (by simp) hheap ?_
 refine ⟨by simpa using hlim,q',rfl,⟨by rw [Xbi]; simp, .inr ⟨b,c,cur',rfl,Nat.zero_le _,setRow_heap w b cur cur' el _ hg,by simpa using hc,hcm,hs,by simpa using ht⟩⟩,fun p hp A hA=>?_⟩
 refine Fact.sat_keep (f:=.st A) (hq p hp A hA) (fun k hk hlt=>⟨hk.1,fun f hf=>?_⟩) (fun k hlt hk=>?_)
 ·rcases List.mem_cons.1 hf with rfl | hf
  ·exact fun h=>hk.2 (.res (buf (some ⟨b,0,none⟩) c el L)) (by simp) ((howns L k).2 ((howns _ k).1 h))
  ·exact hk.2 f (by simp [hf])
 ·have hk':=hk.resolve_right (by simp [Fact.owns])
  exact hheap k (fun e=>hk'.2 (.res (buf (some ⟨b,0,none⟩) c el L)) (by simp) ((howns L k).2 e))
theorem X1u {α:Type} [Cell α] (q:List (α × Cell.Ix α)) (k:Nat):flat (q.take k)=(flat q).take (k * Cell.sz α):=by
 induction q generalizing k with
 | nil=>simp [flat]
 | cons p q ih =>
  obtain ⟨x,y⟩:=p
  cases k with
  | zero=>simp [flat]
  | succ k =>
   simp only [List.take_succ_cons,flat,ih]
   rw [List.take_append,List.take_of_length_le (l:=Cell.cells x y) (by rw [Cell.len,Nat.add_mul]; omega),Cell.len,Nat.add_mul,Nat.one_mul,Nat.add_sub_cancel]
theorem X1v {α:Type} [Cell α] (q:List (α × Cell.Ix α)) (k:Nat):flat (q.drop k)=(flat q).drop (k * Cell.sz α):=by
 induction q generalizing k with
 | nil=>simp [flat]
 | cons p q ih =>
  obtain ⟨x,y⟩:=p
  cases k with
  | zero=>simp [flat]
  | succ k =>
   simp only [List.drop_succ_cons,flat,ih]
   rw [List.drop_append,List.drop_of_length_le (l:=Cell.cells x y) (by rw [Cell.len,Nat.add_mul]; omega),Cell.len,Nat.add_mul,Nat.one_mul,Nat.add_sub_cancel,List.nil_append]
end
section
variable {P:Program} {n:Nn} {w0:World} {F:Nat→Prop} {ops:Array Oper} {i d:Nat} {t:TypeId} {pos:String} {aft:Array Edge} {g:Option (Nat × Bool)} {os:List Oper} {Q:Cont} {e:E} {Γ:List Fact} [Dr]
theorem X88 {α:Type} [Cell α] {w:World} {Δ:List Fact} {b c:Nat} {el ty:TypeId} {L:List α} {ed:TypeDesc} {sz by_ es eb:Nat} {z ez:Value} {ecs:List Value} {ad:Addr} {k j m c1:Nat}
  (ho:Hold w0 F (.res (buf (some ⟨b,0,none⟩) c el L)::Δ) w) [hT:Ty P ty (.slice el) sz by_ z] [hE:Ty P el ed es eb ez] (hes:es=Cell.sz α) (hk:k≤j) (hj:j+m=L.length) (had:m≠0→ad=⟨b,j * es,none⟩) :
  ∃ w',(Builtin.append_ #[ty,ty] t #[.slice (some ⟨b,0,none⟩) k c, .slice (some ad) m c1]).run P w = .ok (.slice (some ⟨b,0,none⟩) (k+m) c) w'∧Hold w0 F (.res (buf (some ⟨b,0,none⟩) c el (L.take k++L.drop j))::Δ) w':=by
 obtain ⟨q,cur,h0,h1,h2,hg,hnc,hcm,hcs,htk⟩:=Xg6 (ho.sat (.res (buf (some ⟨b,0,none⟩) c el L)) (by simp))
 obtain ⟨ti,hti,hti1,hti2,hti3⟩:=hE.some
 have hsz:ti.size=Cell.sz α:=by rw [hti1,hes]
 have hqL:q.length=L.length:=by rw [← h1]; simp
 have hlen:(flat (q.drop j)).length=m * ti.size:=by rw [Xbi,hsz,List.length_drop,hqL]; congr 1 <;> omega
 have hcells:∀ i v,(flat q)[i]? = some v→w.cell? ⟨b,i,none⟩=some v:=by
  intro i v hv
  rw [cell_of_row w b i cur el _ hg]
  rw [← htk,List.getElem?_take] at hv
  split at hv
  ·simpa using hv
  ·cases hv
 have hmul:(k+m) * ti.size≤cur.size:=by rw [hcs,hsz]; exact Nat.mul_le_mul_right _ (by omega)
 have hr:=run_append_room (P:=P) w ty t el ti hT.und hti b k c cur hg ad m c1 (flat (q.drop j)) hlen (fun i u hu=>by
  by_cases hm:m=0
  ·subst hm
   have:(flat (q.drop j)).length=0:=by rw [hlen]; simp
   rw [List.eq_nil_of_length_eq_zero this] at hu
   cases hu
  ·rw [had hm,Addr.add_mid]
   rw [X1v,List.getElem?_drop] at hu
   have:=hcells _ u hu
   rwa [hes]) (Xrh _) (by omega) (by rw [hlen,← Nat.add_mul]; exact hmul)
 refine ⟨_,hr,?_⟩
 have hmap:(q.take k++q.drop j).map (·.1)=L.take k++L.drop j:=by rw [List.map_append,List.map_take,List.map_drop,h1]
 have hql:(q.take k++q.drop j).length=k+m:=by simp [hqL]; omega
 rw [← hmap]
 have hcl:cur.toList.length=cur.size:=by simp
 refine ho.rebuf _ _ (fun p hp A hA=>?_) (by rw [hql]; omega) ?_ ?_ (by rw [hql]; omega)
 ·rcases List.mem_append.1 hp with hp | hp
  ·exact h2 p (List.mem_of_mem_take hp) A hA
  ·exact h2 p (List.mem_of_mem_drop hp) A hA
 ·simp only [List.size_toArray,List.length_append,List.length_take,List.length_drop,hcl,hlen,← Nat.add_mul]
  rw [← hcs]
  have:k * ti.size≤(k+m) * ti.size:=Nat.mul_le_mul_right _ (by omega)
  rw [Nat.add_mul] at *
  omega
 ·rw [hql]
  have e1:cur.toList.take (k * ti.size)=flat (q.take k):=by
   rw [X1u,← htk,List.take_take,hsz]
   congr 1
   exact (Nat.min_eq_left (Nat.mul_le_mul_right _ (by omega))).symm
  rw [e1,Xg2]
  refine List.take_left' ?_
  rw [List.length_append,Xbi,hlen,hsz,List.length_take,hqL,Nat.add_mul]
  congr 2
  omega
theorem X1w {α:Type} [Cell α] {w:World} {Δ:List Fact} {b c:Nat} {el ty:TypeId} {L:List α} {ed:TypeDesc} {sz by_ es eb:Nat} {z ez:Value} {ecs:List Value} {ad:Addr} {l m c1:Nat}
  (ho:Hold w0 F (.res (buf (some ⟨b,0,none⟩) c el L)::Δ) w) [hT:Ty P ty (.slice el) sz by_ z] [hE:Ty P el ed es eb ez] [hz:Cel ez ecs] [h1c:One ecs] (hes:es=Cell.sz α∧ecs.length=es) (hl:L.length≤l) (hm:l+m≤c) (had:m≠0→ad=⟨b,l * es,none⟩) :
  ∃ w',(Builtin.clear_ #[ty] t #[.slice (some ad) m c1]).run P w = .ok (.tuple #[]) w'∧Hold w0 F (.res (buf (some ⟨b,0,none⟩) c el L)::Δ) w':=by
 by_cases hm0:m=0
 ·subst hm0
  refine ⟨w,?_,ho⟩
  simp [Builtin.clear_,run_underlying hT.und]
 obtain ⟨q,cur,h0,h1,h2,hg,hnc,hcm,hcs,htk⟩:=Xg6 (ho.sat (.res (buf (some ⟨b,0,none⟩) c el L)) (by simp))
 have hqL:q.length=L.length:=by rw [← h1]; simp
 have hzs:ez.cells.size=es:=by rw [Xcb (v:=ez) (cs:=ecs)]; simpa using hes.2
 have hzl:(Builtin.zeroCells ez.cells m).toList.length=m * es:=by simp [size_zeroCells,hzs]
 have hfit:l * es+m * es≤cur.size:=by rw [hcs,hes.1,← Nat.add_mul]; exact Nat.mul_le_mul_right _ hm
 have hone:∀ v∈(Builtin.zeroCells ez.cells m).toList,v.oneCell'=true:=by
  intro v hv
  simp only [Builtin.zeroCells,Array.toList_map,List.mem_map] at hv
  obtain ⟨x,hx,rfl⟩:=hv
  have hpos:0 < ez.cells.size:=by rw [hzs,hes.1]; exact Cell.pos
  have hlt:x % ez.cells.size < ez.cells.size:=Nat.mod_lt _ hpos
  rw [getElem!_pos ez.cells _ hlt]
  apply h1c.ok
  have:ez.cells=ecs.toArray:=Xcb
  simp [this]
 have hst:=run_storeCells_at (P:=P) b (l * es) el (Builtin.zeroCells ez.cells m).toList 0 cur w hg (by simpa [size_zeroCells,hzs] using hfit) hone
 obtain ⟨m',rfl⟩:∃ m',m=m'+1:=⟨m - 1,by omega⟩
 have hrun:(Builtin.clear_ #[ty] t #[.slice (some ad) (m'+1) c1]).run P w = .ok (.tuple #[]) (w.setRow b (cur.toList.take (l * es+0)++(Builtin.zeroCells ez.cells (m'+1)).toList++cur.toList.drop (l * es+0+(Builtin.zeroCells ez.cells (m'+1)).toList.length)).toArray):=by
  have hz0:=Xio (P:=P) (t:=el) w
  rw [had hm0]
  simp [Builtin.clear_,run_underlying hT.und,hz0,hst]
 refine ⟨_,hrun,?_⟩
 have hcl:cur.toList.length=cur.size:=by simp
 have hle:L.length * Cell.sz α≤l * es:=by rw [hes.1]; exact Nat.mul_le_mul_right _ hl
 have:=ho.rebuf q (cur.toList.take (l * es+0)++(Builtin.zeroCells ez.cells (m'+1)).toList++cur.toList.drop (l * es+0+(Builtin.zeroCells ez.cells (m'+1)).toList.length)).toArray h2 (by omega)
  (by simp only [List.size_toArray,List.length_append,List.length_take,List.length_drop,hcl,hzl]; rw [← hcs]; omega)
  (by
   rw [hqL,← htk,List.append_assoc,List.take_append_of_le_length (by simp only [List.length_take,hcl]; omega),List.take_take]
   congr 1
   omega)
  (by omega)
 rwa [h1] at this
theorem Xa6 {x hi':Operand} {a0:Option Addr} {m c k:Nat} {kk:IntKind} {j:Int} {ty el:TypeId} {ed:TypeDesc} {sz by_ es eb:Nat} {z ez:Value} {d:Option Nat}
  [hx:Ev e x (.slice a0 m c)] [hi:Ev e hi' (.int kk j)] [hk:NatI j k] [hT:Ty P ty (.slice el) sz by_ z] [hE:Ty P el ed es eb ez] (h:∀ w,Hold w0 F Γ w→k≤c) :
  OpV P n w0 F ⟨d, .slice ty x none (some hi') none,t,pos,aft,g⟩ e Γ (.slice a0 k c) :=
 fun a w fr ho=>by
  have hlc:=h w ho
  have h1:=Xav (P:=P) (t:=ty) w
  have h2:=Xbf (P:=P) (t:=el) w
  have hj:=hk.ok
  subst hj
  have hb:(Instr.sliceBound (.int kk (k:Int)) c .sliceAcap).run P w = .ok k w:=by
   simp [Instr.sliceBound,asIntOf]
   omega
  simp [execOp,hx.ok n a fr,hi.ok n a fr,Instr.sliceAt,Instr.slice,h1,h2,Instr.sliceBounds,hb]
  by_cases hc0:c=0
  ·simp [hc0]
  ·cases a0 with
   | none=>simp
   | some a1=>simp [Addr.add]
theorem Xbp {x lo:Operand} {b m c l:Nat} {kk:IntKind} {j:Int} {ty el:TypeId} {ed:TypeDesc} {sz by_ es eb:Nat} {z ez:Value} {d:Option Nat}
  [hx:Ev e x (.slice (some ⟨b,0,none⟩) m c)] [hi:Ev e lo (.int kk j)] [hk:NatI j l] [hT:Ty P ty (.slice el) sz by_ z] [hE:Ty P el ed es eb ez] (h:∀ w,Hold w0 F Γ w→l≤m∧m≤c) :
  OpV P n w0 F ⟨d, .slice ty x (some lo) none none,t,pos,aft,g⟩ e Γ (.slice (some (if c=l then ⟨b,0,none⟩ else ⟨b,l * es,none⟩)) (m - l) (c - l)) :=
 fun a w fr ho=>by
  have hlc:=h w ho
  have h1:=Xav (P:=P) (t:=ty) w
  have h2:=Xbf (P:=P) (t:=el) w
  have hj:=hk.ok
  subst hj
  have hb:(Instr.sliceBound (.int kk (l:Int)) m .sliceB).run P w = .ok l w:=by
   simp [Instr.sliceBound,asIntOf]
   omega
  simp [execOp,hx.ok n a fr,hi.ok n a fr,Instr.sliceAt,Instr.slice,h1,h2,Instr.sliceBounds,hb]
  by_cases hc0:c=l
  ·simp [hc0]
  ·simp [hc0,Addr.add_mid]
theorem Xrp {x lo hi':Operand} {b m c l k:Nat} {kk k2:IntKind} {j j2:Int} {ty el:TypeId} {ed:TypeDesc} {sz by_ es eb:Nat} {z ez:Value} {d:Option Nat}
  [hx:Ev e x (.slice (some ⟨b,0,none⟩) m c)] [hi:Ev e lo (.int kk j)] [hk:NatI j l] [hi2:Ev e hi' (.int k2 j2)] [hk2:NatI j2 k] [hT:Ty P ty (.slice el) sz by_ z] [hE:Ty P el ed es eb ez] (h:∀ w,Hold w0 F Γ w→l≤k∧k≤c) :
  OpV P n w0 F ⟨d, .slice ty x (some lo) (some hi') none,t,pos,aft,g⟩ e Γ (.slice (some (if c=l then ⟨b,0,none⟩ else ⟨b,l * es,none⟩)) (k - l) (c - l)) :=
 fun a w fr ho=>by
  have hlc:=h w ho
  have h1:=Xav (P:=P) (t:=ty) w
  have h2:=Xbf (P:=P) (t:=el) w
  have hj:=hk.ok
  have hj2:=hk2.ok
  subst hj hj2
  have hb2:(Instr.sliceBound (.int k2 (k:Int)) c .sliceAcap).run P w = .ok k w:=by
   simp [Instr.sliceBound,asIntOf]
   omega
  have hb:(Instr.sliceBound (.int kk (l:Int)) k .sliceB).run P w = .ok l w:=by
   simp [Instr.sliceBound,asIntOf]
   omega
  simp [execOp,hx.ok n a fr,hi.ok n a fr,hi2.ok n a fr,Instr.sliceAt,Instr.slice,h1,h2,Instr.sliceBounds,hb,hb2]
  by_cases hc0:c=l
  ·simp [hc0]
  ·simp [hc0,Addr.add_mid]
theorem Xwb {x lo hi' mx:Operand} {b m c l k q:Nat} {kk k2 k3:IntKind} {j j2 j3:Int} {ty el:TypeId} {ed:TypeDesc} {sz by_ es eb:Nat} {z ez:Value} {d:Option Nat}
  [hx:Ev e x (.slice (some ⟨b,0,none⟩) m c)] [hi:Ev e lo (.int kk j)] [hk:NatI j l] [hi2:Ev e hi' (.int k2 j2)] [hk2:NatI j2 k] [hi3:Ev e mx (.int k3 j3)] [hk3:NatI j3 q] [hT:Ty P ty (.slice el) sz by_ z] [hE:Ty P el ed es eb ez] (h:∀ w,Hold w0 F Γ w→l≤k∧k≤q∧q≤c) :
  OpV P n w0 F ⟨d, .slice ty x (some lo) (some hi') (some mx),t,pos,aft,g⟩ e Γ (.slice (some (if q=l then ⟨b,0,none⟩ else ⟨b,l * es,none⟩)) (k - l) (q - l)) :=
 fun a w fr ho=>by
  have hlc:=h w ho
  have h1:=Xav (P:=P) (t:=ty) w
  have h2:=Xbf (P:=P) (t:=el) w
  have hj:=hk.ok
  have hj2:=hk2.ok
  have hj3:=hk3.ok
  subst hj hj2 hj3
  have hb3:(Instr.sliceBound (.int k3 (q:Int)) c .slice3Acap).run P w = .ok q w:=by
   simp [Instr.sliceBound,asIntOf]
   omega
  have hb2:(Instr.sliceBound (.int k2 (k:Int)) q .slice3B).run P w = .ok k w:=by
   simp [Instr.sliceBound,asIntOf]
   omega
  have hb:(Instr.sliceBound (.int kk (l:Int)) k .slice3C).run P w = .ok l w:=by
   simp [Instr.sliceBound,asIntOf]
   omega
  simp [execOp,hx.ok n a fr,hi.ok n a fr,hi2.ok n a fr,hi3.ok n a fr,Instr.sliceAt,Instr.slice,h1,h2,Instr.sliceBounds,hb,hb2,hb3]
  by_cases hc0:q=l
  ·simp [hc0]
  ·simp [hc0,Addr.add_mid]
theorem Xts {α:Type} [ic:Cell α] {x y:Operand} {b c c1 k j m:Nat} {ad:Addr} {el ty:TypeId} {L:List α} {ed:TypeDesc} {sz by_ es eb:Nat} {z ez:Value} {Δ:List Fact}
  [hx:Ev e x (.slice (some ⟨b,0,none⟩) k c)] [hy:Ev e y (.slice (some ad) m c1)] [hB:Rem Γ (.res (buf (some ⟨b,0,none⟩) c el L)) Δ] [hT:Ty P ty (.slice el) sz by_ z] [hE:Ty P el ed es eb ez]
  (hd:Nat.blt d n.s=true) (hes:es=Cell.sz α) (hk:k≤j) (hj:j+m=L.length) (had:m≠0→ad=⟨b,j * es,none⟩)
  (K:JO P n w0 F ops (i+1) os Q ((d, .slice (some ⟨b,0,none⟩) (k+m) c)::e) (.res (buf (some ⟨b,0,none⟩) c el (L.take k++L.drop j))::Δ)) :
  JR P n w0 F ops i ⟨some d, .call ⟨.builtin .append,#[x,y],#[ty,ty]⟩,t,pos,aft,g⟩ os Q e Γ :=
 JR.value hd fun a w fr ho=>by
  obtain ⟨w',hrun,hw'⟩:=X88 (P:=P) (t:=t) (ty:=ty) (ez:=ez) (ecs:=[]) (ad:=ad) (c1:=c1) (ho.perm hB.ok) hes hk hj had
  refine ⟨_,w',_,?_,hw',K⟩
  simp [execOp,Xaj,invoke,builtin,hx.ok n a fr,hy.ok n a fr,hrun]
theorem JR.clear {α:Type} [ic:Cell α] {x:Operand} {b c c1 l m:Nat} {ad:Addr} {el ty:TypeId} {L:List α} {ed:TypeDesc} {sz by_ es eb:Nat} {z ez:Value} {ecs:List Value} {Δ:List Fact}
  [hx:Ev e x (.slice (some ad) m c1)] [hB:Rem Γ (.res (buf (some ⟨b,0,none⟩) c el L)) Δ] [hT:Ty P ty (.slice el) sz by_ z] [hE:Ty P el ed es eb ez] [hz:Cel ez ecs] [h1c:One ecs]
  (hes:es=Cell.sz α∧ecs.length=es) (hl:L.length≤l) (hm:l+m≤c) (had:m≠0→ad=⟨b,l * es,none⟩)
  (K:JO P n w0 F ops (i+1) os Q e (.res (buf (some ⟨b,0,none⟩) c el L)::Δ)) :
  JR P n w0 F ops i ⟨none, .call ⟨.builtin .clear,#[x],#[ty]⟩,t,pos,aft,g⟩ os Q e Γ :=
 Xeq fun a w fr ho=>by
  obtain ⟨w',hrun,hw'⟩:=X1w (P:=P) (t:=t) (ty:=ty) (ez:=ez) (ecs:=ecs) (ad:=ad) (c1:=c1) (ho.perm hB.ok) hes hl hm had
  refine ⟨.value (.tuple #[]),w',_, .inr ⟨_,rfl⟩,?_,hw',K⟩
  simp [execOp,Xaj,invoke,builtin,hx.ok n a fr,hrun]
theorem Xdz {c:Code} {next:E→List Fact→Prop} {ι:Type} (St:ι→E) (Me:ι→List Fact) (h:JC P n w0 F c (fun x e' Γ'=>x = .normal∧∃ y,Ent e' Γ' (St y) (Me y)) e Γ)
  (k:∀ y,next (St y) (Me y)):JC P n w0 F c (andThen next Q) e Γ:=by
 intro a w fr ho
 refine wp_mono (h a w fr ho) ?_
 rintro x a' w' ⟨e',Γ',⟨rfl,y,hy⟩,fr',ho'⟩
 exact ⟨St y,Me y,k y,hy.slots n a' fr',hy.facts w0 F w' ho'⟩
class BufAt {α:Type} [ic:Cell α] (Γ:List Fact) (b:Nat) (c:outParam Nat) (el:outParam TypeId) (L:outParam (List α)) (Δ:outParam (List Fact)):Prop where
 ok:Γ.Perm (.res (buf (some ⟨b,0,none⟩) c el L)::Δ)
instance (priority:=100) BufAt.miss {α:Type} [ic:Cell α] {Γ:List Fact} {f:Fact} {b c:Nat} {el:TypeId} {L:List α} {Δ:List Fact} [h:BufAt Γ b c el L Δ]:BufAt (f::Γ) b c el L (f::Δ) :=
 ⟨(h.ok.cons f).trans (List.Perm.swap _ f Δ)⟩
instance (priority:=1000) BufAt.hit {α:Type} [ic:Cell α] {Γ:List Fact} {b c:Nat} {el:TypeId} {L:List α}:BufAt (.res (buf (some ⟨b,0,none⟩) c el L)::Γ) b c el L Γ:=⟨List.Perm.refl _⟩
theorem Hold.bufSl {α:Type} [Cell α] {w:World} {a:Option Addr} {c:Nat} {el:TypeId} {L:List α} {Δ:List Fact} (ho:Hold w0 F (.res (buf a c el L)::Δ) w):(sl a c L).holds (fun _=>True) w :=
 (sl a c L).mono _ _ _ (fun _ _=>trivial) (ho.pub.sat (.st (sl a c L)) (by simp))
theorem Hold.bufSlOf {α:Type} [ic:Cell α] {w:World} {a:Option Addr} {c:Nat} {el:TypeId} {L:List α} {Δ:List Fact} [h:HasBuf Γ (.slice a L.length c) α ic el L Δ] (ho:Hold w0 F Γ w):(sl a c L).holds (fun _=>True) w:=by
 obtain ⟨a',q,hv,hp⟩:=h.ok
 injection hv with e1 e2 e3
 subst e1 e3
 exact (ho.perm hp).bufSl
theorem JC.pure {c:Code} {φ:Prop} (h:∀ w,Hold w0 F Γ w→φ) (k:φ→JC P n w0 F c Q e Γ):JC P n w0 F c Q e Γ:=fun a w fr ho=>k (h w ho) a w fr ho
theorem JR.pure {o:Oper} {φ:Prop} (h:∀ w,Hold w0 F Γ w→φ) (k:φ→JR P n w0 F ops i o os Q e Γ):JR P n w0 F ops i o os Q e Γ:=fun hd a w fr ho=>k (h w ho) hd a w fr ho
end
section
variable {P:Program} {n:Nn} {w0:World} {F:Nat→Prop} {ops:Array Oper} {i d:Nat} {t:TypeId} {pos:String} {aft:Array Edge} {g:Option (Nat × Bool)} {os:List Oper} {Q:Cont} {e:E} {Γ:List Fact}
theorem Xj1 {α:Type} [Cell α] {a:Option Addr} {c:Nat} {el:TypeId} {L:List α} {w:World} {G:Nat→Prop} (h:(buf a c el L).holds G w) (hL:L≠[]):∃ b,a=some ⟨b,0,none⟩:=by
 obtain ⟨_,q,h1,h2,_⟩:=h
 rcases h2.2 with ⟨hv,hn⟩ | ⟨g,cap,cur,hv,_⟩
 ·exact (hL (List.eq_nil_of_length_eq_zero hn)).elim
 ·injection hv with e1 e2 e3
  exact ⟨g,e1⟩
theorem Xdm [Dr] {x ix:Operand} {b m c k:Nat} {kk:IntKind} {j:Int} {ty el:TypeId} {ed:TypeDesc} {sz by_ es eb:Nat} {z ez:Value} {d:Option Nat}
  [hx:Ev e x (.slice (some ⟨b,0,none⟩) m c)] [hi:Ev e ix (.int kk j)] [hk:NatI j k] [hT:Ty P ty (.slice el) sz by_ z] [hE:Ty P el ed es eb ez] (h:k < m) :
  OpV P n w0 F ⟨d, .indexAddr ty x ix,t,pos,aft,g⟩ e Γ (.pointer (some ⟨b,k * es,none⟩)) :=
 fun a w fr ho=>by
  have e1:=Xav (P:=P) (t:=ty) w
  have e2:=Xbf (P:=P) (t:=el) w
  have hj:=hk.ok
  subst hj
  simp [execOp,hx.ok n a fr,hi.ok n a fr,Instr.indexAt,asIntOf,e1,e2,h,Addr.add_mid]
theorem Xqc [Dr] {α:Type} [ic:Cell α] {x:Operand} {b c k o:Nat} {el:TypeId} {L:List α} {fs:List Field} {sz by_:Nat} {z:Value} {Δ:List Fact}
  [hx:Ev e x (.pointer (some ⟨b,o,none⟩))] [hB:BufAt Γ b c el L Δ] [hT:Ty P el (.struct ⟨fs⟩) sz by_ z] (hd:Nat.blt d n.s=true) (hsz:sz=Cell.sz α) (h:k < L.length) (ho':o=k * sz)
  (K:∀ y,JO P n w0 F ops (i+1) os Q ((d, .agg ⟨Cell.cells (L[k]'h) y⟩)::e) ((Cell.facts (L[k]'h) y).map Fact.st++Γ)) :
  JR P n w0 F ops i ⟨some d, .load el x,t,pos,aft,g⟩ os Q e Γ :=
 JR.value hd fun a w fr ho=>by
  have hp:=ho.perm hB.ok
  obtain ⟨q,cur,h0,h1,h2,hg,hnc,hcm,hcs,htk⟩:=Xg6 (hp.sat (.res (buf (some ⟨b,0,none⟩) c el L)) (by simp))
  have hqL:q.length=L.length:=by rw [← h1]; simp
  have hkq:k < q.length:=by omega
  have hqk:q[k].1=L[k]:=by simp [← h1]
  have hrange:w.rangeAt b o (Cell.cells (L[k]'h) q[k].2):=by
   intro j v hv
   rw [← hqk] at hv
   have:=Xnj q k hkq j v hv
   rw [cell_of_row w b _ cur el _ hg,ho',hsz]
   rw [← htk,List.getElem?_take] at this
   split at this
   ·simpa using this
   ·cases this
  have hload:=Xfj (P:=P) (t:=el) (v:=.agg ⟨Cell.cells (L[k]'h) q[k].2⟩) hrange (by rw [Cell.len,hsz])
  refine ⟨_,w,_,?_,?_,K q[k].2⟩
  ·simp [execOp,hx.ok n a fr,hload]
  ·have key:∀ (As:List Asn),(∀ A∈As,A.holds (fp w0 F Γ) w)→Hold w0 F (As.map Fact.st++Γ) w:=by
    intro As
    induction As with
    | nil=>exact fun _=>ho
    | cons A As ih =>
     intro hA
     refine (ih (fun B hB=>hA B (by simp [hB]))).add (A.mono _ _ _ (fun k hk=>⟨hk.1,Xdc.2 ⟨fun f hf=>?_,hk.2⟩⟩) (hA A (by simp)))
     simp only [List.mem_map] at hf
     obtain ⟨B,_,rfl⟩:=hf
     exact fun h=>h
   refine key _ fun A hA=>?_
   have hA':=h2 q[k] (List.getElem_mem hkq) A (by rw [hqk]; exact hA)
   exact A.mono _ _ _ (fun j hj=>⟨hj.1,fun f hf=>hj.2 f (hB.ok.mem_iff.1 hf)⟩) hA'
theorem Xmj [Dr] {x:Operand} {b c k o:Nat} {el:TypeId} {L:List Commit} {fs:List Field} {by_:Nat} {z:Value} {Δ:List Fact}
  [hx:Ev e x (.pointer (some ⟨b,o,none⟩))] [hB:BufAt Γ b c el L Δ] [hT:Ty P el (.struct ⟨fs⟩) 8 by_ z] (hd:Nat.blt d n.s=true) (h:k < L.length) (ho':o=k * 8)
  (K:∀ p q,JO P n w0 F ops (i+1) os Q ((d, .agg ⟨[.int .i64 (L[k]'h).ev.node, .int .i64 (L[k]'h).ev.seq, .int .i64 (L[k]'h).gen, .slice p (L[k]'h).parents.length q, .int .i64 (L[k]'h).op.kind, .string (L[k]'h).op.key, .string (L[k]'h).op.elem, .int .i64 (L[k]'h).op.n]⟩)::e) (.st (sl p q (L[k]'h).parents)::Γ)) :
  JR P n w0 F ops i ⟨some d, .load el x,t,pos,aft,g⟩ os Q e Γ:=Xqc (α:=Commit) (L:=L) hd rfl h ho' fun (y:Option Addr × Nat)=>K y.1 y.2
end
abbrev w8 (x:UInt8):Value:=.int .u8 (x.toNat:Int)
theorem X89 (n:Nat):IntKind.u8.wrap (n:Int)=((n % 256:Nat):Int):=by simp [IntKind.wrap,IntKind.bits,IntKind.signed]
theorem bv8 (x:UInt8):BitVec.ofInt 8 (x.toNat:Int)=x.toBitVec:=by
 rw [BitVec.ofInt_natCast]; exact BitVec.ofNat_toNat .. |>.trans (by simp)
theorem Yb6 (a b:UInt8):IntKind.u8.wrap ((BitVec.ofInt 8 (a.toNat:Int) &&& BitVec.ofInt 8 (b.toNat:Int)).toNat:Int)=((a &&& b).toNat:Int):=by
 rw [bv8,bv8,X89]
 congr 1
 exact Nat.mod_eq_of_lt (a &&& b).toNat_lt
abbrev w32 (x:UInt32):Value:=.int .u32 (x.toNat:Int)
theorem Xnt (n:Nat):IntKind.u32.wrap (n:Int)=((n % 4294967296:Nat):Int):=by simp [IntKind.wrap,IntKind.bits,IntKind.signed]
theorem bv32 (x:UInt32):BitVec.ofInt 32 (x.toNat:Int)=x.toBitVec:=by
 rw [BitVec.ofInt_natCast]; exact BitVec.ofNat_toNat .. |>.trans (by simp)
def Xtt (a:UInt32) (k:Nat):UInt32:=UInt32.ofNat (a.toNat / 2 ^ k)
def Xqd (a:UInt32) (k:Nat):UInt32:=UInt32.ofNat (a.toNat * 2 ^ k)
theorem Ybe (a b:UInt32):IntKind.u32.wrap ((BitVec.ofInt 32 (a.toNat:Int) ^^^ BitVec.ofInt 32 (b.toNat:Int)).toNat:Int)=((a ^^^ b).toNat:Int):=by
 rw [bv32,bv32,Xnt]
 congr 1
 exact Nat.mod_eq_of_lt (a ^^^ b).toNat_lt
theorem Ybf (a b:UInt32):IntKind.u32.wrap ((BitVec.ofInt 32 (a.toNat:Int) &&& BitVec.ofInt 32 (b.toNat:Int)).toNat:Int)=((a &&& b).toNat:Int):=by
 rw [bv32,bv32,Xnt]
 congr 1
 exact Nat.mod_eq_of_lt (a &&& b).toNat_lt
theorem Yb7 (a b:UInt32):IntKind.u32.wrap ((BitVec.ofInt 32 (a.toNat:Int) ||| BitVec.ofInt 32 (b.toNat:Int)).toNat:Int)=((a ||| b).toNat:Int):=by
 rw [bv32,bv32,Xnt]
 congr 1
 exact Nat.mod_eq_of_lt (a ||| b).toNat_lt
theorem X1x (a b:UInt32):IntKind.u32.wrap ((BitVec.ofInt 32 (a.toNat:Int) &&& ~~~ BitVec.ofInt 32 (b.toNat:Int)).toNat:Int)=((a &&& ~~~ b).toNat:Int):=by
 rw [bv32,bv32,Xnt]
 congr 1
 exact Nat.mod_eq_of_lt (a &&& ~~~ b).toNat_lt
abbrev w64 (x:UInt64):Value:=.int .u64 (x.toNat:Int)
theorem Xd8 (n:Nat):IntKind.u64.wrap (n:Int)=((n % 18446744073709551616:Nat):Int):=by simp [IntKind.wrap,IntKind.bits,IntKind.signed]
theorem bv64 (x:UInt64):BitVec.ofInt 64 (x.toNat:Int)=x.toBitVec:=by
 rw [BitVec.ofInt_natCast]; exact BitVec.ofNat_toNat .. |>.trans (by simp)
def X1y (a:UInt64) (k:Nat):UInt64:=UInt64.ofNat (a.toNat / 2 ^ k)
def Xnu (a:UInt64) (k:Nat):UInt64:=UInt64.ofNat (a.toNat * 2 ^ k)
theorem Yb8 (a b:UInt64):IntKind.u64.wrap ((BitVec.ofInt 64 (a.toNat:Int) ||| BitVec.ofInt 64 (b.toNat:Int)).toNat:Int)=((a ||| b).toNat:Int):=by
 rw [bv64,bv64,Xd8]
 congr 1
 exact Nat.mod_eq_of_lt (a ||| b).toNat_lt
section
variable {P:Program} {n:Nn} {w0:World} {F:Nat→Prop} {d:Option Nat} {t:TypeId} {pos:String} {aft:Array Edge} {g:Option (Nat × Bool)} {e:E} {Γ:List Fact}
 {x y:Operand} {ty yt:TypeId}
theorem Xyc [Dr] {a b:UInt8} [hx:Ev e x (w8 a)] [hy:Ev e y (w8 b)]:OpV P n w0 F ⟨d, .binOp .and ty x y yt,t,pos,aft,g⟩ e Γ (w8 (a &&& b)):=by
 have:=OpV.and (P:=P) (n:=n) (w0:=w0) (F:=F) (d:=d) (t:=t) (pos:=pos) (aft:=aft) (g:=g) (e:=e) (Γ:=Γ) (x:=x) (y:=y) (ty:=ty) (yt:=yt) (kk:=.u8) (p:=a.toNat) (q:=b.toNat)
 exact Eq.mp (congrArg (fun v=>OpV P n w0 F ⟨d, .binOp .and ty x y yt,t,pos,aft,g⟩ e Γ (Value.int .u8 v)) (Yb6 a b)) this
theorem Xar [Dr] {a b:UInt32} [hx:Ev e x (w32 a)] [hy:Ev e y (w32 b)]:OpV P n w0 F ⟨d, .binOp .add ty x y yt,t,pos,aft,g⟩ e Γ (w32 (a+b)):=by
 have:=Xcs (P:=P) (n:=n) (w0:=w0) (F:=F) (d:=d) (t:=t) (pos:=pos) (aft:=aft) (g:=g) (e:=e) (Γ:=Γ) (x:=x) (y:=y) (ty:=ty) (yt:=yt) (kk:=.u32) (p:=a.toNat) (q:=b.toNat)
 rwa [← Int.natCast_add,Xnt,← show (a+b).toNat=(a.toNat+b.toNat) % 4294967296 from UInt32.toNat_add a b] at this
theorem Xbq [Dr] {a b:UInt32} [hx:Ev e x (w32 a)] [hy:Ev e y (w32 b)]:OpV P n w0 F ⟨d, .binOp .xor ty x y yt,t,pos,aft,g⟩ e Γ (w32 (a ^^^ b)):=by
 have:=OpV.xor (P:=P) (n:=n) (w0:=w0) (F:=F) (d:=d) (t:=t) (pos:=pos) (aft:=aft) (g:=g) (e:=e) (Γ:=Γ) (x:=x) (y:=y) (ty:=ty) (yt:=yt) (kk:=.u32) (p:=a.toNat) (q:=b.toNat)
 exact Eq.mp (congrArg (fun v=>OpV P n w0 F ⟨d, .binOp .xor ty x y yt,t,pos,aft,g⟩ e Γ (Value.int .u32 v)) (Ybe a b)) this
theorem Xbr [Dr] {a b:UInt32} [hx:Ev e x (w32 a)] [hy:Ev e y (w32 b)]:OpV P n w0 F ⟨d, .binOp .and ty x y yt,t,pos,aft,g⟩ e Γ (w32 (a &&& b)):=by
 have:=OpV.and (P:=P) (n:=n) (w0:=w0) (F:=F) (d:=d) (t:=t) (pos:=pos) (aft:=aft) (g:=g) (e:=e) (Γ:=Γ) (x:=x) (y:=y) (ty:=ty) (yt:=yt) (kk:=.u32) (p:=a.toNat) (q:=b.toNat)
 exact Eq.mp (congrArg (fun v=>OpV P n w0 F ⟨d, .binOp .and ty x y yt,t,pos,aft,g⟩ e Γ (Value.int .u32 v)) (Ybf a b)) this
theorem Xbu [Dr] {a b:UInt32} [hx:Ev e x (w32 a)] [hy:Ev e y (w32 b)]:OpV P n w0 F ⟨d, .binOp .or ty x y yt,t,pos,aft,g⟩ e Γ (w32 (a ||| b)):=by
 have:=OpV.or (P:=P) (n:=n) (w0:=w0) (F:=F) (d:=d) (t:=t) (pos:=pos) (aft:=aft) (g:=g) (e:=e) (Γ:=Γ) (x:=x) (y:=y) (ty:=ty) (yt:=yt) (kk:=.u32) (p:=a.toNat) (q:=b.toNat)
 exact Eq.mp (congrArg (fun v=>OpV P n w0 F ⟨d, .binOp .or ty x y yt,t,pos,aft,g⟩ e Γ (Value.int .u32 v)) (Yb7 a b)) this
theorem Xat [Dr] {a b:UInt32} [hx:Ev e x (w32 a)] [hy:Ev e y (w32 b)]:OpV P n w0 F ⟨d, .binOp .andNot ty x y yt,t,pos,aft,g⟩ e Γ (w32 (a &&& ~~~ b)):=by
 have:=OpV.andNot (P:=P) (n:=n) (w0:=w0) (F:=F) (d:=d) (t:=t) (pos:=pos) (aft:=aft) (g:=g) (e:=e) (Γ:=Γ) (x:=x) (y:=y) (ty:=ty) (yt:=yt) (kk:=.u32) (p:=a.toNat) (q:=b.toNat)
 exact Eq.mp (congrArg (fun v=>OpV P n w0 F ⟨d, .binOp .andNot ty x y yt,t,pos,aft,g⟩ e Γ (Value.int .u32 v)) (X1x a b)) this
theorem X5x [Dr] {a b:UInt64} [hx:Ev e x (w64 a)] [hy:Ev e y (w64 b)]:OpV P n w0 F ⟨d, .binOp .or ty x y yt,t,pos,aft,g⟩ e Γ (w64 (a ||| b)):=by
 have:=OpV.or (P:=P) (n:=n) (w0:=w0) (F:=F) (d:=d) (t:=t) (pos:=pos) (aft:=aft) (g:=g) (e:=e) (Γ:=Γ) (x:=x) (y:=y) (ty:=ty) (yt:=yt) (kk:=.u64) (p:=a.toNat) (q:=b.toNat)
 exact Eq.mp (congrArg (fun v=>OpV P n w0 F ⟨d, .binOp .or ty x y yt,t,pos,aft,g⟩ e Γ (Value.int .u64 v)) (Yb8 a b)) this
theorem Xnv [Dr] {a:UInt32} {kk:IntKind} {j:Int} {k:Nat} [hx:Ev e x (w32 a)] [hy:Ev e y (.int kk j)] [hk:NatI j k] (h:k≤32):OpV P n w0 F ⟨d, .binOp .shr ty x y yt,t,pos,aft,g⟩ e Γ (w32 (Xtt a k)):=by
 have hj:=hk.ok
 subst hj
 have:=OpV.shr (P:=P) (n:=n) (w0:=w0) (F:=F) (d:=d) (t:=t) (pos:=pos) (aft:=aft) (g:=g) (e:=e) (Γ:=Γ) (x:=x) (y:=y) (ty:=ty) (yt:=yt) (kk:=.u32) (yk:=kk) (p:=a.toNat) (q:=(k:Int)) (by omega)
 refine Eq.mp (congrArg (fun v=>OpV P n w0 F ⟨d, .binOp .shr ty x y yt,t,pos,aft,g⟩ e Γ (Value.int .u32 v)) ?_) this
 have e1:Min.min (Int.toNat (k:Int)) (IntKind.bits .u32)=k:=Nat.min_eq_left h
 have e2:((2:Int) ^ k)=((2 ^ k:Nat):Int):=by simp
 rw [e1,e2,Int.fdiv_eq_ediv_of_nonneg _ (Int.natCast_nonneg _),← Int.natCast_ediv,Xtt,UInt32.toNat_ofNat',Nat.mod_eq_of_lt (Nat.lt_of_le_of_lt (Nat.div_le_self _ _) a.toNat_lt)]
theorem Xj2 [Dr] {a:UInt32} {kk:IntKind} {j:Int} {k:Nat} [hx:Ev e x (w32 a)] [hy:Ev e y (.int kk j)] [hk:NatI j k] (h:k≤32):OpV P n w0 F ⟨d, .binOp .shl ty x y yt,t,pos,aft,g⟩ e Γ (w32 (Xqd a k)):=by
 have hj:=hk.ok
 subst hj
 have:=OpV.shl (P:=P) (n:=n) (w0:=w0) (F:=F) (d:=d) (t:=t) (pos:=pos) (aft:=aft) (g:=g) (e:=e) (Γ:=Γ) (x:=x) (y:=y) (ty:=ty) (yt:=yt) (kk:=.u32) (yk:=kk) (p:=a.toNat) (q:=(k:Int)) (by omega)
 refine Eq.mp (congrArg (fun v=>OpV P n w0 F ⟨d, .binOp .shl ty x y yt,t,pos,aft,g⟩ e Γ (Value.int .u32 v)) ?_) this
 have e1:Min.min (Int.toNat (k:Int)) (IntKind.bits .u32)=k:=Nat.min_eq_left h
 have e2:((2:Int) ^ k)=((2 ^ k:Nat):Int):=by simp
 rw [e1,e2,← Int.natCast_mul,Xnt,Xqd,UInt32.toNat_ofNat']
theorem X1z [Dr] {a:UInt64} {kk:IntKind} {j:Int} {k:Nat} [hx:Ev e x (w64 a)] [hy:Ev e y (.int kk j)] [hk:NatI j k] (h:k≤64):OpV P n w0 F ⟨d, .binOp .shr ty x y yt,t,pos,aft,g⟩ e Γ (w64 (X1y a k)):=by
 have hj:=hk.ok
 subst hj
 have:=OpV.shr (P:=P) (n:=n) (w0:=w0) (F:=F) (d:=d) (t:=t) (pos:=pos) (aft:=aft) (g:=g) (e:=e) (Γ:=Γ) (x:=x) (y:=y) (ty:=ty) (yt:=yt) (kk:=.u64) (yk:=kk) (p:=a.toNat) (q:=(k:Int)) (by omega)
 refine Eq.mp (congrArg (fun v=>OpV P n w0 F ⟨d, .binOp .shr ty x y yt,t,pos,aft,g⟩ e Γ (Value.int .u64 v)) ?_) this
 have e1:Min.min (Int.toNat (k:Int)) (IntKind.bits .u64)=k:=Nat.min_eq_left h
 have e2:((2:Int) ^ k)=((2 ^ k:Nat):Int):=by simp
 rw [e1,e2,Int.fdiv_eq_ediv_of_nonneg _ (Int.natCast_nonneg _),← Int.natCast_ediv,X1y,UInt64.toNat_ofNat',Nat.mod_eq_of_lt (Nat.lt_of_le_of_lt (Nat.div_le_self _ _) a.toNat_lt)]
theorem X10 [Dr] {a:UInt64} {kk:IntKind} {j:Int} {k:Nat} [hx:Ev e x (w64 a)] [hy:Ev e y (.int kk j)] [hk:NatI j k] (h:k≤64):OpV P n w0 F ⟨d, .binOp .shl ty x y yt,t,pos,aft,g⟩ e Γ (w64 (Xnu a k)):=by
 have hj:=hk.ok
 subst hj
 have:=OpV.shl (P:=P) (n:=n) (w0:=w0) (F:=F) (d:=d) (t:=t) (pos:=pos) (aft:=aft) (g:=g) (e:=e) (Γ:=Γ) (x:=x) (y:=y) (ty:=ty) (yt:=yt) (kk:=.u64) (yk:=kk) (p:=a.toNat) (q:=(k:Int)) (by omega)
 refine Eq.mp (congrArg (fun v=>OpV P n w0 F ⟨d, .binOp .shl ty x y yt,t,pos,aft,g⟩ e Γ (Value.int .u64 v)) ?_) this
 have e1:Min.min (Int.toNat (k:Int)) (IntKind.bits .u64)=k:=Nat.min_eq_left h
 have e2:((2:Int) ^ k)=((2 ^ k:Nat):Int):=by simp
 rw [e1,e2,← Int.natCast_mul,Xd8,Xnu,UInt64.toNat_ofNat']
end
abbrev Vec (α:Type) (n:Nat):={ l:List α // l.length=n }
def Vec.set {α:Type} {n:Nat} (v:Vec α n) (k:Nat) (x:α):Vec α n:=⟨v.1.set k x,by rw [List.length_set]; exact v.2⟩
instance {α:Type} {n:Nat} {v:Vec α n} {f:α→Value}:Len (v.1.map f) n:=⟨by simp [v.2]⟩
instance {v:Vec UInt8 4}:One (v.1.map Xak):=⟨fun u hu=>by simp only [List.mem_map] at hu; obtain ⟨b,_,rfl⟩:=hu; rfl⟩
theorem one_bytes {l:List UInt8}:One (l.map Xak):=⟨fun u hu=>by simp only [List.mem_map] at hu; obtain ⟨b,_,rfl⟩:=hu; rfl⟩
theorem X11 {l:List UInt32}:One (l.map w32):=⟨fun u hu=>by simp only [List.mem_map] at hu; obtain ⟨b,_,rfl⟩:=hu; rfl⟩
instance {b:UInt8}:Cel (Xak b) [Xak b]:=⟨rfl⟩
instance {l:List UInt8}:One (l.map Xak):=one_bytes
instance {l:List UInt32}:One (l.map w32):=X11
section
variable {P:Program} {n:Nn} {w0:World} {F:Nat→Prop} {ops:Array Oper} {i d:Nat} {t:TypeId} {pos:String} {aft:Array Edge} {g:Option (Nat × Bool)} {os:List Oper} {Q:Cont} {e:E} {Γ:List Fact}
theorem Xby [Dr] {α:Type} {f:α→Value} {x:Operand} {ty:TypeId} {td:TypeDesc} {sz by_ b o:Nat} {z:Value} {L:List α} {Δ:List Fact} {bt:TypeId} {d:Option Nat} (k:Nat)
  [hx:Ev e x (.pointer (some ⟨b,o,none⟩))] [hO:Own Γ b bt (L.map f) Δ] [hT:Ty P ty td sz by_ z] (h:k < L.length) (ho':o=k) (hsz:sz=1) [hv:Val td [f (L[k]'h)] (f (L[k]'h))] :
  OpV P n w0 F ⟨d, .load ty x,t,pos,aft,g⟩ e Γ (f (L[k]'h)) :=
 fun a w fr ho=>by
  have hw:w.heap[b]? = some (.cells (L.map f).toArray bt (0,0)):=(ho.perm hO.ok).sat (.own b bt (L.map f)) (by simp)
  have hr:w.rangeAt b o [f (L[k]'h)]:=by
   intro j v hj
   cases j with
   | zero =>
    simp only [List.getElem?_cons_zero,Option.some.injEq] at hj
    subst hj
    rw [Nat.add_zero,cell_of_row w b _ _ _ _ hw,ho']
    simp [h]
   | succ j=>simp at hj
  have hload:=Xfj (P:=P) (t:=ty) (v:=f (L[k]'h)) hr (by simp [hsz])
  simp [execOp,hx.ok n a fr,hload]
theorem Xhx [Dr] {α:Type} {f:α→Value} {x y:Operand} {ty:TypeId} {td:TypeDesc} {sz by_ b o:Nat} {z:Value} {L:List α} {Δ:List Fact} {bt:TypeId} (k:Nat) (u:α)
  [hx:Ev e x (.pointer (some ⟨b,o,none⟩))] [hO:Own Γ b bt (L.map f) Δ] [hy:Ev e y (f u)] [hT:Ty P ty td sz by_ z] [hc:Cel (f u) [f u]] [h1:One [f u]] (h:k < L.length) (ho':o=k) (hsz:sz=1)
  (K:JO P n w0 F ops (i+1) os Q e (.own b bt ((L.set k u).map f)::Δ)):JR P n w0 F ops i ⟨none, .store ty x y,t,pos,aft,g⟩ os Q e Γ :=
 Xeq fun a w fr ho=>by
  have hp:=ho.perm hO.ok
  have hw:w.heap[b]? = some (.cells (L.map f).toArray bt (0,0)):=hp.sat (.own b bt (L.map f)) (by simp)
  have hlay:o + [f u].length≤(L.map f).length∧(L.map f).take o++[f u]++(L.map f).drop (o + [f u].length)=(L.set k u).map f:=by
   refine ⟨by simp; omega,?_⟩
   rw [ho',List.map_set,List.set_eq_take_append_cons_drop,if_pos (by simpa using h)]
   simp
  refine ⟨.skip,w.setRow b ((L.set k u).map f).toArray,_, .inl rfl,?_,hp.setRow,K⟩
  simp [execOp,hx.ok n a fr,hy.ok n a fr,Xdv (P:=P) (ty:=ty) (cs:=[f u]) (r:=(L.set k u).map f) hw (by simp [hsz]) hlay]
theorem JC.reown [Dr] {c:Code} {bt:TypeId} {vs:List Value} {Δ:List Fact} (b:Nat) (vs':List Value) [hO:Own Γ b bt vs Δ] (h:vs=vs') (k:JC P n w0 F c Q e (.own b bt vs'::Δ)):JC P n w0 F c Q e Γ :=
 JC.more (fun w ho=>by rw [← h]; exact ho.perm hO.ok) k
end
instance:NatI (2:Int) 2:=⟨rfl⟩
instance:NatI (3:Int) 3:=⟨rfl⟩
instance:NatI (4:Int) 4:=⟨rfl⟩
instance:NatI (5:Int) 5:=⟨rfl⟩
instance:NatI (6:Int) 6:=⟨rfl⟩
instance:NatI (7:Int) 7:=⟨rfl⟩
instance:NatI (8:Int) 8:=⟨rfl⟩
instance:NatI (15:Int) 15:=⟨rfl⟩
instance:NatI (16:Int) 16:=⟨rfl⟩
instance:NatI (32:Int) 32:=⟨rfl⟩
instance:NatI (56:Int) 56:=⟨rfl⟩
instance:NatI (63:Int) 63:=⟨rfl⟩
instance:NatI (64:Int) 64:=⟨rfl⟩
section
variable {P:Program} {n:Nn} {w0:World} {F:Nat→Prop} {ops:Array Oper} {i d:Nat} {t:TypeId} {pos:String} {aft:Array Edge} {g:Option (Nat × Bool)} {os:List Oper} {Q:Cont} {e:E} {Γ:List Fact}
theorem Xwc [Dr] {α:Type} [ic:Cell α] {x lo hi':Operand} {v:Value} {L:List α} {kk k2:IntKind} {j j2:Int} {l k:Nat} {ty el:TypeId} {ed:TypeDesc} {sz by_ es eb:Nat} {z ez:Value}
  [hx:Ev e x v] [hL:HasSl Γ v α ic L] [hi:Ev e lo (.int kk j)] [hk:NatI j l] [hi2:Ev e hi' (.int k2 j2)] [hk2:NatI j2 k] [hT:Ty P ty (.slice el) sz by_ z] [hE:Ty P el ed es eb ez] (hd:Nat.blt d n.s=true) (hes:es=Cell.sz α) (h:l≤k∧k≤L.length)
  (K:∀ a c,JO P n w0 F ops (i+1) os Q ((d, .slice a ((L.drop l).take (k - l)).length c)::e) (.st (sl a c ((L.drop l).take (k - l)))::Γ)):JR P n w0 F ops i ⟨some d, .slice ty x (some lo) (some hi') none,t,pos,aft,g⟩ os Q e Γ :=
 JR.value hd fun a w fr ho=>by
  obtain ⟨a0,c,rfl,hsl⟩:=hL.holds ho
  have hlc:L.length≤c:=hsl.1
  have h1:=Xav (P:=P) (t:=ty) w
  have h2:=Xbf (P:=P) (t:=el) w
  have hj:=hk.ok
  have hj2:=hk2.ok
  subst hj hj2
  have hd1:=Xv6 hsl (show l≤L.length by omega)
  have hd2:=Xgb hd1 (k:=k - l) (c':=c - l) (by rw [List.length_drop]; omega) ⟨by omega,Nat.le_refl _⟩
  have hlen:((L.drop l).take (k - l)).length=k - l:=by rw [List.length_take,List.length_drop]; omega
  refine ⟨_,w,_,?_,ho.addSl hd2,K _ _⟩
  have hb2:(Instr.sliceBound (.int k2 (k:Int)) c .sliceAcap).run P w = .ok k w:=by
   simp [Instr.sliceBound,asIntOf]
   omega
  have hb:(Instr.sliceBound (.int kk (l:Int)) k .sliceB).run P w = .ok l w:=by
   simp [Instr.sliceBound,asIntOf]
   omega
  rw [hlen]
  simp [execOp,hx.ok n a fr,hi.ok n a fr,hi2.ok n a fr,Instr.sliceAt,Instr.slice,h1,h2,Instr.sliceBounds,hb,hb2,hes]
  by_cases hck:c=l
  ·simp [hck]
  ·rw [if_neg hck,if_neg (by omega)]
theorem Xwd [Dr] {x:Operand} {v:Value} {L:List UInt8} {ty el:TypeId} {m sz by_:Nat} {z:Value}
  [hx:Ev e x v] [hL:HasSl Γ v UInt8 iI L] [hT:Ty P ty (.array m el) sz by_ z] (hd:Nat.blt d n.s=true) (h:L.length=m∧0 < m)
  (K:∀ b o,JO P n w0 F ops (i+1) os Q ((d, .pointer (some ⟨b,o,none⟩))::e) (.st (ro b o (L.map Xak))::Γ)):JR P n w0 F ops i ⟨some d, .sliceToArrayPointer ty x,t,pos,aft,g⟩ os Q e Γ :=
 JR.value hd fun a w fr ho=>by
  obtain ⟨a0,c,rfl,hsl⟩:=hL.holds ho
  have h1:=Xav (P:=P) (t:=ty) w
  have hne:L≠[]:=by intro h0; subst h0; simp at h; omega
  obtain ⟨b,off,rfl,hb,hlt,hrow⟩:=hsl.2.2.2 hne
  refine ⟨.pointer (some ⟨b,off,none⟩),w,_,?_,ho.add (A:=ro b off (L.map Xak)) ⟨hb,hlt,?_⟩,K b off⟩
  ·have:¬ L.length < m:=by omega
   simp [execOp,hx.ok n a fr,Instr.arrayAt,h1,this]
  ·intro j u hu
   rw [List.getElem?_map] at hu
   cases hq:L[j]? with
   | none=>rw [hq] at hu; cases hu
   | some q =>
    rw [hq] at hu
    obtain ⟨hjl,hju⟩:=List.getElem?_eq_some_iff.1 hq
    injection hu with hu
    subst hu hju
    exact Xnn hsl j hjl
theorem Xtu {w:World} (t tx ty e:TypeId) (i:TypeInfo) (ht:P.underlying t=some (.slice e)) (hi:P.info? e=some i)
  (g sLen sCap:Nat) (cur:Array Value) (hg:w.heap[g]? = some (.cells cur e (0,0))) (x:Value) (m:Nat) (news:List Value) (hs:Src P i.size tx x m news w)
  (hroom:sLen+m≤sCap) (hfit:sLen * i.size+news.length≤cur.size) :
  (Builtin.append_ #[t,tx] ty #[.slice (some ⟨g,0,none⟩) sLen sCap,x]).run P w =
   .ok (.slice (some ⟨g,0,none⟩) (sLen+m) sCap) (w.setRow g (cur.toList.take (sLen * i.size)++news++cur.toList.drop (sLen * i.size+news.length)).toArray):=by
 have hst:=run_storeCells_at P g (sLen * i.size) e news 0 cur w hg (by simpa using hfit) hs.one
 simp only [Nat.add_zero] at hst
 rcases hs.kind with ⟨e',hk⟩ | hk <;> simp [Builtin.append_,run_underlying ht,run_underlying hk,sizeOf,typeInfo,hi,hs.len,hroom,hs.cells,Addr.add_lit,hst]
end
section
variable {P:Program} {n:Nn} {w0:World} {F:Nat→Prop} {ops:Array Oper} {i d:Nat} {t:TypeId} {pos:String} {aft:Array Edge} {g:Option (Nat × Bool)} {os:List Oper} {Q:Cont} {e:E} {Γ:List Fact} [Dr]
theorem Xnw {α:Type} [Cell α] {w:World} {Δ:List Fact} {a0:Option Addr} {c0:Nat} {el ty tx:TypeId} {L:List α} {ed:TypeDesc} {sz by_ es eb:Nat} {z ez:Value} {ecs:List Value} {x:Value} {m:Nat}
  (ho:Hold w0 F (.res (buf a0 c0 el L)::Δ) w) (r':List (α × Cell.Ix α)) (hm:r'.length=m) (hS:Src P (Cell.sz α) tx x m (flat r') w)
  (hfac:∀ p∈r',∀ A∈Cell.facts p.1 p.2,A.holds (fp w0 F (.res (buf a0 c0 el L)::Δ)) w)
  [hT:Ty P ty (.slice el) sz by_ z] [hE:Ty P el ed es eb ez] [hz:Cel ez ecs] (hes:es=Cell.sz α∧ecs.length=es∧eb≤4096) (hl:L.length+m≤34359738368) :
  ∃ a1 k1 w',(Builtin.append_ #[ty,tx] t #[.slice a0 L.length c0,x]).run P w = .ok (.slice a1 (L++r'.map (·.1)).length k1) w'∧Hold w0 F (.res (buf a1 k1 el (L++r'.map (·.1)))::Δ) w':=by
 obtain ⟨h0,q,hq,hown,hfacts⟩:(buf a0 c0 el L).holds _ w:=ho.sat (.res (buf a0 c0 el L)) (by simp)
 obtain ⟨ti,hti,hti1,hti2,hti3⟩:=hE.some
 have hqL:q.length=L.length:=by rw [← hq]; simp
 have hlen:(L++r'.map (·.1)).length=L.length+m:=by simp [hm]
 have hmap:(q++r').map (·.1)=L++r'.map (·.1):=by simp [hq]
 have hflat:flat (q++r')=flat q++flat r':=Xg2 q r'
 have hfl:(flat r').length=m * ti.size:=by rw [Xbi,hm,hti1,hes.1]
 have hflq:(flat q).length=L.length * ti.size:=by rw [Xbi,hqL,hti1,hes.1]
 have hb48:(L.length+m) * ti.bytes≤140737488355328:=by rw [hti2]; have:=Nat.mul_le_mul hl hes.2.2; omega
 have hzs:ez.cells.size=ti.size:=by rw [Xcb (v:=ez) (cs:=ecs),hti1]; simpa using hes.2.1
 have hsz1:ti.size=Cell.sz α:=by rw [hti1,hes.1]
 have hS:Src P ti.size tx x m (flat r') w:=by rw [hsz1]; exact hS
 have grown:∀ (old:Nat),old < L.length+m →
   Hold w0 F (.res (buf (some ⟨w.heap.size,0,none⟩) (grownCap w (L.length+m) old el) el (L++r'.map (·.1)))::Δ)
    (w.drew.alloc (.cells ((flat q++flat r').toArray++Builtin.zeroCells ez.cells (grownCap w (L.length+m) old el - (L.length+m))) el)):=by
  intro old hold
  have hge:=grownCap_ge w (L.length+m) old el
  have hcm:grownCap w (L.length+m) old el≤maxLen:=grownCap_le_maxLen w (L.length+m) old el (by simp only [maxLen]; omega)
  have hbel:Bel w.heap.size w (w.drew.alloc (.cells ((flat q++flat r').toArray++Builtin.zeroCells ez.cells (grownCap w (L.length+m) old el - (L.length+m))) el)) :=
   ((Bel.refl _ _).drew).alloc (Nat.le_refl _) _
  refine ho.tail.call (B:=[.res (buf (some ⟨w.heap.size,0,none⟩) (grownCap w (L.length+m) old el) el (L++r'.map (·.1)))]) hbel ⟨fun f hf=>?_,by simp,fun f hf k hk=>?_⟩
  ·simp only [List.mem_singleton] at hf; subst hf
   refine ⟨by rw [hlen]; simp only [lim]; omega,q++r',hmap,⟨by rw [Xbi,hlen]; simp [hqL,hm], .inr ⟨w.heap.size,_,_,rfl,Nat.zero_le _,heap_alloc_new w.drew _,by rw [hlen]; exact hge,hcm,?_,?_⟩⟩,fun p hp A hA=>?_⟩
   ·simp only [Array.size_append,List.size_toArray,size_zeroCells,hzs,List.length_append,hfl,hflq,← Nat.add_mul,← hsz1]
    congr 1
    omega
   ·simp only [Array.toList_append,hflat]
    rw [hlen]
    exact List.take_left' (by rw [List.length_append,hfl,hflq,← Nat.add_mul,hsz1])
   ·have hA':A.holds (fp w0 F (.res (buf a0 c0 el L)::Δ)) w:=by
     rcases List.mem_append.1 hp with hp | hp
     ·exact hfacts p hp A hA
     ·exact hfac p hp A hA
    refine Fact.sat_keep (f:=.st A) hA' (fun k hk hlt=>⟨.inl ⟨hk.1,fun f hf=>hk.2 f (by simp [hf])⟩,fun f hf=>?_⟩) (fun k hlt _=>hbel.block k hlt)
    simp only [List.mem_singleton] at hf; subst hf
    rintro ⟨a',ha',rfl⟩
    injection ha' with ha'
    subst ha'
    simp at hlt
  ·simp only [List.mem_singleton] at hf; subst hf
   obtain ⟨a',ha',rfl⟩:=hk
   injection ha' with ha'
   subst ha'
   exact Nat.le_refl _
 rcases hown.2 with ⟨hv,hn⟩ | ⟨gb,cap,cur,hv,_,hg,hnc,hcm,hcs,htake⟩
 ·injection hv with e1 e2 e3
  subst e1 e3
  have hL0:L=[]:=List.eq_nil_of_length_eq_zero hn
  subst hL0
  have hq0:q=[]:=List.eq_nil_of_length_eq_zero (by simpa using hqL)
  subst hq0
  by_cases h0m:m=0
  ·subst h0m
   have hr0:r'=[]:=List.eq_nil_of_length_eq_zero hm
   subst hr0
   refine ⟨none,0,w,?_,ho⟩
   rcases hS.kind with ⟨e',hk⟩ | hk <;> simp [Builtin.append_,run_underlying hT.und,run_underlying hk,sizeOf,typeInfo,hti,hS.len,hS.cells]
  ·have hr:=run_append_grow_src (P:=P) w ty tx t el ti ez hT.und hti hti3 none 0 0 [] (by simp [Builtin.firstCells]) x m (flat r') hS (by omega) (by omega) (growslice_fits (by omega) (by simpa using hb48))
   have hgr:=grown 0 (by simp; omega)
   simp only [Nat.zero_add,List.nil_append] at hr
   refine ⟨some ⟨w.heap.size,0,none⟩,grownCap w m 0 el,w.drew.alloc (.cells ((flat r').toArray++Builtin.zeroCells ez.cells (grownCap w m 0 el - m)) el),?_,?_⟩
   ·rw [show ([]++List.map (fun x=>x.1) r':List α).length=m by simp [hm]]
    exact hr
   ·simpa [flat] using hgr
 ·injection hv with e1 e2 e3
  subst e1 e3
  by_cases hroom:L.length+m≤c0
  ·have hfit:L.length * ti.size+(flat r').length≤cur.size:=by rw [hfl,hcs,← Nat.add_mul,hsz1]; exact Nat.mul_le_mul_right _ hroom
   have hr:=Xtu (P:=P) (w:=w) ty tx t el ti hT.und hti gb L.length c0 cur hg x m (flat r') hS hroom hfit
   refine ⟨some ⟨gb,0,none⟩,c0,_,by rw [hlen]; exact hr,?_⟩
   have howns:∀ (X:List α) k,(buf (some ⟨gb,0,none⟩) c0 el X).owns k↔k=gb:=by
    intro X k
    constructor
    ·rintro ⟨a',ha',rfl⟩; injection ha' with ha'; subst ha'; rfl
    ·rintro rfl; exact ⟨_,rfl,rfl⟩
   have hheap:∀ k,k≠gb→(w.setRow gb (cur.toList.take (L.length * ti.size)++flat r'++cur.toList.drop (L.length * ti.size+(flat r').length)).toArray).heap[k]? = w.heap[k]?:=fun k hk=>by
    simp only [World.setRow,Array.getElem?_modify]; rw [if_neg (by omega)]
   refine ho.swap (b:=gb) (howns L) (howns _) rfl rfl rfl (by simp) hheap ?_
   refine ⟨by rw [hlen]; simp only [lim]; omega,q++r',hmap,⟨by rw [Xbi,hlen]; simp [hqL,hm], .inr ⟨gb,c0,_,rfl,Nat.zero_le _,setRow_heap w gb cur _ el _ hg,by rw [hlen]; exact hroom,hcm,?_,?_⟩⟩,fun p hp A hA=>?_⟩
   ·simp only [List.size_toArray,List.length_append,List.length_take,List.length_drop,Array.length_toList]
    omega
   ·rw [hflat,← htake,hlen,← hsz1]
    simp only []
    refine List.take_left' ?_
    have e9:cur.toList.length=cur.size:=by simp
    rw [List.length_append,List.length_take,hfl,Nat.add_mul]
    omega
   ·have hA':A.holds (fp w0 F (.res (buf (some ⟨gb,0,none⟩) c0 el L)::Δ)) w:=by
     rcases List.mem_append.1 hp with hp | hp
     ·exact hfacts p hp A hA
     ·exact hfac p hp A hA
    refine Fact.sat_keep (f:=.st A) hA' (fun k hk hlt=>⟨hk.1,fun f hf=>?_⟩) (fun k hlt hk=>?_)
    ·rcases List.mem_cons.1 hf with rfl | hf
     ·exact fun h=>hk.2 (.res (buf (some ⟨gb,0,none⟩) c0 el L)) (by simp) ((howns L k).2 ((howns _ k).1 h))
     ·exact hk.2 f (by simp [hf])
    ·have hk':=hk.resolve_right (by simp [Fact.owns])
     exact hheap k (fun e=>hk'.2 (.res (buf (some ⟨gb,0,none⟩) c0 el L)) (by simp) ((howns L k).2 e))
  ·have holds:∀ j u,(flat q)[j]? = some u→w.cell? ((⟨gb,0,none⟩:Addr).add j)=some u:=by
    intro j u hu
    rw [Addr.add_mid,Nat.zero_add,cell_of_row w gb j cur el _ hg]
    rw [← htake,List.getElem?_take] at hu
    split at hu
    ·simpa using hu
    ·cases hu
   have hold:=run_firstCells_some (P:=P) w.drew ti.size L.length ⟨gb,0,none⟩ L.length c0 (flat q) hflq (by simpa using holds)
   have hr:=run_append_grow_src (P:=P) w ty tx t el ti ez hT.und hti hti3 (some ⟨gb,0,none⟩) L.length c0 (flat q) hold x m (flat r') hS (by omega) (by omega) (growslice_fits (by omega) hb48)
   refine ⟨some ⟨w.heap.size,0,none⟩,grownCap w (L.length+m) c0 el,_,?_,grown c0 (by omega)⟩
   rw [hlen]; exact hr
def bytesOf (s:ByteArray):List UInt8:=s.data.toList
end
section
variable {P:Program} {n:Nn} {w0:World} {F:Nat→Prop} {ops:Array Oper} {i d:Nat} {t:TypeId} {pos:String} {aft:Array Edge} {g:Option (Nat × Bool)} {os:List Oper} {Q:Cont} {e:E} {Γ:List Fact}
theorem Xgc (s:ByteArray):(bytesOf s).length=s.size:=by simp [bytesOf]
end
section
variable {P:Program} {n:Nn} {w0:World} {F:Nat→Prop} {ops:Array Oper} {i d:Nat} {t:TypeId} {pos:String} {aft:Array Edge} {g:Option (Nat × Bool)} {os:List Oper} {Q:Cont} {e:E} {Γ:List Fact} [Dr]
def Xez (L:List UInt8):List (UInt8 × Cell.Ix UInt8):=L.map (fun b=>(b,()))
end
section
variable {P:Program} {n:Nn} {w0:World} {F:Nat→Prop} {ops:Array Oper} {i d:Nat} {t:TypeId} {pos:String} {aft:Array Edge} {g:Option (Nat × Bool)} {os:List Oper} {Q:Cont} {e:E} {Γ:List Fact}
theorem Xi5 (L:List UInt8):(Xez L).length=L.length:=by simp [Xez]
theorem Xdn (L:List UInt8):flat (Xez L)=L.map Xak:=by
 induction L with
 | nil=>rfl
 | cons b L ih=>simp only [Xez,List.map_cons,flat] at ih ⊢; rw [ih]; rfl
theorem Xhy (L:List UInt8):(Xez L).map (·.1)=L:=by simp [Xez,Function.comp_def]
theorem Xtv [Dr] {x y:Operand} {v:Value} {s:ByteArray} {L:List UInt8} {el ty tx:TypeId} {ed:TypeDesc} {sz by_ sz2 by2 es eb:Nat} {z z2 ez:Value} {ecs:List Value} {Δ:List Fact}
  [hx:Ev e x v] [hB:HasBuf Γ v UInt8 iI el L Δ] [hy:Ev e y (.string s)] [hT:Ty P ty (.slice el) sz by_ z] [hU:Ty P tx .string sz2 by2 z2] [hE:Ty P el ed es eb ez] [hz:Cel ez ecs]
  (hd:Nat.blt d n.s=true) (hes:es=1∧ecs.length=es∧eb≤4096) (hl:L.length+s.size≤34359738368)
  (K:∀ a c,JO P n w0 F ops (i+1) os Q ((d, .slice a (L++bytesOf s).length c)::e) (.res (buf a c el (L++bytesOf s))::Δ)) :
  JR P n w0 F ops i ⟨some d, .call ⟨.builtin .append,#[x,y],#[ty,tx]⟩,t,pos,aft,g⟩ os Q e Γ :=
 JR.value hd fun a w fr ho=>by
  obtain ⟨a0,c0,rfl,hperm⟩:=hB.ok
  have hsrc:Src P (Cell.sz UInt8) tx (.string s) s.size (flat (Xez (bytesOf s))) w:=by
   rw [Xdn]; exact Src.ofString w hU.und s
  obtain ⟨a1,k1,w',hrun,hw'⟩:=Xnw (P:=P) (t:=t) (ty:=ty) (tx:=tx) (ho.perm hperm) (Xez (bytesOf s)) (by rw [Xi5,Xgc]) hsrc (fun p hp A hA=>by simp [Cell.facts] at hA) hes (by omega)
  rw [Xhy] at hrun hw'
  refine ⟨_,w',_,?_,hw',K a1 k1⟩
  simp [execOp,Xaj,invoke,builtin,hx.ok n a fr,hy.ok n a fr] at hrun ⊢
  simp [hrun]
theorem Xgd [Dr] {α:Type} [ic:Cell α] {x y:Operand} {kk k2:IntKind} {j:Int} {k:Nat} {ty tx el:TypeId} {ed:TypeDesc} {sz by_ sz2 by2 es eb:Nat} {z z2 ez:Value} {ecs:List Value}
  [hx:Ev e x (.slice none 0 0)] [hy:Ev e y (.int kk j)] [hk:NatI j k] [hT:Ty P ty (.slice el) sz by_ z] [hU:Ty P tx (.int k2) sz2 by2 z2] [hE:Ty P el ed es eb ez] [hz:Cel ez ecs]
  (hd:Nat.blt d n.s=true) (hes:es=Cell.sz α∧ecs.length=es∧eb≤4096) (hl:0 < k∧k≤34359738368)
  (K:∀ b c,k≤c→JO P n w0 F ops (i+1) os Q ((d, .slice (some ⟨b,0,none⟩) k c)::e) (.res (buf (α:=α) (some ⟨b,0,none⟩) c el [])::Γ)) :
  JR P n w0 F ops i ⟨some d, .call ⟨.builtin .append,#[x,y],#[ty,tx]⟩,t,pos,aft,g⟩ os Q e Γ :=
 JR.value hd fun a w fr ho=>by
  obtain ⟨ti,hti,hti1,hti2,hti3⟩:=hE.some
  have hj:=hk.ok
  subst hj
  have hb48:k * ti.bytes≤281474976710656:=by rw [hti2]; have:=Nat.mul_le_mul hl.2 hes.2.2; omega
  have hr:=Lib.run_append_nil_zeros (P:=P) w ty tx t el ti ez kk k2 hT.und hU.und hti hti3 k hl.1 (by rw [hti1,hes.1]; exact Cell.pos) (by omega) hb48
  have hge:=grownCap_ge w k 0 el
  have hcm:grownCap w k 0 el≤maxLen:=grownCap_le_maxLen w k 0 el (by simp only [maxLen]; omega)
  have hzs:ez.cells.size=ti.size:=by rw [Xcb (v:=ez) (cs:=ecs),hti1]; simpa using hes.2.1
  have hsz1:ti.size=Cell.sz α:=by rw [hti1,hes.1]
  refine ⟨_,w.drew.alloc (.cells (Builtin.zeroCells ez.cells k++Builtin.zeroCells ez.cells (grownCap w k 0 el - k)) el),_,?_,?_,K w.heap.size (grownCap w k 0 el) hge⟩
  ·simp [execOp,Xaj,invoke,builtin,hx.ok n a fr,hy.ok n a fr] at hr ⊢
   simp [hr]
  ·have hd':Hold w0 F Γ w.drew:=ho.drew
   refine hd'.push (f:=.res (buf (α:=α) (some ⟨w.heap.size,0,none⟩) (grownCap w k 0 el) el [])) (o:=.cells (Builtin.zeroCells ez.cells k++Builtin.zeroCells ez.cells (grownCap w k 0 el - k)) el) (fun k'=>⟨?_,?_⟩) (fun F' w' hw=>?_)
   ·rintro ⟨a',ha',rfl⟩; injection ha' with ha'; subst ha'; rfl
   ·rintro rfl; exact ⟨_,rfl,rfl⟩
   ·refine ⟨by simp [lim],[],rfl,⟨by simp [flat], .inr ⟨w.heap.size,_,_,rfl,Nat.zero_le _,hw,Nat.zero_le _,hcm,?_,by simp [flat]⟩⟩,by simp⟩
    simp only [Array.size_append,size_zeroCells,hzs,← Nat.add_mul,← hsz1]
    congr 1
    omega
theorem X12 (c:Nat):(madeCells (Value.cells (Xak 0)) (c * 1))=((List.replicate c (0:UInt8)).map Xak).toArray:=by
 apply Array.ext
 ·simp [size_madeCells]
 ·intro i h1 h2
  simp [madeCells,Value.cells,Xak,Nat.mod_one]
theorem Xtw [Dr] {x y:Operand} {kk k2:IntKind} {j j2:Int} {l c:Nat} {ty el:TypeId} {ed:TypeDesc} {sz by_:Nat} {z:Value}
  [hx:Ev e x (.int kk j)] [hk:NatI j l] [hy:Ev e y (.int k2 j2)] [hk2:NatI j2 c] [hT:Ty P ty (.slice el) sz by_ z] [hE:Ty P el ed 1 1 (Xak 0)]
  (hd:Nat.blt d n.s=true) (hl:l≤c∧c≤34359738368)
  (K:∀ b,JO P n w0 F ops (i+1) os Q ((d, .slice (some ⟨b,0,none⟩) (List.replicate l (0:UInt8)).length c)::e) (.res (buf (some ⟨b,0,none⟩) c el (List.replicate l (0:UInt8)))::Γ)) :
  JR P n w0 F ops i ⟨some d, .makeSlice ty x y,t,pos,aft,g⟩ os Q e Γ :=
 JR.value hd fun a w fr ho=>by
  obtain ⟨ti,hti,hti1,hti2,hti3⟩:=hE.some
  have hj:=hk.ok
  have hj2:=hk2.ok
  subst hj hj2
  have hr:=run_make (P:=P) w ty el ti (Xak 0) hT.und hti hti3 kk k2 (l:Int) (c:Int) (by omega) (by omega) (by rw [hti2]; omega) (by omega)
  simp only [Int.toNat_natCast,hti1,X12] at hr
  refine ⟨_,w.alloc (.cells ((List.replicate c (0:UInt8)).map Xak).toArray el),_,?_,?_,K w.heap.size⟩
  ·simp [execOp,hx.ok n a fr,hy.ok n a fr,hr]
  ·refine ho.push (f:=.res (buf (some ⟨w.heap.size,0,none⟩) c el (List.replicate l (0:UInt8)))) (o:=.cells ((List.replicate c (0:UInt8)).map Xak).toArray el) (fun k'=>⟨?_,?_⟩) (fun F' w' hw=>?_)
   ·rintro ⟨a',ha',rfl⟩; injection ha' with ha'; subst ha'; rfl
   ·rintro rfl; exact ⟨_,rfl,rfl⟩
   ·refine ⟨by simp [lim]; omega,Xez (List.replicate l (0:UInt8)),Xhy _,⟨by rw [Xdn]; simp [Cell.sz], .inr ⟨w.heap.size,_,_,rfl,Nat.zero_le _,hw,by simp; omega,by simp [maxLen]; omega,by simp [Cell.sz],?_⟩⟩,fun p hp A hA=>by simp [Cell.facts] at hA⟩
    rw [Xdn]
    simp [Cell.sz,List.take_replicate]
    omega
theorem Xhq [Dr] {x lo:Operand} {ty el:TypeId} {b o m l sz by_ es eb:Nat} {z ez:Value} {ed:TypeDesc} {kk:IntKind} {j:Int} [hx:Ev e x (.pointer (some ⟨b,o,none⟩))] [hi:Ev e lo (.int kk j)] [hk:NatI j l]
  [hT:Ty P ty (.array m el) sz by_ z] [hE:Ty P el ed es eb ez] (hm:l < m) (hes:es=1):OpV P n w0 F ⟨d, .slice ty x (some lo) none none,t,pos,aft,g⟩ e Γ (.slice (some ⟨b,o+l,none⟩) (m - l) (m - l)) :=
 fun a w fr _=>by
  have h1:=Xav (P:=P) (t:=ty) w
  have h2:=Xbf (P:=P) (t:=el) w
  have hj:=hk.ok
  subst hj hes
  have h3:(Instr.sliceBound (.int kk (l:Int)) m .sliceB).run P w = .ok l w:=by
   simp [Instr.sliceBound,asIntOf]
   omega
  have h4:¬ m=l:=by omega
  simp [execOp,hx.ok n a fr,hi.ok n a fr,Instr.sliceAt,h1,h2,Instr.sureAddr,Instr.sliceBounds,h3,h4,Addr.add_mid]
theorem Xi6 [Dr] {x hi':Operand} {ty el:TypeId} {b o m k sz by_ es eb:Nat} {z ez:Value} {ed:TypeDesc} {kk:IntKind} {j:Int} [hx:Ev e x (.pointer (some ⟨b,o,none⟩))] [hi:Ev e hi' (.int kk j)] [hk:NatI j k]
  [hT:Ty P ty (.array m el) sz by_ z] [hE:Ty P el ed es eb ez] (hm:k≤m):OpV P n w0 F ⟨d, .slice ty x none (some hi') none,t,pos,aft,g⟩ e Γ (.slice (some ⟨b,o,none⟩) k m) :=
 fun a w fr _=>by
  have h1:=Xav (P:=P) (t:=ty) w
  have h2:=Xbf (P:=P) (t:=el) w
  have hj:=hk.ok
  subst hj
  have h3:(Instr.sliceBound (.int kk (k:Int)) m .sliceAlen).run P w = .ok k w:=by
   simp [Instr.sliceBound,asIntOf]
   omega
  simp [execOp,hx.ok n a fr,hi.ok n a fr,Instr.sliceAt,h1,h2,Instr.sureAddr,Instr.sliceBounds,h3,Addr.add]
theorem Xtx [Dr] {x y:Operand} {b o dl dc b2 o2 sl_ sc:Nat} {vs us cs:List Value} {bt ty ty2 el:TypeId} {ed:TypeDesc} {sz by_ eb p:Nat} {z ez:Value} {Δ:List Fact} {a:Act} {w:World} {d:Option Nat}
  [hx:Ev e x (.slice (some ⟨b,o,none⟩) dl dc)] [hO:Own Γ b bt vs Δ] [hy:Ev e y (.slice (some ⟨b2,o2,none⟩) sl_ sc)] [hA:At Γ b2 p us] [hT:Ty P ty (.slice el) sz by_ z] [hE:Ty P el ed 1 eb ez]
  (hcs:(us.drop (o2 - p)).take (Nat.min sl_ dl)=cs) (hp:p≤o2) (hlen:cs.length=Nat.min sl_ dl) (hfit:o+cs.length≤vs.length) (h1:One cs) (fr:Fr n e a) (ho:Hold w0 F Γ w) :
  (execOp a.eval ⟨d, .call ⟨.builtin .copy,#[x,y],#[ty,ty2]⟩,t,pos,aft,g⟩).run P w = .ok (.value (goInt cs.length)) (w.setRow b (vs.take o++cs++vs.drop (o+cs.length)).toArray)∧Hold w0 F (.own b bt (vs.take o++cs++vs.drop (o+cs.length))::Δ) (w.setRow b (vs.take o++cs++vs.drop (o+cs.length)).toArray):=by
 have hpm:=ho.perm hO.ok
 have hw:w.heap[b]? = some (.cells vs.toArray bt (0,0)):=hpm.sat (.own b bt vs) (by simp)
 have hr:=Xct (hA.ok w0 F w ho) hcs
 rw [show p+(o2 - p)=o2 by omega] at hr
 obtain ⟨ti,hti,hti1,_,_⟩:=hE.some
 have hrun:=run_copy_row (P:=P) w ty ty2 t el b o dl dc ⟨b2,o2,none⟩ sl_ sc vs.toArray bt cs hT.und (by rw [hti]; simp [hti1]) hw hlen (fun j v hv=>by rw [Addr.add_mid]; exact hr j v hv) (by simpa using hfit) h1.ok
 refine ⟨?_,hpm.setRow⟩
 simp [execOp,Xaj,invoke,builtin,hx.ok n a fr,hy.ok n a fr] at hrun ⊢
 simp [hrun]
theorem Xqe [Dr] {x y:Operand} {b o dl dc b2 o2 sl_ sc:Nat} {vs us cs:List Value} {bt ty ty2 el:TypeId} {ed:TypeDesc} {sz by_ eb p:Nat} {z ez:Value} {Δ:List Fact}
  [hx:Ev e x (.slice (some ⟨b,o,none⟩) dl dc)] [hO:Own Γ b bt vs Δ] [hy:Ev e y (.slice (some ⟨b2,o2,none⟩) sl_ sc)] [hA:At Γ b2 p us] [hT:Ty P ty (.slice el) sz by_ z] [hE:Ty P el ed 1 eb ez]
  (hd:Nat.blt d n.s=true) (hcs:(us.drop (o2 - p)).take (Nat.min sl_ dl)=cs) (hp:p≤o2) (hlen:cs.length=Nat.min sl_ dl) (hfit:o+cs.length≤vs.length) (h1:One cs)
  (K:JO P n w0 F ops (i+1) os Q ((d,goInt cs.length)::e) (.own b bt (vs.take o++cs++vs.drop (o+cs.length))::Δ)) :
  JR P n w0 F ops i ⟨some d, .call ⟨.builtin .copy,#[x,y],#[ty,ty2]⟩,t,pos,aft,g⟩ os Q e Γ :=
 JR.value hd fun a w fr ho=>by
  obtain ⟨hr,hh⟩:=Xtx (P:=P) (x:=x) (y:=y) (b:=b) (o:=o) (b2:=b2) (o2:=o2) (us:=us) (t:=t) (pos:=pos) (aft:=aft) (g:=g) (hT:=hT) (hE:=hE) (ty2:=ty2) (d:=some d) hcs hp hlen hfit h1 fr ho
  exact ⟨_,_,_,hr,hh,K⟩
theorem JM.reslot [Dr] {ops:List Oper} {m fuel:Nat} {done:List Bool} (s:Nat) {v:Value} (u:Value) [hs:Lk e s v] (h:v=u) (k:JM P n w0 F ops m fuel done Q ((s,u)::e) Γ):JM P n w0 F ops m fuel done Q e Γ :=
 fun a w fr ho=>k a w (fr.again (by rw [← h]; exact hs.ok)) ho
theorem JQ.reslot [Dr] {ops os:List Oper} {K:E→Prop} (s:Nat) {v:Value} (u:Value) [hs:Lk e s v] (h:v=u) (k:JQ P n w0 F ops os K ((s,u)::e) Γ):JQ P n w0 F ops os K e Γ :=
 fun a fr=>k a (fr.again (by rw [← h]; exact hs.ok))
theorem JO.reown [Dr] {bt:TypeId} {vs:List Value} {Δ:List Fact} (b:Nat) (vs':List Value) [hO:Own Γ b bt vs Δ] (h:vs=vs') (k:JO P n w0 F ops i os Q e (.own b bt vs'::Δ)):JO P n w0 F ops i os Q e Γ :=
 JO.more (fun w ho=>by rw [← h]; exact ho.perm hO.ok) k
theorem Xzn [Dr] {x y:Operand} {v u:Value} {L M:List UInt8} {el ty ty2:TypeId} {ed:TypeDesc} {sz by_ eb:Nat} {z ez:Value} {Δ:List Fact}
  [hx:Ev e x v] [hB:HasBuf Γ v UInt8 iI el L Δ] [hy:Ev e y u] [hS:HasSl Γ u UInt8 iI M] [hT:Ty P ty (.slice el) sz by_ z] [hE:Ty P el ed 1 eb ez]
  (hd:Nat.blt d n.s=true) (hl:L.length=M.length)
  (K:∀ a c,v = .slice a M.length c→JO P n w0 F ops (i+1) os Q ((d, .int .i64 (M.length:Int))::e) (.res (buf a c el M)::Δ)) :
  JR P n w0 F ops i ⟨some d, .call ⟨.builtin .copy,#[x,y],#[ty,ty2]⟩,t,pos,aft,g⟩ os Q e Γ :=
 JR.value hd fun a w fr ho=>by
  obtain ⟨a0,c0,rfl,hperm⟩:=hB.ok
  obtain ⟨a1,c1,rfl,hsl⟩:=hS.holds ho
  obtain ⟨ti,hti,hti1,_,_⟩:=hE.some
  have hsz:(P.info? el).map (·.size)=some 1:=by rw [hti]; simp [hti1]
  have hp:=ho.perm hperm
  obtain ⟨h0,q,hq,hown,_⟩:(buf a0 c0 el L).holds _ w:=hp.sat (.res (buf a0 c0 el L)) (by simp)
  by_cases hM:M=[]
  ·subst hM
   have hL:L=[]:=List.eq_nil_of_length_eq_zero (by simpa using hl)
   subst hL
   have hrun:=run_copy_none (P:=P) w ty ty2 t el a0 a1 0 c0 0 c1 hT.und hsz rfl
   refine ⟨_,w,_,?_,hp,K a0 c0 rfl⟩
   simp [execOp,Xaj,invoke,builtin,hx.ok n a fr,hy.ok n a fr] at hrun ⊢
   simp [hrun]
   rfl
  ·have hsl':=X1r hsl hperm
   obtain ⟨b1,o1,rfl,hF,hlt,hrow⟩:=hsl'.2.2.2 hM
   rcases hown.2 with ⟨hv,hn⟩ | ⟨gb,cap,cur,hv,_,hg,hnc,hcm,hcs,htake⟩
   ·exact (hM (List.eq_nil_of_length_eq_zero (by omega))).elim
   ·injection hv with e1 e2 e3
    subst e1 e3
    have hsrc:∀ j v,(M.map Xak)[j]? = some v→w.cell? ((⟨b1,o1,none⟩:Addr).add j)=some v:=by
     intro j v hv
     rw [List.getElem?_map] at hv
     cases hq':M[j]? with
     | none=>rw [hq'] at hv; cases hv
     | some q' =>
      rw [hq'] at hv
      obtain ⟨hjl,hju⟩:=List.getElem?_eq_some_iff.1 hq'
      injection hv with hv
      subst hv hju
      rw [Addr.add_mid]
      exact Xnn hsl' j hjl
    have hone:∀ v∈M.map Xak,v.oneCell'=true:=one_bytes.ok
    have hcur:cur.size=c0:=by simpa [Cell.sz] using hcs
    have hrun:=run_copy_row (P:=P) w ty ty2 t el gb 0 L.length c0 ⟨b1,o1,none⟩ M.length c1 cur el (M.map Xak) hT.und hsz hg (by simp [hl]) hsrc (by simp; omega) hone
    refine ⟨.int .i64 (M.length:Int),w.setRow gb ((M.map Xak)++cur.toList.drop M.length).toArray,_,?_,?_,K (some ⟨gb,0,none⟩) c0 (by rw [hl])⟩
    ·simp [execOp,Xaj,invoke,builtin,hx.ok n a fr,hy.ok n a fr] at hrun ⊢
     simp [hrun,goInt]
    ·have howns:∀ (X:List UInt8) k,(buf (some ⟨gb,0,none⟩) c0 el X).owns k↔k=gb:=by
      intro X k
      constructor
      ·rintro ⟨a',ha',rfl⟩; injection ha' with ha'; subst ha'; rfl
      ·rintro rfl; exact ⟨_,rfl,rfl⟩
     refine hp.swap (b:=gb) (howns L) (howns M) rfl rfl rfl (by simp) (fun k hk=>by simp only [World.setRow,Array.getElem?_modify]; rw [if_neg (by omega)]) ?_
     refine ⟨by rw [← hl]; exact h0,Xez M,Xhy _,⟨by rw [Xdn]; simp [Cell.sz], .inr ⟨gb,c0,_,rfl,Nat.zero_le _,setRow_heap w gb cur _ el _ hg,by omega,hcm,?_,?_⟩⟩,fun p hp A hA=>by simp [Cell.facts] at hA⟩
     ·simp [Cell.sz]; omega
     ·rw [Xdn]
      simp [Cell.sz]
end
abbrev MkY:=Option Addr × Nat
structure Mk where
 i:Nat
 d:Nat
 o:Oper
 v:MkY→Value
 B:MkY→List Fact
def Xa5:List Bool→Nat→List Nat→List Bool
 | [],_,_=>[]
 | b::r,k,T=>(b || T.contains k)::Xa5 r (k+1) T
theorem Xty (i:Nat) (T:List Nat):∀ (done:List Bool) (k:Nat),(Xa5 done k T).set i true=Xa5 done k ((k+i)::T):=by
 have key:∀ (done:List Bool) (k i:Nat),i < k→Xa5 done k (i::T)=Xa5 done k T:=by
  intro done
  induction done with
  | nil=>intro k i _; rfl
  | cons b r ih =>
   intro k i h
   simp only [Xa5,ih (k+1) i (by omega),List.contains_cons]
   congr 2
   rw [show (k == i)=false by simp; omega]
   simp
 intro done
 induction done generalizing i with
 | nil=>intro k; rfl
 | cons b r ih =>
  intro k
  cases i with
  | zero=>simp [Xa5,key r (k+1) k (by omega)]
  | succ i =>
   simp only [Xa5,List.set_cons_succ,ih i (k+1),List.contains_cons]
   rw [show (k == k+(i+1))=false by simp,show k+1+i=k+(i+1) by omega]
   simp
theorem Xem {T T':List Nat} (h:∀ k,k∈T↔k∈T'):∀ (done:List Bool) (k:Nat),Xa5 done k T=Xa5 done k T'
 | [],_=>rfl
 | b::r,k=>by
  simp only [Xa5,Xem h r (k+1)]
  congr 2
  rw [Bool.eq_iff_iff,List.contains_iff_mem,List.contains_iff_mem]
  exact h k
theorem Xl1:∀ (done:List Bool) (k:Nat),Xa5 done k []=done
 | [],_=>rfl
 | b::r,k=>by simp [Xa5,Xl1 r (k+1)]
def subs:List Nat→List (List Nat)
 | []=>[[]]
 | a::l=>subs l++(subs l).map (a::·)
theorem Xnx (p:Nat→Bool):∀ l:List Nat,l.filter p∈subs l
 | []=>by simp [subs]
 | a::l=>by
  have ih:=Xnx p l
  simp only [subs,List.filter_cons,List.mem_append,List.mem_map]
  split
  ·exact .inr ⟨_,ih,rfl⟩
  ·exact .inl ih
theorem X8c {d i:Nat} (h:d≠i):Nat.beq d i=false:=by
 rw [← Bool.not_eq_true]
 exact fun e=>h (Nat.eq_of_beq_eq_true e)
def Xje (ops:List Oper) (done:List Bool) (m s:Nat) (is:List Nat):Bool :=
 is.all (fun i=>Nat.blt i m) && decide is.Nodup && ((subs is).all fun T=>(is.filter (fun i=>!T.contains i) == [s]) || ((is.filter (fun i=>!T.contains i)).isEmpty || (Region.ready .any ⟨ops⟩ ⟨Xa5 done 0 T⟩) == is.filter (fun i=>!T.contains i)))
def Xny (e:E) (n:Nat):List Nat→Bool
 | []=>true
 | d::r=>(look e d).isNone && Nat.blt d n && !r.contains d && Xny e n r
def Xfk (S:List (Mk × MkY)):E:=S.map (fun p=>(p.1.d,p.1.v p.2))
def Xge (S:List (Mk × MkY)):List Fact:=S.flatMap (fun p=>p.1.B p.2)
theorem Xwe {S e:E} {i:Nat} {u:Value} (h:look (S++e) i=some u):(i,u)∈S∨look e i=some u:=by
 induction S with
 | nil=>exact .inr h
 | cons p S ih =>
  obtain ⟨d,v⟩:=p
  simp only [List.cons_append,look] at h
  cases hb:Nat.beq d i with
  | true =>
   rw [hb] at h
   simp only [cond_true,Option.some.injEq] at h
   have:=Nat.eq_of_beq_eq_true hb
   subst this h
   exact .inl (by simp)
  | false =>
   rw [hb] at h
   rcases ih h with h | h
   ·exact .inl (by simp [h])
   ·exact .inr h
theorem Xwf {S e:E} (hn:(S.map (·.1)).Nodup) {i:Nat} {u:Value} (h:(i,u)∈S):look (S++e) i=some u:=by
 induction S with
 | nil=>cases h
 | cons p S ih =>
  obtain ⟨d,v⟩:=p
  simp only [List.map_cons,List.nodup_cons] at hn
  simp only [List.cons_append,look]
  rcases List.mem_cons.1 h with h | h
  ·injection h with h1 h2
   subst h1 h2
   simp
  ·have:Nat.beq d i=false:=X8c (fun e=>hn.1 (by subst e; exact List.mem_map.2 ⟨_,h,rfl⟩))
   rw [this]
   exact ih hn.2 h
theorem Xqf {S e:E} {i:Nat} {u:Value} (hS:∀ p∈S,look e p.1=none) (h:look e i=some u):look (S++e) i=some u:=by
 induction S with
 | nil=>exact h
 | cons p S ih =>
  obtain ⟨d,v⟩:=p
  simp only [List.cons_append,look]
  have:Nat.beq d i=false:=X8c (fun e'=>by subst e'; have:=hS (d,v) (by simp); rw [h] at this; cases this)
  rw [this]
  exact ih (fun p hp=>hS p (by simp [hp]))
theorem Fr.rest {n:Nn} {S e:E} {a:Act} (h:Fr n (S++e) a) (hS:∀ p∈S,look e p.1=none):Fr n e a :=
 ⟨h.defers,h.size,fun i u hu=>h.slot i u (Xqf hS hu)⟩
theorem Fr.swapS {n:Nn} {S S' e:E} {a:Act} (h:Fr n (S++e) a) (hS:∀ p∈S,look e p.1=none) (hn:(S.map (·.1)).Nodup) (hp:S.Perm S'):Fr n (S'++e) a :=
 ⟨h.defers,h.size,fun i u hu=>by
  rcases Xwe hu with hu | hu
  ·exact h.slot i u (Xwf hn (hp.mem_iff.2 hu))
  ·exact h.slot i u (Xqf hS hu)⟩
theorem Xtz {α β:Type} {f:α→β} {l l':List β} (h:l.Perm l'):∀ (S:List α),S.map f=l→∃ S',S.Perm S'∧S'.map f=l':=by
 induction h with
 | nil=>intro S hS; exact ⟨S, .refl _,hS⟩
 | cons x _ ih =>
  intro S hS
  cases S with
  | nil=>cases hS
  | cons s S =>
   simp only [List.map_cons,List.cons.injEq] at hS
   obtain ⟨S',h1,h2⟩:=ih S hS.2
   exact ⟨s::S',h1.cons s,by simp [hS.1,h2]⟩
 | swap x y l =>
  intro S hS
  match S,hS with
  | s::s'::S,hS =>
   simp only [List.map_cons,List.cons.injEq] at hS
   exact ⟨s'::s::S,List.Perm.swap _ _ _,by simp [hS]⟩
 | trans _ _ ih1 ih2 =>
  intro S hS
  obtain ⟨S',h1,h2⟩:=ih1 S hS
  obtain ⟨S2,h3,h4⟩:=ih2 S' h2
  exact ⟨S2,h1.trans h3,h4⟩
theorem Xl2 {S S':List (Mk × MkY)} (h:S.Perm S'):(Xge S).Perm (Xge S'):=by
 induction h with
 | nil=>exact .refl _
 | cons x _ ih=>exact List.Perm.append_left _ ih
 | swap x y l =>
  simp only [Xge,List.flatMap_cons,← List.append_assoc]
  exact List.Perm.append_right _ List.perm_append_comm
 | trans _ _ ih1 ih2=>exact ih1.trans ih2
section
variable {P:Program} {n:Nn} {w0:World} {F:Nat→Prop} {ops:List Oper} {m fuel i d:Nat} {done done':List Bool} {t:TypeId} {pos:String} {aft:Array Edge} {g:Option (Nat × Bool)} {Q:Cont} {e:E} {Γ:List Fact} [Dr]
def Mk.ok (P:Program) (n:Nn) (w0:World) (F:Nat→Prop) (ops:List Oper) (e:E) (Γ:List Fact) (k:Mk):Prop :=
 ops[k.i]? = some k.o∧k.o.guard=none∧k.o.dst=some k.d ∧
  ∀ X a w,Fr n e a→Hold w0 F (X++Γ) w→k.o.wp P a w (fun a' w'=>Bel w.heap.size w w'∧∃ y,a'=a.put (some k.d) (k.v y)∧Fresh w.heap.size (fp w0 F (X++Γ)) (k.B y) w') Xtm
end
section
variable {P:Program} {n:Nn} {w0:World} {F:Nat→Prop} {ops:List Oper} {m fuel i d:Nat} {done done':List Bool} {t:TypeId} {pos:String} {aft:Array Edge} {g:Option (Nat × Bool)} {Q:Cont} {e:E} {Γ:List Fact}
theorem Xt0 {ds:List Nat} (h:Xny e n.s ds=true):ds.Nodup∧∀ d∈ds,look e d=none∧Nat.blt d n.s=true:=by
 induction ds with
 | nil=>exact ⟨List.nodup_nil,by simp⟩
 | cons d r ih =>
  simp only [Xny,Bool.and_eq_true,Bool.not_eq_true'] at h
  obtain ⟨⟨⟨h1,h2⟩,h3⟩,h4⟩:=h
  obtain ⟨h5,h6⟩:=ih h4
  refine ⟨List.nodup_cons.2 ⟨by simpa using h3,h5⟩,fun d' hd'=>?_⟩
  rcases List.mem_cons.1 hd' with rfl | hd'
  ·exact ⟨by simpa using h1,h2⟩
  ·exact h6 d' hd'
end
section
variable {P:Program} {n:Nn} {w0:World} {F:Nat→Prop} {ops:List Oper} {m fuel i d:Nat} {done done':List Bool} {t:TypeId} {pos:String} {aft:Array Edge} {g:Option (Nat × Bool)} {Q:Cont} {e:E} {Γ:List Fact} [Dr]
theorem Xt1 (s:Mk) (ms1:List Mk) (hms:∀ k∈s::ms1,k.ok P n w0 F ops e Γ) (hord:Xje ops done m s.i ((s::ms1).map (·.i))=true) (hsl:Xny e n.s ((s::ms1).map (·.d))=true)
  (K:∀ S:List (Mk × MkY),S.map (·.1)=s::ms1→JM P n w0 F ops m fuel (Xa5 done 0 ((s::ms1).map (·.i))) Q (Xfk S++e) (Xge S++Γ))
  (K2:∀ S:List (Mk × MkY),S.map (·.1)=ms1→JM P n w0 F ops m (fuel+1) (Xa5 done 0 (ms1.map (·.i))) Q (Xfk S++e) (Xge S++Γ)) :
  JM P n w0 F ops m (fuel+(ms1.length+1)) done Q e Γ:=by
 obtain ⟨ms,hmsdef⟩:∃ ms,ms=s::ms1:=⟨_,rfl⟩
 rw [← hmsdef] at hms hord hsl K
 obtain ⟨hnd,hfr⟩:=Xt0 hsl
 simp only [Xje,Bool.and_eq_true,List.all_eq_true] at hord
 obtain ⟨⟨hm,hnodup⟩,hord⟩:=hord
 have hnodup:(ms.map (·.i)).Nodup:=of_decide_eq_true hnodup
 have core:∀ (rem:List Mk) (S:List (Mk × MkY)),(S.map (·.1)++rem).Perm ms →
   JM P n w0 F ops m (fuel+rem.length) (Xa5 done 0 (S.map (·.1.i))) Q (Xfk S++e) (Xge S++Γ):=by
  intro rem
  induction hk:rem.length generalizing rem with
  | zero =>
   intro S hp
   have hr:rem=[]:=List.eq_nil_of_length_eq_zero hk
   subst hr
   rw [List.append_nil] at hp
   obtain ⟨S',h1,h2⟩:=Xtz hp S rfl
   have hdone:Xa5 done 0 (S.map (·.1.i))=Xa5 done 0 (ms.map (·.i)):=Xem (fun k=>by
    have h3:(S.map (·.1.i)).Perm (ms.map (·.i)):=by
     have:=hp.map (·.i)
     simpa [Function.comp_def] using this
    exact h3.mem_iff) _ _
   rw [hdone]
   have hK:=K S' h2
   intro a w fr ho
   have hd1:((Xfk S).map (·.1)).Perm (ms.map (·.d)):=by
    have:=hp.map (·.d)
    simpa [Xfk,Function.comp_def] using this
   refine hK a w (fr.swapS (fun p hp'=>?_) (hd1.nodup_iff.2 hnd) (h1.map _)) (ho.perm ((Xl2 h1).append_right Γ))
   exact (hfr p.1 (hd1.mem_iff.1 (List.mem_map_of_mem hp'))).1
  | succ r ih =>
   intro S hp
   by_cases hlast:rem.map (·.i)=[s.i]
   ·obtain ⟨q,hq,hqi⟩:∃ q,rem=[q]∧q.i=s.i:=by
     cases rem with
     | nil=>cases hlast
     | cons q rem =>
      simp only [List.map_cons,List.cons.injEq,List.map_eq_nil_iff] at hlast
      exact ⟨q,by rw [hlast.2],hlast.1⟩
    subst hq
    have hqs:q=s:=by
     have h1:q∈ms:=hp.mem_iff.1 (by simp)
     rw [hmsdef] at h1
     rcases List.mem_cons.1 h1 with h1 | h1
     ·exact h1
     ·rw [hmsdef] at hnodup
      simp only [List.map_cons,List.nodup_cons] at hnodup
      exact (hnodup.1 (by rw [← hqi]; exact List.mem_map_of_mem h1)).elim
    subst hqs
    have hp1:(S.map (·.1)).Perm ms1:=by
     rw [hmsdef] at hp
     exact List.Perm.cons_inv ((List.perm_append_comm (l₁:=[q])).trans hp)
    obtain ⟨S',h1,h2⟩:=Xtz hp1 S rfl
    have hr:r=0:=by simpa using hk.symm
    subst hr
    have hdone:Xa5 done 0 (S.map (·.1.i))=Xa5 done 0 (ms1.map (·.i)):=Xem (fun k=>by
     have h3:(S.map (·.1.i)).Perm (ms1.map (·.i)):=by
      have:=hp1.map (·.i)
      simpa [Function.comp_def] using this
     exact h3.mem_iff) _ _
    rw [hdone]
    have hK:=K2 S' h2
    intro a w fr ho
    have hd1:((Xfk S).map (·.1)).Perm (ms1.map (·.d)):=by
     have:=hp1.map (·.d)
     simpa [Xfk,Function.comp_def] using this
    have hnd1:(ms1.map (·.d)).Nodup:=by
     rw [hmsdef] at hnd
     exact (List.nodup_cons.1 hnd).2
    refine hK a w (fr.swapS (fun p hp'=>?_) (hd1.nodup_iff.2 hnd1) (h1.map _)) (ho.perm ((Xl2 h1).append_right Γ))
    refine (hfr p.1 ?_).1
    rw [hmsdef]
    exact List.mem_cons_of_mem _ (hd1.mem_iff.1 (List.mem_map_of_mem hp'))
   rw [show fuel+(r+1)=(fuel+r)+1 by omega]
   have hmem:∀ k,k∈S.map (·.1)++rem→k∈ms:=fun k hk=>hp.mem_iff.1 hk
   have hT:Xa5 done 0 (S.map (·.1.i))=Xa5 done 0 ((ms.map (·.i)).filter (fun i=>(S.map (·.1.i)).contains i)):=Xem (fun k=>by
    simp only [List.mem_filter,List.contains_iff_mem]
    refine ⟨fun h=>⟨?_,h⟩,fun h=>h.2⟩
    obtain ⟨p,hp',rfl⟩:=List.mem_map.1 h
    exact List.mem_map_of_mem (hmem p.1 (List.mem_append_left _ (List.mem_map_of_mem hp')))) _ _
   have hready:=hord _ (Xnx (fun i=>(S.map (·.1.i)).contains i) (ms.map (·.i)))
   have hperm:(S.map (·.1.i)++rem.map (·.i)).Perm (ms.map (·.i)):=by
    have:=hp.map (·.i)
    simpa [Function.comp_def] using this
   have hnot:∀ k∈rem,k.i∉S.map (·.1.i):=fun k hk hS =>
    (List.nodup_append.1 (hperm.nodup_iff.2 hnodup)).2.2 _ hS _ (List.mem_map_of_mem hk) rfl
   have hmemr:∀ i,i∈(ms.map (·.i)).filter (fun i=>!((ms.map (·.i)).filter (fun i=>(S.map (·.1.i)).contains i)).contains i)↔∃ k∈rem,k.i=i:=by
    intro i
    simp only [List.mem_filter,Bool.not_eq_true',List.contains_eq_mem,decide_eq_false_iff_not,decide_eq_true_eq]
    constructor
    ·rintro ⟨h1,h2⟩
     obtain ⟨k,hk,rfl⟩:=List.mem_map.1 h1
     rcases List.mem_append.1 (hp.mem_iff.2 hk) with h | h
     ·obtain ⟨p,hp',rfl⟩:=List.mem_map.1 h
      exact (h2 ⟨h1,List.mem_map_of_mem (f:=fun p=>p.1.i) hp'⟩).elim
     ·exact ⟨k,h,rfl⟩
    ·rintro ⟨k,hk,rfl⟩
     exact ⟨List.mem_map_of_mem (hmem k (List.mem_append_right _ hk)),fun h=>hnot k hk h.2⟩
   have hready:Region.ready .any ⟨ops⟩ ⟨Xa5 done 0 (S.map (·.1.i))⟩=(ms.map (·.i)).filter (fun i=>!((ms.map (·.i)).filter (fun i=>(S.map (·.1.i)).contains i)).contains i):=by
    rw [hT]
    rw [Bool.or_eq_true] at hready
    rcases hready with h | h
    ·exfalso
     have h:=eq_of_beq h
     refine hlast ?_
     have hn2:(rem.map (·.i)).Nodup:=(List.nodup_append.1 (hperm.nodup_iff.2 hnodup)).2.1
     have h5:∀ i,i∈rem.map (·.i)↔i=s.i:=fun i=>by
      have:=hmemr i
      rw [h] at this
      simp only [List.mem_singleton] at this
      rw [this,List.mem_map]
     revert hn2 h5
     generalize rem.map (·.i)=lr
     intro hn2 h5
     cases lr with
     | nil=>exact absurd ((h5 s.i).2 rfl) (by simp)
     | cons x lr =>
      cases lr with
      | nil=>rw [(h5 x).1 (by simp)]
      | cons y l =>
       have e1:=(h5 x).1 (by simp)
       have e2:=(h5 y).1 (by simp)
       rw [e1,e2] at hn2
       simp at hn2
    rw [Bool.or_eq_true] at h
    rcases h with h | h
    ·exfalso
     have h1:=(hmemr _).2 ⟨rem.head (by intro h0; rw [h0] at hk; cases hk),List.head_mem _,rfl⟩
     rw [List.isEmpty_iff.1 h] at h1
     cases h1
    ·exact eq_of_beq h
   refine JM.all hready ?_ fun i hi=>?_
   ·cases rem with
    | nil=>cases hk
    | cons k rem =>
     rw [← Bool.not_eq_true]
     intro hemp
     have h1:=(hmemr k.i).2 ⟨k,by simp,rfl⟩
     rw [List.isEmpty_iff.1 hemp] at h1
     cases h1
   ·obtain ⟨k,hkr,rfl⟩:=(hmemr i).1 hi
    have hkm:=hmem k (List.mem_append_right _ hkr)
    obtain ⟨h1,h2,h3,h4⟩:=hms k hkm
    refine ⟨Nat.blt_eq.mp (hm _ (List.mem_map_of_mem hkm)),k.o,h1,by rw [h2]; rfl,fun a w fr ho=>?_⟩
    obtain ⟨s,t,rfl⟩:=List.append_of_mem hkr
    have hSfr:∀ p∈Xfk S,look e p.1=none:=by
     intro p hp'
     obtain ⟨q,hq,rfl⟩:=List.mem_map.1 hp'
     exact (hfr q.1.d (List.mem_map_of_mem (hmem q.1 (List.mem_append_left _ (List.mem_map_of_mem hq))))).1
    refine Oper.wp_mono (fun a' w' h=>⟨h.1,?_⟩) (h4 (Xge S) a w (fr.rest hSfr) ho)
    obtain ⟨y,rfl,hfresh⟩:=h.2
    refine ⟨(k.d,k.v y)::(Xfk S++e),k.B y++(Xge S++Γ),?_,fr.put (hfr k.d (List.mem_map_of_mem hkm)).2 _,ho.call h.1 hfresh⟩
    have hih:=ih (s++t) (by simp at hk ⊢; omega) ((k,y)::S) (by
     refine List.Perm.trans ?_ hp
     simp only [List.map_cons,List.cons_append]
     rw [← List.append_assoc,← List.append_assoc]
     exact List.perm_middle.symm)
    have hd:(Xa5 done 0 (S.map (·.1.i))).set k.i true=Xa5 done 0 (((k,y)::S).map (·.1.i)):=by
     rw [Xty,Nat.zero_add]; rfl
    rw [hd]
    simpa [Xfk,Xge] using hih
 have hc:=core ms [] (by simp)
 rw [hmsdef] at hc
 simpa [Xl1,Xfk,Xge] using hc
def Mk.val (i d:Nat) (o:Oper) (v:Value):Mk:=⟨i,d,o,fun _=>v,fun _=>[]⟩
theorem Mk.val_ok {i d:Nat} {op:Op} {v:Value} (hi:ops[i]? = some ⟨some d,op,t,pos,aft,none⟩) (h:OpV P n w0 F ⟨some d,op,t,pos,aft,none⟩ e Γ v):(Mk.val i d ⟨some d,op,t,pos,aft,none⟩ v).ok P n w0 F ops e Γ :=
 ⟨hi,rfl,rfl,fun X a w fr ho=>by
  show Oper.wp P ⟨some d,op,t,pos,aft,none⟩ a w _ _
  unfold Oper.wp
  rw [h a w fr ((ho.perm List.perm_append_comm).left)]
  exact ⟨Bel.refl _ _,(none,0),rfl,by simp [Mk.val],by simp [Mk.val],by simp [Mk.val]⟩⟩
def Mk.alloc (i d:Nat) (ty t:TypeId) (pos:String) (aft:Array Edge) (cs:List Value):Mk :=
 ⟨i,d,⟨some d, .alloc ty,t,pos,aft,none⟩,fun y=>.pointer (some ⟨y.2,0,none⟩),fun y=>[.own y.2 ty cs]⟩
theorem Mk.alloc_ok {i d:Nat} {ty t:TypeId} {pos:String} {aft:Array Edge} {cs:List Value} {td:TypeDesc} {sz by_:Nat} {z:Value} [hT:Ty P ty td sz by_ z] [hc:Cel z cs]
  (hi:ops[i]? = some ⟨some d, .alloc ty,t,pos,aft,none⟩):(Mk.alloc i d ty t pos aft cs).ok P n w0 F ops e Γ :=
 ⟨hi,rfl,rfl,fun X a w fr ho=>by
  have hrun:(execOp a.eval ⟨some d, .alloc ty,t,pos,aft,none⟩).run P w = .ok (.value (.pointer (some ⟨w.heap.size,0,none⟩))) (w.alloc (.cells cs.toArray ty (0,0))):=by
   simp only [execOp,Instr.alloc,Sem.run_bind,Xio (P:=P) (t:=ty) w,Result.andThen_ok,newVar,newRow,Xcb (v:=z) (cs:=cs),run_newObj,Sem.run_pure]
   rfl
  show Oper.wp P ⟨some d, .alloc ty,t,pos,aft,none⟩ a w _ _
  unfold Oper.wp
  rw [hrun]
  refine ⟨(Bel.refl _ _).alloc (Nat.le_refl _) _,(none,w.heap.size),rfl,?_⟩
  refine ⟨fun f hf=>?_,by simp [Mk.alloc],fun f hf k hk=>?_⟩
  ·simp only [Mk.alloc,List.mem_singleton] at hf; subst hf
   show (w.heap.push _)[w.heap.size]? = _
   simp
  ·simp only [Mk.alloc,List.mem_singleton] at hf; subst hf
   have:k=w.heap.size:=hk
   omega⟩
end
section
variable {P:Program} {n:Nn} {w0:World} {F:Nat→Prop} {ops:List Oper} {m fuel i d:Nat} {done done':List Bool} {t:TypeId} {pos:String} {aft:Array Edge} {g:Option (Nat × Bool)} {Q:Cont} {e:E} {Γ:List Fact}
theorem Xg7 {S:List (Mk × MkY)} {k:Mk} {r:List Mk} (h:S.map (·.1)=k::r):∃ y S',S=(k,y)::S'∧S'.map (·.1)=r:=by
 cases S with
 | nil=>cases h
 | cons p S =>
  obtain ⟨k',y⟩:=p
  simp only [List.map_cons,List.cons.injEq] at h
  obtain ⟨rfl,h⟩:=h
  exact ⟨y,S,rfl,h⟩
theorem X13 {S:List (Mk × MkY)} (h:S.map (·.1)=[]):S=[]:=by simpa using h
theorem Xt2 [Dr] {op:Op} {v:Value} {i0 i1 i2 i3 d0 d1 d2 d3:Nat} {y1 y2 y3 t1 t2 t3:TypeId} {p1 p2 p3:String} {f1 f2 f3:Array Edge} {c1 c2 c3:List Value} {td1 td2 td3:TypeDesc} {s1 s2 s3 b1 b2 b3:Nat} {z1 z2 z3:Value} {done2:List Bool}
  (hi0:ops[i0]? = some ⟨some d0,op,t,pos,aft,none⟩) (h0:OpV P n w0 F ⟨some d0,op,t,pos,aft,none⟩ e Γ v)
  (hi1:ops[i1]? = some ⟨some d1, .alloc y1,t1,p1,f1,none⟩) (hi2:ops[i2]? = some ⟨some d2, .alloc y2,t2,p2,f2,none⟩) (hi3:ops[i3]? = some ⟨some d3, .alloc y3,t3,p3,f3,none⟩)
  [hT1:Ty P y1 td1 s1 b1 z1] [hc1:Cel z1 c1] [hT2:Ty P y2 td2 s2 b2 z2] [hc2:Cel z2 c2] [hT3:Ty P y3 td3 s3 b3 z3] [hc3:Cel z3 c3]
  (hord:Xje ops done m i0 [i0,i1,i2,i3]=true) (hsl:Xny e n.s [d0,d1,d2,d3]=true) (hd:Xa5 done 0 [i0,i1,i2,i3]=done') (hd2:Xa5 done 0 [i1,i2,i3]=done2)
  (K:∀ q1 q2 q3,JM P n w0 F ops m fuel done' Q ((d0,v)::(d1, .pointer (some ⟨q1,0,none⟩))::(d2, .pointer (some ⟨q2,0,none⟩))::(d3, .pointer (some ⟨q3,0,none⟩))::e) (.own q1 y1 c1::.own q2 y2 c2::.own q3 y3 c3::Γ))
  (K2:∀ q1 q2 q3,JM P n w0 F ops m (fuel+1) done2 Q ((d1, .pointer (some ⟨q1,0,none⟩))::(d2, .pointer (some ⟨q2,0,none⟩))::(d3, .pointer (some ⟨q3,0,none⟩))::e) (.own q1 y1 c1::.own q2 y2 c2::.own q3 y3 c3::Γ)) :
  JM P n w0 F ops m (fuel+1+1+1+1) done Q e Γ:=by
 have key:=Xt1 (P:=P) (n:=n) (w0:=w0) (F:=F) (ops:=ops) (m:=m) (fuel:=fuel) (done:=done) (Q:=Q) (e:=e) (Γ:=Γ) (Mk.val i0 d0 ⟨some d0,op,t,pos,aft,none⟩ v) [Mk.alloc i1 d1 y1 t1 p1 f1 c1,Mk.alloc i2 d2 y2 t2 p2 f2 c2,Mk.alloc i3 d3 y3 t3 p3 f3 c3]
 simp only [List.map_cons,List.map_nil,Mk.alloc,Mk.val,List.length_cons,List.length_nil,Nat.zero_add] at key
 refine key ?_ hord hsl ?_ ?_
 ·intro k hk
  simp only [List.mem_cons,List.not_mem_nil,or_false] at hk
  rcases hk with rfl | rfl | rfl | rfl
  ·exact Mk.val_ok hi0 h0
  ·exact Mk.alloc_ok hi1
  ·exact Mk.alloc_ok hi2
  ·exact Mk.alloc_ok hi3
 ·intro S hS
  obtain ⟨q0,S0,rfl,hS0⟩:=Xg7 hS
  obtain ⟨q1,S1,rfl,hS1⟩:=Xg7 hS0
  obtain ⟨q2,S2,rfl,hS2⟩:=Xg7 hS1
  obtain ⟨q3,S3,rfl,hS3⟩:=Xg7 hS2
  obtain rfl:=X13 hS3
  rw [hd]
  exact K q1.2 q2.2 q3.2
 ·intro S hS
  obtain ⟨q1,S1,rfl,hS1⟩:=Xg7 hS
  obtain ⟨q2,S2,rfl,hS2⟩:=Xg7 hS1
  obtain ⟨q3,S3,rfl,hS3⟩:=Xg7 hS2
  obtain rfl:=X13 hS3
  rw [hd2]
  exact K2 q1.2 q2.2 q3.2
end
section
variable {P:Program} {n:Nn} {w0:World} {F:Nat→Prop} {ops:Array Oper} {i d:Nat} {t:TypeId} {pos:String} {aft:Array Edge} {g:Option (Nat × Bool)} {os:List Oper} {Q:Cont} {e:E} {Γ:List Fact}
theorem Xnz [Dr] {x y:Operand} {v:Value} {L M:List UInt8} {el ty:TypeId} {ed:TypeDesc} {sz by_ es eb b o p m c1:Nat} {z ez:Value} {ecs us:List Value} {Δ:List Fact} {a:Act} {w:World} {d:Option Nat}
  [hx:Ev e x v] [hB:HasBuf Γ v UInt8 iI el L Δ] [hy:Ev e y (.slice (some ⟨b,o,none⟩) m c1)] [hA:At Γ b p us] [hT:Ty P ty (.slice el) sz by_ z] [hE:Ty P el ed es eb ez] [hz:Cel ez ecs]
  (hus:us=M.map Xak) (ho':o=p) (hm:M.length=m) (hes:es=1∧ecs.length=es∧eb≤4096) (hl:L.length+m≤34359738368) (fr:Fr n e a) (ho:Hold w0 F Γ w) :
  ∃ a2 k2 w',(execOp a.eval ⟨d, .call ⟨.builtin .append,#[x,y],#[ty,ty]⟩,t,pos,aft,g⟩).run P w = .ok (.value (.slice a2 (L++M).length k2)) w'∧Hold w0 F (.res (buf a2 k2 el (L++M))::Δ) w':=by
 obtain ⟨a0,c0,rfl,hperm⟩:=hB.ok
 have hr:=hA.ok w0 F w ho
 subst hus ho'
 obtain ⟨a2,k2,w',e1,e2⟩:=Xg3 (P:=P) (t:=t) (ty:=ty) (ad:=⟨b,o,none⟩) (m:=m) (c1:=c1) (ho.perm hperm) (Xez M) (fun j u hu=>by rw [Addr.add_mid]; rw [Xdn] at hu; exact hr j u hu)
  (Xrh _) (by rw [Xi5,hm]) (fun p hp A hA=>by simp [Cell.facts] at hA) hes hl
 rw [Xhy] at e1 e2
 refine ⟨a2,k2,w',?_,e2⟩
 simp [execOp,Xaj,invoke,builtin,hx.ok n a fr,hy.ok n a fr] at e1 ⊢
 simp [e1]
theorem Xen [Dr] {x y:Operand} {v:Value} {L M:List UInt8} {el ty:TypeId} {ed:TypeDesc} {sz by_ es eb b o p m c1:Nat} {z ez:Value} {ecs us:List Value} {Δ:List Fact}
  [hx:Ev e x v] [hB:HasBuf Γ v UInt8 iI el L Δ] [hy:Ev e y (.slice (some ⟨b,o,none⟩) m c1)] [hA:At Γ b p us] [hT:Ty P ty (.slice el) sz by_ z] [hE:Ty P el ed es eb ez] [hz:Cel ez ecs]
  (hd:Nat.blt d n.s=true) (hus:us=M.map Xak) (ho':o=p) (hm:M.length=m) (hes:es=1∧ecs.length=es∧eb≤4096) (hl:L.length+m≤34359738368)
  (K:∀ a c,JO P n w0 F ops (i+1) os Q ((d, .slice a (L++M).length c)::e) (.res (buf a c el (L++M))::Δ)) :
  JR P n w0 F ops i ⟨some d, .call ⟨.builtin .append,#[x,y],#[ty,ty]⟩,t,pos,aft,g⟩ os Q e Γ :=
 JR.value hd fun a w fr ho=>by
  obtain ⟨a2,k2,w',hr,hh⟩:=Xnz (P:=P) (x:=x) (y:=y) (b:=b) (o:=o) (us:=us) (t:=t) (pos:=pos) (aft:=aft) (g:=g) (hT:=hT) (hE:=hE) (hz:=hz) (d:=some d) hus ho' hm hes hl fr ho
  exact ⟨_,_,_,hr,hh,K a2 k2⟩
theorem OpV.cap [Dr] {x:Operand} {ty el:TypeId} {a0:Option Addr} {m c sz by_:Nat} {z:Value} {d:Option Nat} [hx:Ev e x (.slice a0 m c)] [hT:Ty P ty (.slice el) sz by_ z] :
  OpV P n w0 F ⟨d, .call ⟨.builtin .cap,#[x],#[ty]⟩,t,pos,aft,g⟩ e Γ (.int .i64 (c:Int)) :=
 fun a w fr _=>by
  have h1:=Xav (P:=P) (t:=ty) w
  simp [execOp,Xaj,invoke,builtin,Builtin.cap_,hx.ok n a fr,h1,goInt]
theorem Xa7 [Dr] {K:Type} [DecidableEq K] {kv:K→Value} {x y:Operand} {ty kt el:TypeId} {ed:TypeDesc} {sz by_ b s2 b2:Nat} {zz z v:Value} {M:List (K × Value)} (k:K) {d:Option Nat}
  [hT:Ty P ty (.map kt el) sz by_ zz] [hE:Ty P el ed s2 b2 z] [hK:MKey P kt kv] [hx:Ev e x (.map (some b))] [hy:Ev e y (kv k)] [hM:RdM Γ b (ents kv M) M.length]
  (hnd:(M.map (·.1)).Nodup) (h1:(Xbl M k).getD z=v):OpV P n w0 F ⟨d, .lookup ty x y false,t,pos,aft,g⟩ e Γ v:=by
 have:=Xjd (P:=P) (n:=n) (w0:=w0) (F:=F) (t:=t) (pos:=pos) (aft:=aft) (g:=g) (e:=e) (Γ:=Γ) (x:=x) (y:=y) (ty:=ty) (M:=M) (k:=k) (c:=false) (d:=d) hnd
 rw [h1] at this
 exact this
theorem Xk2 [Dr] {x:Operand} {ty f:Nat} {u v:Value} {d:Option Nat} [hx:Ev e x u] (hv:∀ w,(Instr.field ty u f).run P w = .ok v w):OpV P n w0 F ⟨d, .field ty x f,t,pos,aft,g⟩ e Γ v :=
 fun a w fr _=>by simp [execOp,hx.ok n a fr,hv]
end
section
variable {P:Program} {n:Nn} {w0:World} {F:Nat→Prop} {ops:Array Oper} {i d:Nat} {t:TypeId} {pos:String} {aft:Array Edge} {g:Option (Nat × Bool)} {os:List Oper} {Q:Cont} {e:E} {Γ:List Fact} [Dr]
def Xgm (a0:Option Addr) (c l s:Nat):Option Addr:=if c - l=0∧c=l then a0 else a0.map (·.add (l * s))
theorem Xeo {x lo:Operand} {a0:Option Addr} {m c l s:Nat} {kk:IntKind} {j:Int} {ty el:TypeId} {ed:TypeDesc} {sz by_ es eb:Nat} {z ez:Value} {d:Option Nat}
  [hx:Ev e x (.slice a0 m c)] [hi:Ev e lo (.int kk j)] [hk:NatI j l] [hT:Ty P ty (.slice el) sz by_ z] [hE:Ty P el ed es eb ez] (hes:es=s) (h:∀ w,Hold w0 F Γ w→l≤m∧m≤c) :
  OpV P n w0 F ⟨d, .slice ty x (some lo) none none,t,pos,aft,g⟩ e Γ (.slice (Xgm a0 c l s) (m - l) (c - l)) :=
 fun a w fr ho=>by
  have hlc:=h w ho
  have h1:=Xav (P:=P) (t:=ty) w
  have h2:=Xbf (P:=P) (t:=el) w
  have hj:=hk.ok
  subst hj hes
  have hb:(Instr.sliceBound (.int kk (l:Int)) m .sliceB).run P w = .ok l w:=by
   simp [Instr.sliceBound,asIntOf]
   omega
  simp [execOp,hx.ok n a fr,hi.ok n a fr,Instr.sliceAt,Instr.slice,h1,h2,Instr.sliceBounds,hb,Xgm]
  by_cases hck:c=l
  ·simp [hck]
  ·rw [if_neg hck,if_neg (by omega)]
end
section
variable {P:Program} {n:Nn} {w0:World} {F:Nat→Prop} {ops:Array Oper} {i d:Nat} {t:TypeId} {pos:String} {aft:Array Edge} {g:Option (Nat × Bool)} {os:List Oper} {Q:Cont} {e:E} {Γ:List Fact}
theorem Xrq {α:Type} [ic:Cell α] {G:Nat→Prop} {w:World} {a:Option Addr} {c:Nat} {L:List α} (h:(sl a c L).holds G w) {k:Nat} (hk:k≤L.length):(sl (Xgm a c k (Cell.sz α)) (c - k) (L.drop k)).holds G w:=Xv6 h hk
end
section
variable {P:Program} {n:Nn} {w0:World} {F:Nat→Prop} {ops:List Oper} {m fuel i d:Nat} {done done':List Bool} {t:TypeId} {pos:String} {aft:Array Edge} {g:Option (Nat × Bool)} {Q:Cont} {e:E} {Γ:List Fact}
theorem JM.both [Dr] {o o':Oper} (i j:Nat) (hr:Region.ready .any ⟨ops⟩ ⟨done⟩=[i,j]) (him:Nat.ble m i=true) (hjm:Nat.ble m j=true) (hi:ops[i]? = some o) (hj:ops[j]? = some o') (hg:Xb7 ops e o.guard=some true) (hg':Xb7 ops e o'.guard=some true)
  (h:JR P n w0 F ⟨[o]⟩ 0 o [] (fun x e' Γ'=>x = .normal∧JM P n w0 F ops m fuel (done.set i true) Q e' Γ') e Γ)
  (h':JR P n w0 F ⟨[o']⟩ 0 o' [] (fun x e' Γ'=>x = .normal∧JM P n w0 F ops m fuel (done.set j true) Q e' Γ') e Γ):JM P n w0 F ops m (fuel+1) done Q e Γ:=by
 intro a w fr ho
 refine ⟨fun h0=>?_,fun k hk=>?_⟩
 ·rw [h0] at hr; cases hr
 ·rw [hr] at hk
  simp only [List.mem_cons,List.not_mem_nil,or_false] at hk
  rcases hk with rfl | rfl
  ·rw [if_neg (by have:=Nat.le_of_ble_eq_true him; omega)]
   exact Xx9 k hi hg h a w fr ho
  ·rw [if_neg (by have:=Nat.le_of_ble_eq_true hjm; omega)]
   exact Xx9 k hj hg' h' a w fr ho
end
class Suf (Γ Δ:List Fact):Prop where
 ok:∃ R,Γ.Perm (Δ++R)
instance (priority:=1000) Suf.hit {Γ:List Fact}:Suf Γ Γ:=⟨[],by simp⟩
instance (priority:=100) Suf.miss {Γ Δ:List Fact} {g:Fact} [h:Suf Γ Δ]:Suf (g::Γ) Δ :=
 ⟨let ⟨R,hR⟩:=h.ok; ⟨g::R,(hR.cons g).trans (List.perm_middle.symm)⟩⟩
instance (priority:=10) Sub.suf {Γ Δ:List Fact} [h:Suf Γ Δ]:Sub Γ Δ:=⟨h.ok⟩
abbrev natV (k:Nat):Value:=.int .i64 (k:Int)
instance {k:Nat}:Cel (natV k) [natV k]:=⟨rfl⟩
section
variable {P:Program} {n:Nn} {w0:World} {F:Nat→Prop} {ops:Array Oper} {i d:Nat} {t:TypeId} {pos:String} {aft:Array Edge} {g:Option (Nat × Bool)} {os:List Oper} {Q:Cont} {e:E} {Γ:List Fact}
theorem X5y (c:Nat):(madeCells (Value.cells (.int .i64 0)) (c * 1))=((List.replicate c 0).map natV).toArray:=by
 apply Array.ext
 ·simp [size_madeCells]
 ·intro i h1 h2
  simp [madeCells,Value.cells,Nat.mod_one]
theorem Xwg [Dr] {x y:Operand} {kk k2:IntKind} {j j2:Int} {l l2:Nat} {ty el:TypeId} {ed:TypeDesc} {sz by_:Nat} {z:Value}
  [hx:Ev e x (.int kk j)] [hk:NatI j l] [hy:Ev e y (.int k2 j2)] [hk2:NatI j2 l2] [hT:Ty P ty (.slice el) sz by_ z] [hE:Ty P el ed 1 8 (.int .i64 0)]
  (hd:Nat.blt d n.s=true) (he:l=l2) (hl:l≤1073741824)
  (K:∀ b,JO P n w0 F ops (i+1) os Q ((d, .slice (some ⟨b,0,none⟩) l l)::e) (.own b el ((List.replicate l 0).map natV)::Γ)) :
  JR P n w0 F ops i ⟨some d, .makeSlice ty x y,t,pos,aft,g⟩ os Q e Γ :=
 JR.value hd fun a w fr ho=>by
  subst he
  obtain ⟨ti,hti,hti1,hti2,hti3⟩:=hE.some
  have hj:=hk.ok
  have hj2:=hk2.ok
  subst hj hj2
  have hr:=run_make (P:=P) w ty el ti (.int .i64 0) hT.und hti hti3 kk k2 (l:Int) (l:Int) (by omega) (by omega) (by rw [hti2]; omega) (by omega)
  simp only [Int.toNat_natCast,hti1,X5y] at hr
  refine ⟨_,w.alloc (.cells ((List.replicate l 0).map natV).toArray el),_,?_,ho.alloc el ((List.replicate l 0).map natV),K w.heap.size⟩
  simp [execOp,hx.ok n a fr,hy.ok n a fr,hr]
end
section
variable {P:Program} {ops:Array Oper} {C:World→Prop} {R X:Exit→Act→World→Prop}
def pOp (P:Program) (ops:Array Oper) (X:Exit→Act→World→Prop) (Rel:World→World→Prop) (i:Nat) (K:Act→World→Prop) (a:Act) (w:World):Prop :=
 match ops[i]? with
 | none=>K a w
 | some o=>if Region.wanted o (yielded ops a.tmps) then o.wp P a w (fun a' w'=>Rel w w'∧K a' w') X else K (a.put o.dst undef) w
theorem Xrr {o:Oper} {a:Act} {w:World} {K K':Act→World→Prop} {Q Q':Exit→Act→World→Prop} (hk:∀ a w,K a w→K' a w) (hq:∀ c w,Q (.panic c) a w→Q' (.panic c) a w) (hl:LetsOut Q→LetsOut Q') (h:o.wp P a w K Q):o.wp P a w K' Q':=by
 have h':=Oper.wp_mono (P:=P) hk h
 clear h
 unfold Oper.wp at *
 generalize (execOp a.eval o).run P w=r at *
 cases r with
 | ok n w' =>
  cases n <;> simp only [Oper.upon] at h' ⊢ <;> first | exact h' | skip
  refine Calls.mono h' fun e w'' he=>?_
  cases e with
  | returned v=>exact he
  | panicked c=>exact hq _ _ he
  | outgrown=>exact hl he
 | halt x w'=>cases x <;> simp only [Oper.upon] at h' ⊢ <;> first | exact h' | exact hq _ _ h'
theorem Ybg {Rel:World→World→Prop} {i:Nat} {K K':Act→World→Prop} {a:Act} {w:World} (hx:∀ x a w,X x a w→R x a w) (hk:∀ a w,K a w→K' a w) (h:pOp P ops X Rel i K a w):wpOp P ops R i K' a w:=by
 unfold pOp at h
 unfold wpOp
 split
 ·rename_i ho; simp only [ho] at h; exact hk _ _ h
 ·rename_i o ho
  simp only [ho] at h
  split
  ·rename_i hw; simp only [hw,if_true] at h; exact .inl (Xrr (fun a w h=>hk a w h.2) (fun c w h=>hx _ a w h) (fun ⟨a,w,h⟩=>⟨a,w,hx _ _ _ h⟩) h)
  ·rename_i hw; simp only [hw] at h; exact hk _ _ h
theorem Xrs {Rel Rel':World→World→Prop} {i:Nat} {K K':Act→World→Prop} {a:Act} {w:World} (hr:∀ w w',Rel w w'→Rel' w w') (hk:∀ a w,K a w→K' a w) (h:pOp P ops X Rel i K a w):pOp P ops X Rel' i K' a w:=by
 unfold pOp at *
 split
 ·rename_i ho; simp only [ho] at h; exact hk _ _ h
 ·rename_i o ho
  simp only [ho] at h
  split
  ·rename_i hw; simp only [hw,if_true] at h; exact Oper.wp_mono (fun a w h=>⟨hr _ _ h.1,hk _ _ h.2⟩) h
  ·rename_i hw; simp only [hw] at h; exact hk _ _ h
end
section
variable {P:Program} {ops:Array Oper} {C:World→Prop} {R X:Exit→Act→World→Prop} [Dr]
def pAny (P:Program) (ops:Array Oper) (X:Exit→Act→World→Prop) (Rel:Nat→World→World→Prop) (R:Exit→Act→World→Prop):Nat→Array Bool→Act→World→Prop
 | 0,listed,a,w=>Region.ready .any ops listed=[]∧R .normal a w
 | fuel+1,listed,a,w =>
  (Region.ready .any ops listed=[]→R .normal a w) ∧
  ∀ i∈Region.ready .any ops listed,pOp P ops X (Rel i) i (fun a' w'=>∀ w'',Bel w'.heap.size w' w''→pAny P ops X Rel R fuel (listed.setIfInBounds i true) a' w'') a w
theorem Xwh {Rel:Nat→World→World→Prop} (hx:∀ x a w,X x a w→R x a w):∀ (fuel:Nat) (listed:Array Bool) (a:Act) (w:World),pAny P ops X Rel R fuel listed a w→wpAny P .any ops R fuel listed a w
 | 0,_,_,_,h=>h
 | fuel+1,listed,a,w,h=>⟨h.1,fun i hi=>Ybg hx (fun a w h=>Xwh hx fuel _ a w (h w (Bel.refl _ _))) (h.2 i hi)⟩
theorem Xgn {Rel Rel':Nat→World→World→Prop} (hr:∀ i w w',Rel i w w'→Rel' i w w'):∀ (fuel:Nat) (listed:Array Bool) (a:Act) (w:World),pAny P ops X Rel R fuel listed a w→pAny P ops X Rel' R fuel listed a w
 | 0,_,_,_,h=>h
 | fuel+1,listed,a,w,h=>⟨h.1,fun i hi=>Xrs (hr i) (fun a w h w'' hb=>Xgn hr fuel _ a w'' (h w'' hb)) (h.2 i hi)⟩
theorem YieldsC.pOp {Rel:World→World→Prop} {i:Nat} {o:Oper} {v:Value} {a:Act} (hi:ops[i]? = some o) (hy:YieldsC P ops C o v a) {K:Act→World→Prop} {w:World} (hR:∀ w',Bel w.heap.size w w'→Rel w w') (hC:C w)
  (h:∀ w',Bel w.heap.size w w'→K (a.put o.dst v) w'):pOp P ops X Rel i K a w:=by
 unfold Ab.pOp
 simp only [hi]
 rcases hy with ⟨hw,hv⟩ | ⟨hw,rfl⟩
 ·simp only [hw,if_true]
  have h1:=hv w hC
  unfold Xe5 at h1
  unfold Oper.wp
  generalize (execOp a.eval o).run P w=r at *
  cases r with
  | ok n w' =>
   cases n <;> simp only [Oper.upon] at h1 ⊢ <;> first | exact h1.elim | skip
   case value u =>
    obtain ⟨rfl,rfl⟩:=h1
    exact ⟨hR _ (Bel.refl _ _),h _ (Bel.refl _ _)⟩
   case enter f args =>
    refine Calls.mono h1 fun x w'' hx=>?_
    obtain ⟨rfl,hb⟩:=hx
    exact ⟨hR _ hb,h _ hb⟩
  | halt x w'=>exact h1.elim
 ·simp only [hw,Bool.false_eq_true,if_false]; exact h w (Bel.refl _ _)
theorem X9a {Rel:World→World→Prop} {j:Nat} {oi oj:Oper} {v:Value} (hj:ops[j]? = some oj) (hap:oi.apart ops oj=true)
  (hsi:∀ cs b,oi.op≠.select cs b) (hsj:∀ cs b,oj.op≠.select cs b) {K:Act→World→Prop} {a:Act} {w:World}
  (hX:∀ x a d v w,X x (a.put d v) w→X x a w) (hw0:C w) (hy:YieldsC P ops C oi v a) (h:pOp P ops X (fun w w'=>Rel w w'∧(C w→C w')) j K (a.put oi.dst v) w) :
  pOp P ops X Rel j (fun a' w'=>(C w'∧YieldsC P ops C oi v a')∧K (a'.put oi.dst v) w') a w:=by
 obtain ⟨h1,h2,h3⟩:=Oper.apart_spec hap
 have keep:∀ u,YieldsC P ops C oi v (a.put oj.dst u):=fun u=>hy.same (execOp_put oi hsi a oj.dst u h3) (wanted_put oi a oj.dst u h3)
 unfold pOp at *
 simp only [hj] at *
 rw [wanted_put oj a oi.dst v h1] at h
 split
 ·rename_i hw
  simp only [hw,if_true] at h
  unfold Oper.wp at *
  rw [execOp_put oj hsj a oi.dst v h1] at h
  generalize (execOp a.eval oj).run P w=r at *
  have put:∀ u w',((Rel w w'∧(C w→C w'))∧K ((a.put oi.dst v).put oj.dst u) w')→(Rel w w'∧(C w'∧YieldsC P ops C oi v (a.put oj.dst u))∧K ((a.put oj.dst u).put oi.dst v) w') :=
   fun u w' hh=>⟨hh.1.1,⟨hh.1.2 hw0,keep u⟩,by rw [← Act.put_comm a v u h2]; exact hh.2⟩
  cases r with
  | ok n w' =>
   cases n <;> simp only [Oper.upon] at h ⊢
   case value u=>exact put u _ h
   case skip=>exact put undef _ h
   case defer d =>
    have hd:YieldsC P ops C oi v ({ a with defers:=d::a.defers }:Act):=hy.same rfl rfl
    refine ⟨h.1.1,⟨h.1.2 hw0,hd.same (execOp_put oi hsi _ oj.dst undef h3) (wanted_put oi _ oj.dst undef h3)⟩,?_⟩
    rw [← Act.put_comm _ v undef h2,← Act.put_defers]
    exact h.2
   case enter f args =>
    refine Calls.mono h fun e w'' he=>?_
    cases e with
    | returned u=>exact put u _ he
    | panicked c=>exact hX _ _ _ _ _ he
    | outgrown=>exact he
   case row row args=>exact Rows.mono h fun u w'' he=>put u _ he
  | halt x w' =>
   cases x <;> simp only [Oper.upon] at h ⊢
   case panic u=>exact hX _ _ _ _ _ h
 ·rename_i hw
  simp only [hw] at h
  exact ⟨⟨hw0,keep _⟩,by rw [← Act.put_comm a v undef h2]; exact h⟩
theorem Xzo {Rel:Nat→World→World→Prop} {i:Nat} {oi:Oper} {v:Value} (hX:∀ x a d v w,X x (a.put d v) w→X x a w) (hi:ops[i]? = some oi) (hsel:∀ (j:Nat) (o:Oper) cs b,ops[j]? = some o→o.op≠.select cs b)
  (hC:∀ w w',C w→Bel w.heap.size w w'→C w') (hR:∀ j w w',Bel w.heap.size w w'→Rel j w w') (dep:Nat→Bool) (hdep:∀ k o,ops[k]? = some o→dep k=true→∃ e∈o.after,Region.binds .any e=true∧(e.on=i∨dep e.on=true)) :
  ∀ (fuel:Nat) (listed:Array Bool) (a:Act) (w:World),
   (∀ j oj,ops[j]? = some oj→j≠i→listed.getD j true=false→(∀ e∈oj.after,Region.binds .any e=true→e.on≠i)→oi.apart ops oj=true) →
   (∀ k,dep k=true→listed.getD k false=false)→i∈Region.ready .any ops listed→C w→YieldsC P ops C oi v a →
   (∀ w',Bel w.heap.size w w'→pAny P ops X (fun j w w'=>Rel j w w'∧(dep j=false→C w→C w')) R fuel (listed.setIfInBounds i true) (a.put oi.dst v) w')→pAny P ops X Rel R (fuel+1) listed a w:=by
 have hmono:∀ fuel listed a w,pAny P ops X (fun j w w'=>Rel j w w'∧(dep j=false→C w→C w')) R fuel listed a w→pAny P ops X Rel R fuel listed a w:=Xgn fun _ _ _ h=>h.1
 intro fuel
 induction fuel with
 | zero =>
  intro listed a w _ _ hr hw hy H
  refine ⟨fun h=>(by rw [h] at hr; cases hr),fun j hj=>?_⟩
  by_cases hji:j=i
  ·subst hji; exact hy.pOp hi (hR j w) hw (fun w' hb w'' hb'=>hmono _ _ _ _ (H w'' (hb.trans (hb'.mono hb.size))))
  ·have:=ready_mono hj hji
   rw [(H w (Bel.refl _ _)).1] at this
   cases this
 | succ fuel ih =>
  intro listed a w hfree hcl hr hw hy H
  refine ⟨fun h=>(by rw [h] at hr; cases hr),fun j hj=>?_⟩
  by_cases hji:j=i
  ·subst hji; exact hy.pOp hi (hR j w) hw (fun w' hb w'' hb'=>hmono _ _ _ _ (H w'' (hb.trans (hb'.mono hb.size))))
  ·have h1:=(H w (Bel.refl _ _)).2 j (ready_mono hj hji)
   obtain ⟨hjun,oj,hoj,hall⟩:=mem_ready.1 hj
   have hnot:∀ e∈oj.after,Region.binds .any e=true→e.on≠i:=fun e he hb heq=>by
    have h1:=hall e he hb
    have h0:=(mem_ready.1 hr).1
    rw [heq] at h1
    rcases Nat.lt_or_ge i listed.size with h' | h'
    ·simp [h'] at h0 h1; rw [h0] at h1; cases h1
    ·simp [Array.getElem?_eq_none h'] at h1
   have hjd:dep j=false:=by
    rw [← Bool.not_eq_true]
    intro hd
    obtain ⟨e,he,hb,hon⟩:=hdep j oj hoj hd
    rcases hon with hon | hon
    ·exact hnot e he hb hon
    ·have:=hall e he hb
     rw [hcl _ hon] at this
     cases this
   have hcl':∀ k,dep k=true→(listed.setIfInBounds j true).getD k false=false:=fun k hk=>by
    have hjk:j≠k:=fun e=>by subst e; rw [hk] at hjd; cases hjd
    rw [getD_set_ne false hjk]
    exact hcl k hk
   have h1':=Xrs (Rel':=fun w w'=>Rel j w w'∧(C w→C w')) (fun w w' h=>⟨h.1,h.2 hjd⟩) (fun _ _ h=>h) h1
   have h2:=X9a hoj (hfree j oj hoj hji hjun hnot) (fun cs b=>hsel i oi cs b hi) (fun cs b=>hsel j oj cs b hoj) hX hw hy h1'
   have hfree':∀ k ok,ops[k]? = some ok→k≠i→(listed.setIfInBounds j true).getD k true=false →
     (∀ e∈ok.after,Region.binds .any e=true→e.on≠i)→oi.apart ops ok=true:=fun k ok hk hki hun hno=>by
    refine hfree k ok hk hki ?_ hno
    by_cases hjk:j=k
    ·subst hjk; exact hjun
    ·rw [getD_set_ne true hjk] at hun; exact hun
   refine Xrs (fun _ _ h=>h) (fun a' w' h3 w2 hb2=>ih (listed.setIfInBounds j true) a' w2 hfree' hcl' (ready_mono hr (Ne.symm hji)) (hC _ _ h3.1.1 hb2) h3.1.2 (fun w3 hb3=>?_)) h2
   rw [Array.setIfInBounds_comm _ _ hji]
   exact h3.2 w3 (hb2.trans (hb3.mono hb2.size))
end
abbrev Obl:=List (List Bool × List Fact)
def X14 [Dr] (w0:World) (F:Nat→Prop) (Ob:Obl) (j:Nat) (w w':World):Prop:=∀ p∈Ob,p.1.getD j false=false→Hold w0 F p.2 w→Hold w0 F p.2 w'
def Obs (Ob:Obl) (j:Nat) (Γ:List Fact):Prop:=∀ p∈Ob,p.1.getD j false=false→Sub Γ p.2
theorem Obs.nil {j:Nat} {Γ:List Fact}:Obs [] j Γ:=fun p hp=>by cases hp
theorem Obs.skip {j:Nat} {Γ:List Fact} {p:List Bool × List Fact} {Ob:Obl} (h:p.1.getD j false=true) (k:Obs Ob j Γ):Obs (p::Ob) j Γ:=fun q hq=>by
 rcases List.mem_cons.1 hq with rfl | hq
 ·intro h'; rw [h] at h'; cases h'
 ·exact k q hq
theorem Obs.keep {j:Nat} {Γ:List Fact} {p:List Bool × List Fact} {Ob:Obl} [h:Sub Γ p.2] (k:Obs Ob j Γ):Obs (p::Ob) j Γ:=fun q hq=>by
 rcases List.mem_cons.1 hq with rfl | hq
 ·exact fun _=>h
 ·exact k q hq
def Xwi [Dr] (n:Nn) (w0:World) (F:Nat→Prop) (Q:Cont):Exit→Act→World→Prop:=fun x a w=>∃ c Γ,x = .panic c∧Q (.panic c) [] Γ∧Fr n [] a∧Hold w0 F Γ w
theorem X15 [Dr] {n:Nn} {w0:World} {F:Nat→Prop} {Q:Cont} (x:Exit) (a:Act) (d:Option Nat) (v:Value) (w:World) (h:Xwi n w0 F Q x (a.put d v) w):Xwi n w0 F Q x a w:=by
 obtain ⟨c,Γ,hx,hq,fr,ho⟩:=h
 refine ⟨c,Γ,hx,hq,⟨?_,?_,fun i u hu=>by cases hu⟩,ho⟩
 ·have:=fr.defers; cases d <;> simpa [Act.put] using this
 ·have:=fr.size; cases d <;> simpa [Act.put] using this
theorem Xyd [Dr] {n:Nn} {w0:World} {F:Nat→Prop} {Q:Cont} (x:Exit) (a:Act) (w:World) (h:Xwi n w0 F Q x a w):up n w0 F Q x a w:=by
 obtain ⟨c,Γ,rfl,hq,fr,ho⟩:=h
 exact ⟨[],Γ,hq,fr,ho⟩
def JP [Dr] (P:Program) (n:Nn) (w0:World) (F:Nat→Prop) (ops:List Oper) (Ob:Obl) (fuel:Nat) (done:List Bool) (Q:Cont) (e:E) (Γ:List Fact):Prop :=
 ∀ a w,Fr n e a→Hold w0 F Γ w→pAny P ⟨ops⟩ (Xwi n w0 F Q) (X14 w0 F Ob) (up n w0 F Q) fuel ⟨done⟩ a w
def X9b (ops:List Oper) (done:List Bool) (i:Nat) (dep:List Bool):Bool :=
 (List.range ops.length).all fun k=>(!dep.getD k false || (!done.getD k false && (match ops[k]? with | some o=>o.after.any fun e=>Region.binds .any e && (e.on == i || dep.getD e.on false) | none=>false)))
def Xg8 (ops:List Oper) (done:List Bool) (i:Nat):Bool :=
 Region.noSelect ⟨ops⟩ && Region.free .any ⟨ops⟩ ⟨done⟩ i && (Region.ready .any ⟨ops⟩ ⟨done⟩).contains i && (X9b ops done i (Xdy ops i) && Nat.beq (Xdy ops i).length ops.length)
section
variable {P:Program} {n:Nn} {w0:World} {F:Nat→Prop} {ops:List Oper} {Ob:Obl} {fuel i d:Nat} {done done':List Bool} {t:TypeId} {pos:String} {aft:Array Edge} {g:Option (Nat × Bool)} {Q:Cont} {e:E} {Γ:List Fact}
theorem JC.drawP [Dr] {id:Nat} (hm:P.follows .mixedOrders=true) (h:JP P n w0 F ops [] ops.length (List.replicate ops.length false) Q e Γ):JC P n w0 F (.region id ⟨ops⟩ true) Q e Γ:=by
 intro a w fr ho
 refine wp_region_any hm ?_
 have:=Xwh Xyd _ _ _ _ (h a w.drew fr ho.drew)
 have e1:(⟨List.replicate ops.length false⟩:Array Bool)=Array.replicate (⟨ops⟩:Array Oper).size false:=by apply Array.ext'; simp
 rw [← e1]
 exact this
theorem JP.nil [Dr] (hr:Region.ready .any ⟨ops⟩ ⟨done⟩=[]) (h:Q .normal e Γ):JP P n w0 F ops Ob fuel done Q e Γ:=by
 intro a w fr ho
 cases fuel with
 | zero=>exact ⟨hr,e,Γ,h,fr,ho⟩
 | succ fuel=>exact ⟨fun _=>⟨e,Γ,h,fr,ho⟩,by rw [hr]; simp⟩
theorem X16 [Dr] {Ob:Obl} (j:Nat) (w w':World) (hb:Bel w.heap.size w w'):X14 w0 F Ob j w w':=fun p _ _ h=>h.of_below hb
theorem Xj3 [Dr] {o:Oper} {v:Value} {C:World→Prop} (hi:ops[i]? = some o) (hok:Xg8 ops done i=true) (hC:∀ w w',C w→Bel w.heap.size w w'→C w') (hCw:∀ w,Hold w0 F Γ w→C w) (hy:∀ a,Fr n e a→YieldsC P ⟨ops⟩ C o v a)
  (h:∀ a w,Fr n e a→Hold w0 F Γ w→pAny P ⟨ops⟩ (Xwi n w0 F Q) (fun j w w'=>X14 w0 F Ob j w w'∧((Xdy ops i).getD j false=false→C w→C w')) (up n w0 F Q) fuel ⟨done.set i true⟩ (a.put o.dst v) w):JP P n w0 F ops Ob (fuel+1) done Q e Γ:=by
 intro a w fr ho
 simp only [Xg8,Bool.and_eq_true] at hok
 obtain ⟨⟨⟨h2,h3⟩,h4⟩,h5⟩:=hok
 have hi':(⟨ops⟩:Array Oper)[i]? = some o:=by simpa using hi
 have h6:∀ k,k < ops.length→(Xdy ops i).getD k false=true→done.getD k false=false∧∃ o,ops[k]? = some o∧∃ e∈o.after,Region.binds .any e=true∧(e.on=i∨(Xdy ops i).getD e.on false=true):=by
  intro k hk hd
  have h7:=List.all_eq_true.1 h5.1 k (List.mem_range.2 hk)
  simp only [Bool.and_eq_true,Bool.or_eq_true,Bool.not_eq_true'] at h7
  rcases h7 with h8 | h8
  ·rw [hd] at h8; cases h8
  ·refine ⟨h8.1,ops[k],List.getElem?_eq_getElem hk,?_⟩
   have h9:=h8.2
   rw [List.getElem?_eq_getElem hk] at h9
   obtain ⟨e,he,hb⟩:=Array.any_eq_true'.1 h9
   simp only [Bool.and_eq_true,Bool.or_eq_true,beq_iff_eq] at hb
   exact ⟨e,he,hb.1,hb.2⟩
 have hlen:(Xdy ops i).length=ops.length:=Nat.eq_of_beq_eq_true h5.2
 have hdl:∀ k,(Xdy ops i).getD k false=true→k < ops.length:=by
  intro k hk
  rcases Nat.lt_or_ge k ops.length with h | h
  ·exact h
  ·rw [List.getD_eq_getElem?_getD,List.getElem?_eq_none (by omega)] at hk; cases hk
 refine Xzo (C:=C) X15 hi' (Region.noSelect_spec h2) hC (fun j w w' hb=>X16 j w w' hb) (fun k=>(Xdy ops i).getD k false) (fun k o' hk hd=>?_) fuel ⟨done⟩ a w (Region.free_spec hi' h3) (fun k hk=>?_) (by simpa using h4) (hCw w ho) (hy a fr) ?_
 ·obtain ⟨o2,ho2,h⟩:=(h6 k (hdl k hd) hd).2
  have:ops[k]? = some o':=by simpa using hk
  rw [this] at ho2
  injection ho2 with ho2
  subst ho2
  exact h
 ·have:=(h6 k (hdl k hk) hk).1
  simpa using this
 ·intro w' hb
  have:=h a w' fr (ho.of_below hb)
  simpa using this
theorem JP.take [Dr] {op:Op} {v:Value} (i:Nat) (Δ:List Fact) (hi:ops[i]? = some ⟨some d,op,t,pos,aft,g⟩) (hok:Xg8 ops done i=true) (hg:Xb7 ops e g=some true) [hs:Sub Γ Δ] (h:OpV P n w0 F ⟨some d,op,t,pos,aft,g⟩ e Δ v) (hd:Nat.blt d n.s=true)
  (hdone:done.set i true=done') (k:JP P n w0 F ops ((Xdy ops i,Δ)::Ob) fuel done' Q ((d,v)::e) Γ):JP P n w0 F ops Ob (fuel+1) done Q e Γ :=
 Xj3 (C:=Hold w0 F Δ) hi hok (fun w w' h hb=>h.of_below hb) (fun w ho=>ho.sub hs) (fun a fr=>.inl ⟨Xbv (o:=⟨some d,op,t,pos,aft,g⟩) hg fr,fun w ho=>by unfold Xe5; rw [h a w fr ho]; exact ⟨rfl,rfl⟩⟩)
  (fun a w fr ho=>by
   subst hdone
   exact Xgn (fun j w w' hr=>⟨fun p hp=>hr p (List.mem_cons_of_mem _ hp),fun hdj=>hr _ (List.mem_cons_self ..) hdj⟩) _ _ _ _ (k _ w (fr.put hd v) ho))
theorem JP.pure [Dr] {op:Op} {v:Value} (i:Nat) (hi:ops[i]? = some ⟨some d,op,t,pos,aft,g⟩) (hok:Xg8 ops done i=true) (hg:Xb7 ops e g=some true) (h:∀ w1,OpV P n w1 F ⟨some d,op,t,pos,aft,g⟩ e [] v) (hd:Nat.blt d n.s=true)
  (hdone:done.set i true=done') (k:JP P n w0 F ops Ob fuel done' Q ((d,v)::e) Γ):JP P n w0 F ops Ob (fuel+1) done Q e Γ :=
 Xj3 (C:=fun _=>True) hi hok (fun _ _ _ _=>trivial) (fun _ _=>trivial) (fun a fr=>.inl ⟨Xbv (o:=⟨some d,op,t,pos,aft,g⟩) hg fr,fun w _=>by unfold Xe5; rw [h w a w fr (Hold.start w F)]; exact ⟨rfl,rfl⟩⟩)
  (fun a w fr ho=>by
   subst hdone
   exact Xgn (fun j w w' hr=>⟨hr,fun _ h=>h⟩) _ _ _ _ (k _ w (fr.put hd v) ho))
theorem JP.omit [Dr] {op:Op} (i:Nat) (hi:ops[i]? = some ⟨some d,op,t,pos,aft,g⟩) (hok:Xg8 ops done i=true) (hg:Xb7 ops e g=some false) (hd:Nat.blt d n.s=true)
  (hdone:done.set i true=done') (k:JP P n w0 F ops Ob fuel done' Q ((d,undef)::e) Γ):JP P n w0 F ops Ob (fuel+1) done Q e Γ :=
 Xj3 (C:=fun _=>True) (v:=undef) hi hok (fun _ _ _ _=>trivial) (fun _ _=>trivial) (fun a fr=>.inr ⟨Xbv (o:=⟨some d,op,t,pos,aft,g⟩) hg fr,rfl⟩)
  (fun a w fr ho=>by
   subst hdone
   exact Xgn (fun j w w' hr=>⟨hr,fun _ h=>h⟩) _ _ _ _ (k _ w (fr.put hd undef) ho))
theorem JP.takeCall [Dr] {v:Value} {f:Operand} {args:Array Operand} {ats:Array TypeId} {fid:FuncId} {caps vs us:List Value} (i:Nat) (Δ:List Fact) (hi:ops[i]? = some ⟨some d, .call ⟨.value f,args,ats⟩,t,pos,aft,g⟩) (hok:Xg8 ops done i=true) (hg:Xb7 ops e g=some true) [hs:Sub Γ Δ]
  [hf:Fun e f fid caps] [hv:ArgVs e args.toList vs] [hu:App vs caps us] [hb:Body P fid]
  (hc:∀ w,Hold w0 F Δ w→GivesV P fid us w (fp w0 F Δ) v) (hd:Nat.blt d n.s=true)
  (hdone:done.set i true=done') (k:JP P n w0 F ops ((Xdy ops i,Δ)::Ob) fuel done' Q ((d,v)::e) Γ):JP P n w0 F ops Ob (fuel+1) done Q e Γ :=
 Xj3 (C:=Hold w0 F Δ) (v:=v) hi hok (fun w w' h hb=>h.of_below hb) (fun w ho=>ho.sub hs) (fun a fr=>.inl ⟨Xbv (o:=⟨some d, .call ⟨.value f,args,ats⟩,t,pos,aft,g⟩) hg fr,fun w ho=>by
   unfold Xe5
   rw [Xf0 fr hf hv hu hb]
   refine Calls.mono (hc w ho) ?_
   rintro x w' ⟨_,rfl,hbel,_⟩
   exact ⟨rfl,hbel⟩⟩)
  (fun a w fr ho=>by
   subst hdone
   exact Xgn (fun j w w' hr=>⟨fun p hp=>hr p (List.mem_cons_of_mem _ hp),fun hdj=>hr _ (List.mem_cons_self ..) hdj⟩) _ _ _ _ (k _ w (fr.put hd v) ho))
theorem JP.reslot [Dr] (s:Nat) {v:Value} (u:Value) [hs:Lk e s v] (h:v=u) (k:JP P n w0 F ops Ob fuel done Q ((s,u)::e) Γ):JP P n w0 F ops Ob fuel done Q e Γ :=
 fun a w fr ho=>k a w (fr.again (by rw [← h]; exact hs.ok)) ho
theorem JP.more [Dr] {Γ':List Fact} (h:∀ w,Hold w0 F Γ w→Hold w0 F Γ' w) (k:JP P n w0 F ops Ob fuel done Q e Γ'):JP P n w0 F ops Ob fuel done Q e Γ :=
 fun a w fr ho=>k a w fr (h w ho)
theorem opP [Dr] {o:Oper} (i:Nat) (hi:ops[i]? = some o) (hg:Xb7 ops e o.guard=some true)
  (h:JR P n w0 F ⟨[o]⟩ 0 o [] (fun x e' Γ'=>(x = .normal∧Obs Ob i Γ'∧JP P n w0 F ops Ob fuel (done.set i true) Q e' Γ')∨(∃ c,x = .panic c∧Q (.panic c) [] Γ')) e Γ) (a:Act) (w:World) (fr:Fr n e a) (ho:Hold w0 F Γ w) :
  pOp P ⟨ops⟩ (Xwi n w0 F Q) (X14 w0 F Ob i) i (fun a' w'=>∀ w'',Bel w'.heap.size w' w''→pAny P ⟨ops⟩ (Xwi n w0 F Q) (X14 w0 F Ob) (up n w0 F Q) fuel ((⟨done⟩:Array Bool).setIfInBounds i true) a' w'') a w:=by
 have hi':(⟨ops⟩:Array Oper)[i]? = some o:=by simpa using hi
 unfold pOp
 simp only [hi']
 rw [if_pos (Xbv hg fr)]
 refine Xrr (fun a' w' hk=>?_) (fun c w hx=>?_) (fun hx=>?_) (h rfl a w fr ho)
 ·simp only [List.range'_zero,List.length_nil,wpOps] at hk
  obtain ⟨e',Γ',hk,fr',ho'⟩:=hk
  rcases hk with ⟨_,hs,hj⟩ | ⟨c,hc,_⟩
  ·refine ⟨fun p hp hd _=>ho'.sub (hs p hp hd),fun w'' hb=>?_⟩
   have:=hj a' w'' fr' (ho'.of_below hb)
   simpa using this
  ·cases hc
 ·obtain ⟨e',Γ',hk,fr',ho'⟩:=hx
  rcases hk with ⟨hn,hs,hj⟩ | ⟨c',hc,hq⟩
  ·cases hn
  ·injection hc with hc
   subst hc
   exact ⟨c,Γ',rfl,hq,⟨fr'.defers,fr'.size,fun i u hu=>by cases hu⟩,ho'⟩
 ·obtain ⟨a,w,e',Γ',hk,_⟩:=hx
  rcases hk with ⟨hn,_⟩ | ⟨c,hc,_⟩
  ·cases hn
  ·cases hc
theorem JR.mono0 [Dr] {o:Oper} {Q':Cont} (h:JR P n w0 F ⟨[o]⟩ 0 o [] Q e Γ) (hq:∀ x e Γ,Q x e Γ→Q' x e Γ):JR P n w0 F ⟨[o]⟩ 0 o [] Q' e Γ:=by
 intro hd a w fr ho
 refine Xrr (fun a' w' hk=>?_) (fun c w hx=>?_) (fun hx=>?_) (h hd a w fr ho)
 ·simp only [List.range'_zero,List.length_nil,wpOps] at hk ⊢
  obtain ⟨e',Γ',hk,r⟩:=hk
  exact ⟨e',Γ',hq _ _ _ hk,r⟩
 ·obtain ⟨e',Γ',hk,r⟩:=hx
  exact ⟨e',Γ',hq _ _ _ hk,r⟩
 ·obtain ⟨a,w,e',Γ',hk,r⟩:=hx
  exact ⟨a,w,e',Γ',hq _ _ _ hk,r⟩
theorem JP.op [Dr] {o:Oper} (i:Nat) (hr:Region.ready .any ⟨ops⟩ ⟨done⟩=[i]) (hi:ops[i]? = some o) (hg:Xb7 ops e o.guard=some true)
  (h:JR P n w0 F ⟨[o]⟩ 0 o [] (fun x e' Γ'=>x = .normal∧Obs Ob i Γ'∧JP P n w0 F ops Ob fuel (done.set i true) Q e' Γ') e Γ):JP P n w0 F ops Ob (fuel+1) done Q e Γ:=by
 intro a w fr ho
 refine ⟨fun h0=>?_,fun j hj=>?_⟩
 ·rw [h0] at hr; cases hr
 ·rw [hr] at hj
  simp only [List.mem_singleton] at hj; subst hj
  exact opP j hi hg (h.mono0 fun _ _ _ h=>.inl h) a w fr ho
theorem JP.gone [Dr] {o:Oper} (i:Nat) (hr:Region.ready .any ⟨ops⟩ ⟨done⟩=[i]) (hi:ops[i]? = some o) (hg:Xb7 ops e o.guard=some true)
  (h:JR P n w0 F ⟨[o]⟩ 0 o [] (fun x e' Γ'=>∃ c,x = .panic c∧Q (.panic c) [] Γ') e Γ):JP P n w0 F ops Ob (fuel+1) done Q e Γ:=by
 intro a w fr ho
 refine ⟨fun h0=>?_,fun j hj=>?_⟩
 ·rw [h0] at hr; cases hr
 ·rw [hr] at hj
  simp only [List.mem_singleton] at hj; subst hj
  exact opP j hi hg (h.mono0 fun _ _ _ h=>.inr h) a w fr ho
theorem JP.both [Dr] {o o':Oper} (i j:Nat) (hr:Region.ready .any ⟨ops⟩ ⟨done⟩=[i,j]) (hi:ops[i]? = some o) (hj:ops[j]? = some o') (hg:Xb7 ops e o.guard=some true) (hg':Xb7 ops e o'.guard=some true)
  (h:JR P n w0 F ⟨[o]⟩ 0 o [] (fun x e' Γ'=>x = .normal∧Obs Ob i Γ'∧JP P n w0 F ops Ob fuel (done.set i true) Q e' Γ') e Γ)
  (h':JR P n w0 F ⟨[o']⟩ 0 o' [] (fun x e' Γ'=>x = .normal∧Obs Ob j Γ'∧JP P n w0 F ops Ob fuel (done.set j true) Q e' Γ') e Γ):JP P n w0 F ops Ob (fuel+1) done Q e Γ:=by
 intro a w fr ho
 refine ⟨fun h0=>?_,fun k hk=>?_⟩
 ·rw [h0] at hr; cases hr
 ·rw [hr] at hk
  simp only [List.mem_cons,List.not_mem_nil,or_false] at hk
  rcases hk with rfl | rfl
  ·exact opP k hi hg (h.mono0 fun _ _ _ h=>.inl h) a w fr ho
  ·exact opP k hj hg' (h'.mono0 fun _ _ _ h=>.inl h) a w fr ho
end
section
variable {P:Program} {ops:Array Oper} {C:World→Prop} {R:Exit→Act→World→Prop} [Dr]
def cOp (P:Program) (ops:Array Oper) (C:World→Prop) (i:Nat) (K:Act→World→Prop) (a:Act) (w:World):Prop :=
 match ops[i]? with
 | none=>K a w
 | some o=>if Region.wanted o (yielded ops a.tmps) then o.wp P a w (fun a' w'=>(C w→C w')∧K a' w') Xtm else K (a.put o.dst undef) w
def cAny (P:Program) (ops:Array Oper) (C:World→Prop) (R:Exit→Act→World→Prop):Nat→Array Bool→Act→World→Prop
 | 0,listed,a,w=>Region.ready .any ops listed=[]∧R .normal a w
 | fuel+1,listed,a,w=>(Region.ready .any ops listed=[]→R .normal a w)∧∀ i∈Region.ready .any ops listed,cOp P ops C i (cAny P ops C R fuel (listed.setIfInBounds i true)) a w
end
section
variable {P:Program} {ops:Array Oper} {C:World→Prop} {R:Exit→Act→World→Prop}
theorem Ybh {i:Nat} {K K':Act→World→Prop} {a:Act} {w:World} (hk:∀ a w,K a w→K' a w) (h:cOp P ops C i K a w):wpOp P ops R i K' a w:=by
 unfold cOp at h
 unfold wpOp
 split
 ·rename_i ho; simp only [ho] at h; exact hk _ _ h
 ·rename_i o ho
  simp only [ho] at h
  split
  ·rename_i hw; simp only [hw,if_true] at h; exact .inl (Xtn (fun a w h=>hk a w h.2) h)
  ·rename_i hw; simp only [hw] at h; exact hk _ _ h
theorem X17:∀ (fuel:Nat) (listed:Array Bool) (a:Act) (w:World),cAny P ops C R fuel listed a w→wpAny P .any ops R fuel listed a w
 | 0,_,_,_,h=>h
 | fuel+1,listed,a,w,h=>⟨h.1,fun i hi=>Ybh (fun a w=>X17 fuel _ a w) (h.2 i hi)⟩
end
section
variable {P:Program} {ops:Array Oper} {C:World→Prop} {R:Exit→Act→World→Prop} [Dr]
def GivesC (P:Program) (ops:Array Oper) (C:World→Prop) (o:Oper) (v:Value) (a:Act):Prop :=
 Region.wanted o (yielded ops a.tmps)=true∧∀ w,C w→(execOp a.eval o).run P w = .ok (.value v) w
end
section
variable {P:Program} {ops:Array Oper} {C:World→Prop} {R:Exit→Act→World→Prop}
theorem GivesC.cOp {i:Nat} {o:Oper} {v:Value} {a:Act} (hi:ops[i]? = some o) (hy:GivesC P ops C o v a) {K:Act→World→Prop} {w:World} (hC:C w) (h:K (a.put o.dst v) w):cOp P ops C i K a w:=by
 unfold Ab.cOp
 simp only [hi]
 obtain ⟨hw,hv⟩:=hy
 simp only [hw,if_true]
 unfold Oper.wp
 rw [hv w hC]
 exact ⟨fun h=>h,h⟩
theorem GivesC.same {o:Oper} {v:Value} {a a':Act} (hy:GivesC P ops C o v a) (he:execOp a'.eval o=execOp a.eval o)
  (hw:Region.wanted o (yielded ops a'.tmps)=Region.wanted o (yielded ops a.tmps)):GivesC P ops C o v a':=by
 unfold GivesC at *
 rw [he,hw]
 exact hy
theorem X9c {j:Nat} {oi oj:Oper} {v:Value} (hj:ops[j]? = some oj) (hap:oi.apart ops oj=true)
  (hsi:∀ cs b,oi.op≠.select cs b) (hsj:∀ cs b,oj.op≠.select cs b) {K:Act→World→Prop} {a:Act} {w:World}
  (hw0:C w) (hy:GivesC P ops C oi v a) (h:cOp P ops C j K (a.put oi.dst v) w) :
  cOp P ops C j (fun a' w'=>(C w'∧GivesC P ops C oi v a')∧K (a'.put oi.dst v) w') a w:=by
 obtain ⟨h1,h2,h3⟩:=Oper.apart_spec hap
 have keep:∀ u,GivesC P ops C oi v (a.put oj.dst u):=fun u=>hy.same (execOp_put oi hsi a oj.dst u h3) (wanted_put oi a oj.dst u h3)
 unfold cOp at *
 simp only [hj] at *
 rw [wanted_put oj a oi.dst v h1] at h
 split
 ·rename_i hw
  simp only [hw,if_true] at h
  unfold Oper.wp at *
  rw [execOp_put oj hsj a oi.dst v h1] at h
  generalize (execOp a.eval oj).run P w=r at *
  have put:∀ u w',((C w→C w')∧K ((a.put oi.dst v).put oj.dst u) w')→((C w→C w')∧(C w'∧GivesC P ops C oi v (a.put oj.dst u))∧K ((a.put oj.dst u).put oi.dst v) w') :=
   fun u w' hh=>⟨hh.1,⟨hh.1 hw0,keep u⟩,by rw [← Act.put_comm a v u h2]; exact hh.2⟩
  cases r with
  | ok n w' =>
   cases n <;> simp only [Oper.upon] at h ⊢
   case value u=>exact put u _ h
   case skip=>exact put undef _ h
   case defer d =>
    have hd:GivesC P ops C oi v ({ a with defers:=d::a.defers }:Act):=hy.same rfl rfl
    refine ⟨h.1,⟨h.1 hw0,hd.same (execOp_put oi hsi _ oj.dst undef h3) (wanted_put oi _ oj.dst undef h3)⟩,?_⟩
    rw [← Act.put_comm _ v undef h2,← Act.put_defers]
    exact h.2
   case enter f args =>
    refine Calls.mono h fun e w'' he=>?_
    cases e with
    | returned u=>exact put u _ he
    | panicked c=>exact he
    | outgrown=>exact he
   case row row args=>exact Rows.mono h fun u w'' he=>put u _ he
  | halt x w' =>
   cases x <;> simp only [Oper.upon] at h ⊢
   case panic u=>exact h
 ·rename_i hw
  simp only [hw] at h
  exact ⟨⟨hw0,keep _⟩,by rw [← Act.put_comm a v undef h2]; exact h⟩
theorem X5z {i:Nat} {K K':Act→World→Prop} {a:Act} {w:World} (hk:∀ a w,K a w→K' a w) (h:cOp P ops C i K a w):cOp P ops C i K' a w:=by
 unfold cOp at *
 split
 ·rename_i ho; simp only [ho] at h; exact hk _ _ h
 ·rename_i o ho
  simp only [ho] at h
  split
  ·rename_i hw; simp only [hw,if_true] at h; exact Oper.wp_mono (fun a w h=>⟨h.1,hk _ _ h.2⟩) h
  ·rename_i hw; simp only [hw] at h; exact hk _ _ h
theorem Xzp {i:Nat} {oi:Oper} {v:Value} (hi:ops[i]? = some oi) (hsel:∀ (j:Nat) (o:Oper) cs b,ops[j]? = some o→o.op≠.select cs b) :
  ∀ (fuel:Nat) (listed:Array Bool) (a:Act) (w:World),
   (∀ j oj,ops[j]? = some oj→j≠i→listed.getD j true=false→(∀ e∈oj.after,Region.binds .any e=true→e.on≠i)→oi.apart ops oj=true) →
   i∈Region.ready .any ops listed→C w→GivesC P ops C oi v a →
   cAny P ops C R fuel (listed.setIfInBounds i true) (a.put oi.dst v) w→cAny P ops C R (fuel+1) listed a w:=by
 intro fuel
 induction fuel with
 | zero =>
  intro listed a w _ hr hw hy H
  refine ⟨fun h=>(by rw [h] at hr; cases hr),fun j hj=>?_⟩
  by_cases hji:j=i
  ·subst hji; exact hy.cOp hi hw H
  ·have:=ready_mono hj hji
   rw [H.1] at this
   cases this
 | succ fuel ih =>
  intro listed a w hfree hr hw hy H
  refine ⟨fun h=>(by rw [h] at hr; cases hr),fun j hj=>?_⟩
  by_cases hji:j=i
  ·subst hji; exact hy.cOp hi hw H
  ·have h1:=H.2 j (ready_mono hj hji)
   obtain ⟨hjun,oj,hoj,hall⟩:=mem_ready.1 hj
   have hnot:∀ e∈oj.after,Region.binds .any e=true→e.on≠i:=fun e he hb heq=>by
    have h1:=hall e he hb
    have h0:=(mem_ready.1 hr).1
    rw [heq] at h1
    rcases Nat.lt_or_ge i listed.size with h' | h'
    ·simp [h'] at h0 h1; rw [h0] at h1; cases h1
    ·simp [Array.getElem?_eq_none h'] at h1
   have h2:=X9c hoj (hfree j oj hoj hji hjun hnot) (fun cs b=>hsel i oi cs b hi) (fun cs b=>hsel j oj cs b hoj) hw hy h1
   have hfree':∀ k ok,ops[k]? = some ok→k≠i→(listed.setIfInBounds j true).getD k true=false →
     (∀ e∈ok.after,Region.binds .any e=true→e.on≠i)→oi.apart ops ok=true:=fun k ok hk hki hun hno=>by
    refine hfree k ok hk hki ?_ hno
    by_cases hjk:j=k
    ·subst hjk; exact hjun
    ·rw [getD_set_ne true hjk] at hun; exact hun
   refine X5z (fun a' w' h3=>ih (listed.setIfInBounds j true) a' w' hfree' (ready_mono hr (Ne.symm hji)) h3.1.1 h3.1.2 ?_) h2
   rw [Array.setIfInBounds_comm _ _ hji]
   exact h3.2
end
def JN [Dr] (P:Program) (n:Nn) (w0:World) (F:Nat→Prop) (ops:List Oper) (Δ:List Fact) (fuel:Nat) (done:List Bool) (Q:Cont) (e:E) (Γ:List Fact):Prop :=
 ∀ a w,Fr n e a→Hold w0 F Γ w→cAny P ⟨ops⟩ (Hold w0 F Δ) (up n w0 F Q) fuel ⟨done⟩ a w
section
variable {P:Program} {n:Nn} {w0:World} {F:Nat→Prop} {ops:List Oper} {Δ:List Fact} {fuel i d:Nat} {done done':List Bool} {t:TypeId} {pos:String} {aft:Array Edge} {g:Option (Nat × Bool)} {Q:Cont} {e:E} {Γ:List Fact} [Dr]
theorem Xm0 {id:Nat} (Δ:List Fact) (hm:P.follows .mixedOrders=true) (h:JN P n w0 F ops Δ ops.length (List.replicate ops.length false) Q e Γ):JC P n w0 F (.region id ⟨ops⟩ true) Q e Γ:=by
 intro a w fr ho
 refine wp_region_any hm ?_
 have:=X17 _ _ _ _ (h a w.drew fr ho.drew)
 have e1:(⟨List.replicate ops.length false⟩:Array Bool)=Array.replicate (⟨ops⟩:Array Oper).size false:=by apply Array.ext'; simp
 rw [← e1]
 exact this
theorem JN.nil (hr:Region.ready .any ⟨ops⟩ ⟨done⟩=[]) (h:Q .normal e Γ):JN P n w0 F ops Δ fuel done Q e Γ:=by
 intro a w fr ho
 cases fuel with
 | zero=>exact ⟨hr,e,Γ,h,fr,ho⟩
 | succ fuel=>exact ⟨fun _=>⟨e,Γ,h,fr,ho⟩,by rw [hr]; simp⟩
def X18 (ops:List Oper) (done:List Bool) (i:Nat):Bool :=
 Region.noSelect ⟨ops⟩ && Region.free .any ⟨ops⟩ ⟨done⟩ i && (Region.ready .any ⟨ops⟩ ⟨done⟩).contains i
theorem JN.take {op:Op} {v:Value} (i:Nat) (hi:ops[i]? = some ⟨some d,op,t,pos,aft,g⟩) (hok:X18 ops done i=true) (hg:Xb7 ops e g=some true) [hs:Sub Γ Δ] (h:OpV P n w0 F ⟨some d,op,t,pos,aft,g⟩ e Δ v) (hd:Nat.blt d n.s=true)
  (hdone:done.set i true=done') (k:JN P n w0 F ops Δ fuel done' Q ((d,v)::e) Γ):JN P n w0 F ops Δ (fuel+1) done Q e Γ:=by
 intro a w fr ho
 simp only [X18,Bool.and_eq_true] at hok
 obtain ⟨⟨h2,h3⟩,h4⟩:=hok
 have hi':(⟨ops⟩:Array Oper)[i]? = some ⟨some d,op,t,pos,aft,g⟩:=by simpa using hi
 refine Xzp hi' (Region.noSelect_spec h2) fuel ⟨done⟩ a w (Region.free_spec hi' h3) (by simpa using h4) (ho.sub hs) ⟨Xbv (o:=⟨some d,op,t,pos,aft,g⟩) hg fr,fun w ho=>h a w fr ho⟩ ?_
 have:=k _ w (fr.put hd v) ho
 rw [← hdone] at this
 simpa using this
theorem JN.reslot (s:Nat) {v:Value} (u:Value) [hs:Lk e s v] (h:v=u) (k:JN P n w0 F ops Δ fuel done Q ((s,u)::e) Γ):JN P n w0 F ops Δ fuel done Q e Γ :=
 fun a w fr ho=>k a w (fr.again (by rw [← h]; exact hs.ok)) ho
theorem JN.more {Γ':List Fact} (h:∀ w,Hold w0 F Γ w→Hold w0 F Γ' w) (k:JN P n w0 F ops Δ fuel done Q e Γ'):JN P n w0 F ops Δ fuel done Q e Γ :=
 fun a w fr ho=>k a w fr (h w ho)
theorem opN {o:Oper} (i:Nat) (hi:ops[i]? = some o) (hg:Xb7 ops e o.guard=some true)
  (h:JR P n w0 F ⟨[o]⟩ 0 o [] (fun x e' Γ'=>x = .normal∧Sub Γ' Δ∧JN P n w0 F ops Δ fuel (done.set i true) Q e' Γ') e Γ) (a:Act) (w:World) (fr:Fr n e a) (ho:Hold w0 F Γ w) :
  cOp P ⟨ops⟩ (Hold w0 F Δ) i (cAny P ⟨ops⟩ (Hold w0 F Δ) (up n w0 F Q) fuel ((⟨done⟩:Array Bool).setIfInBounds i true)) a w:=by
 have hi':(⟨ops⟩:Array Oper)[i]? = some o:=by simpa using hi
 unfold cOp
 simp only [hi']
 rw [if_pos (Xbv hg fr)]
 have h1:=h rfl a w fr ho
 have key:∀ (K K':Act→World→Prop) (Q1 Q2:Exit→Act→World→Prop),(∀ a w,K a w→K' a w)→(∀ x a w,Q1 x a w→x = .normal)→o.wp P a w K Q1→o.wp P a w K' Q2:=by
  intro K K' Q1 Q2 hk hq hh
  have hh':=Oper.wp_mono (P:=P) hk hh
  unfold Oper.wp at *
  generalize (execOp a.eval o).run P w=r at *
  cases r with
  | ok n w' =>
   cases n <;> simp only [Oper.upon] at hh' ⊢ <;> first | exact hh' | skip
   refine Calls.mono hh' fun e w'' he=>?_
   cases e with
   | returned v=>exact he
   | panicked c=>have:=hq _ _ _ he; cases this
   | outgrown=>obtain ⟨_,_,h⟩:=he; have:=hq _ _ _ h; cases this
  | halt x w'=>cases x <;> simp only [Oper.upon] at hh' ⊢ <;> first | exact hh' | (have:=hq _ _ _ hh'; cases this)
 refine key _ _ _ _ (fun a' w' hk=>?_) ?_ h1
 ·simp only [List.range'_zero,List.length_nil,wpOps] at hk
  obtain ⟨e',Γ',⟨_,hs,hj⟩,fr',ho'⟩:=hk
  have:=hj a' w' fr' ho'
  exact ⟨fun _=>ho'.sub hs,by simpa using this⟩
 ·rintro x a w ⟨e',Γ',⟨hx,_⟩,_⟩
  exact hx
theorem JN.op {o:Oper} (i:Nat) (hr:Region.ready .any ⟨ops⟩ ⟨done⟩=[i]) (hi:ops[i]? = some o) (hg:Xb7 ops e o.guard=some true)
  (h:JR P n w0 F ⟨[o]⟩ 0 o [] (fun x e' Γ'=>x = .normal∧Sub Γ' Δ∧JN P n w0 F ops Δ fuel (done.set i true) Q e' Γ') e Γ):JN P n w0 F ops Δ (fuel+1) done Q e Γ:=by
 intro a w fr ho
 refine ⟨fun h0=>?_,fun j hj=>?_⟩
 ·rw [h0] at hr; cases hr
 ·rw [hr] at hj
  simp only [List.mem_singleton] at hj; subst hj
  exact opN j hi hg h a w fr ho
theorem JN.both {o o':Oper} (i j:Nat) (hr:Region.ready .any ⟨ops⟩ ⟨done⟩=[i,j]) (hi:ops[i]? = some o) (hj:ops[j]? = some o') (hg:Xb7 ops e o.guard=some true) (hg':Xb7 ops e o'.guard=some true)
  (h:JR P n w0 F ⟨[o]⟩ 0 o [] (fun x e' Γ'=>x = .normal∧Sub Γ' Δ∧JN P n w0 F ops Δ fuel (done.set i true) Q e' Γ') e Γ)
  (h':JR P n w0 F ⟨[o']⟩ 0 o' [] (fun x e' Γ'=>x = .normal∧Sub Γ' Δ∧JN P n w0 F ops Δ fuel (done.set j true) Q e' Γ') e Γ):JN P n w0 F ops Δ (fuel+1) done Q e Γ:=by
 intro a w fr ho
 refine ⟨fun h0=>?_,fun k hk=>?_⟩
 ·rw [h0] at hr; cases hr
 ·rw [hr] at hk
  simp only [List.mem_cons,List.not_mem_nil,or_false] at hk
  rcases hk with rfl | rfl
  ·exact opN k hi hg h a w fr ho
  ·exact opN k hj hg' h' a w fr ho
end
section
attribute [local irreducible] JC JO JR JQ andThen inBlock OpV Gives Xah JM JS
structure Bx (q:Prop):Prop where
 out:q
theorem wA {p q:Prop} (h:q) (f:Bx q→p:=by intro h; (repeat (first|refine Wa ?_|refine Wb ?_|refine Wc ?_|refine Wd ?_|refine We rfl ?_|refine Wf (by first|exact Va|exact Vb|exact Vc|exact Vd|exact Ve|exact Vf|exact Vg|exact Vh|exact Vi|exact Vj|exact Vk (by omega)|exact Vl|exact Vm|exact Vn|exact Vo|exact Vp|exact Vq|exact Vr|exact Vs (by omega)|exact Vt (by omega)|exact Vu (by omega)|exact Vv (by omega)|exact Vw|exact Vx|exact Vy|exact Vz|exact VA|exact VB|exact VC|exact VD|exact VE|exact VF) rfl ?_|refine Wi ?_|refine Wj ?_|refine Wk ?_|refine Wl ?_|refine Wm ?_|refine Wn ?_|refine Wo ?_|refine Wp ?_|refine Wq rfl ?_|refine Wr ?_|refine Ws ?_|refine Wt ?_|refine Wu ?_|refine Wv rfl rfl ?_)); exact h.out):p:=f ⟨h⟩
theorem wX {p q:Prop} (h:q) (f:Bx q→p:=by intro h; (repeat (first|refine Wa ?_|refine Wb ?_|refine Wc ?_|refine Wd ?_|refine We rfl ?_|refine Wf (by first|exact Va|exact Vb|exact Vc|exact Vd|exact Ve|exact Vf|exact Vg|exact Vh|exact Vi|exact Vj|exact Vk (by omega)|exact Vl|exact Vm|exact Vn|exact Vo|exact Vp|exact Vq|exact Vr|exact Vs (by omega)|exact Vt (by omega)|exact Vu (by omega)|exact Vv (by omega)|exact Vw|exact Vx|exact Vy|exact Vz|exact VA|exact VB|exact VC|exact VD|exact VE|exact VF) rfl ?_|refine Wi ?_|refine Wj ?_|refine Wk ?_|refine Wl ?_|refine Wm ?_|refine Wn ?_|refine Wo ?_|refine Wp ?_|refine Wq rfl ?_|refine Wr ?_|refine Ws ?_|refine Wt ?_|refine Wu ?_|refine Wv rfl rfl ?_|refine Wx rfl rfl ?_)); exact h.out):p:=f ⟨h⟩
theorem wz1 {p q:Prop} (h:q) (f:Bx q→p:=by intro h; (repeat (first|refine Wa ?_|refine Wb ?_|refine Wc ?_|refine Wd ?_|refine We rfl ?_|refine Wf (by first|exact Va|exact Vb|exact Vc|exact Vd|exact Vh|exact Vi|exact Vj) rfl ?_|refine Wj ?_|refine Wl ?_|refine Wn ?_|refine Ws ?_|refine Wt ?_|refine Wv rfl rfl ?_)); exact h.out):p:=f ⟨h⟩
theorem wz2 {p q:Prop} (h:q) (f:Bx q→p:=by intro h; (repeat (first|refine Wa ?_|refine Wb ?_|refine Wc ?_|refine Wd ?_|refine We rfl ?_|refine Wf (by first|exact Va|exact Vb|exact Vf|exact Vg|exact Vk (by omega)) rfl ?_|refine Wk ?_|refine Wl ?_|refine Wr ?_)); exact h.out):p:=f ⟨h⟩
theorem wz3 {p q:Prop} (h:q) (f:Bx q→p:=by intro h; (repeat (first|refine Wa ?_|refine Wb ?_|refine Wc ?_|refine Wd ?_|refine We rfl ?_|refine Wf (by first|exact Va|exact Vb|exact Vc) rfl ?_|refine Wi ?_|refine Wm ?_|refine Wo ?_|refine Wp ?_|refine Ws ?_|refine Wt ?_)); exact h.out):p:=f ⟨h⟩
theorem wz4 {p q:Prop} (h:q) (f:Bx q→p:=by intro h; (repeat (first|refine Wa ?_|refine Wb ?_|refine Wc ?_|refine Wd ?_|refine We rfl ?_|refine Wf (by first|exact Va|exact Vb|exact Vf|exact Vl|exact Vq) rfl ?_|refine Wn ?_)); exact h.out):p:=f ⟨h⟩
theorem wz5 {p q:Prop} (h:q) (f:Bx q→p:=by intro h; (repeat (first|refine Wa ?_|refine Wb ?_|refine Wc ?_|refine Wd ?_|refine We rfl ?_|refine Wf (by first|exact Va|exact Vb|exact Vf|exact Vh|exact Vj|exact Vo) rfl ?_|refine Ws ?_|refine Wt ?_|refine Wu ?_)); exact h.out):p:=f ⟨h⟩
theorem wz6 {p q:Prop} (h:q) (f:Bx q→p:=by intro h; (repeat (first|refine We rfl ?_|refine Wf (by first|exact Va|exact Vc|exact Vd|exact Vi|exact Vl) rfl ?_)); exact h.out):p:=f ⟨h⟩
theorem wz7 {p q:Prop} (h:q) (f:Bx q→p:=by intro h; (repeat (first|refine Wa ?_|refine Wb ?_|refine Wc ?_|refine Wd ?_|refine We rfl ?_|refine Wf (by first|exact Va|exact Vb|exact Vh|exact Vj) rfl ?_|refine Wk ?_|refine Wl ?_|refine Wn ?_)); exact h.out):p:=f ⟨h⟩
theorem wz8 {p q:Prop} (h:q) (f:Bx q→p:=by intro h; (repeat (first|refine Wa ?_|refine Wb ?_|refine Wc ?_|refine Wd ?_|refine We rfl ?_|refine Wf (by first|exact Va|exact Vb|exact Vh|exact Vi|exact Vj) rfl ?_|refine Wj ?_|refine Ws ?_|refine Wt ?_|refine Wu ?_|refine Wv rfl rfl ?_)); exact h.out):p:=f ⟨h⟩
theorem wz9 {p q:Prop} (h:q) (f:Bx q→p:=by intro h; (repeat (first|refine Wa ?_|refine Wb ?_|refine Wc ?_|refine Wd ?_|refine We rfl ?_|refine Wf (by first|exact Va|exact Vb|exact Vc|exact Vd) rfl ?_|refine Wi ?_|refine Ws ?_|refine Wt ?_)); exact h.out):p:=f ⟨h⟩
theorem wz10 {p q:Prop} (h:q) (f:Bx q→p:=by intro h; (repeat (first|refine Wa ?_|refine Wb ?_|refine Wc ?_|refine Wd ?_|refine We rfl ?_|refine Wf (by first|exact Va|exact Vb|exact Vp) rfl ?_|refine Ws ?_)); exact h.out):p:=f ⟨h⟩
theorem wz11 {p q:Prop} (h:q) (f:Bx q→p:=by intro h; (repeat (first|refine Wa ?_|refine Wb ?_|refine Wc ?_|refine Wd ?_|refine We rfl ?_|refine Wf (by first|exact Va|exact Vc|exact Vd|exact Vf|exact Vg|exact Vj|exact Vl) rfl ?_)); exact h.out):p:=f ⟨h⟩
theorem wz12 {p q:Prop} (h:q) (f:Bx q→p:=by intro h; (repeat (first|refine Wa ?_|refine Wb ?_|refine Wc ?_|refine Wd ?_|refine We rfl ?_|refine Wf (by first|exact Va|exact Vb|exact Vi|exact Vk (by omega)) rfl ?_|refine Wj ?_|refine Wl ?_|refine Wm ?_|refine Wo ?_|refine Wp ?_|refine Wq rfl ?_|refine Wr ?_|refine Ws ?_|refine Wv rfl rfl ?_)); exact h.out):p:=f ⟨h⟩
theorem wz13 {p q:Prop} (h:q) (f:Bx q→p:=by intro h; (repeat (first|refine Wa ?_|refine We rfl ?_|refine Ws ?_)); exact h.out):p:=f ⟨h⟩
theorem wz14 {p q:Prop} (h:q) (f:Bx q→p:=by intro h; (repeat (first|refine Wa ?_|refine Wb ?_|refine Wc ?_|refine We rfl ?_|refine Wf (by first|exact Va|exact Vo) rfl ?_|refine Wl ?_|refine Wn ?_)); exact h.out):p:=f ⟨h⟩
theorem wE {p:Prop} {Q:Nat→Prop} (h:∀ b,Q b) (f:Bx (∀ b,Q b)→p:=by intro h; (repeat (first|refine Wa ?_|refine Wb ?_|refine Wc ?_|refine Wd ?_|refine We rfl ?_|refine Wf (by first|exact Va|exact Vb|exact Vc|exact Vd|exact Ve|exact Vf|exact Vg|exact Vh|exact Vi|exact Vj|exact Vk (by omega)|exact Vl|exact Vm|exact Vn|exact Vo|exact Vp|exact Vq|exact Vr|exact Vs (by omega)|exact Vt (by omega)|exact Vu (by omega)|exact Vv (by omega)|exact Vw|exact Vx|exact Vy|exact Vz|exact VA|exact VB|exact VC|exact VD|exact VE|exact VF) rfl ?_|refine Wi ?_|refine Wj ?_|refine Wk ?_|refine Wl ?_|refine Wm ?_|refine Wn ?_|refine Wo ?_|refine Wp ?_|refine Wq rfl ?_|refine Wr ?_|refine Ws ?_|refine Wt ?_|refine Wu ?_|refine Wv rfl rfl ?_)); (first|refine Wg rfl ?_|refine Wh rfl ?_|refine Ww rfl ⟨rfl,by decide,by decide,by decide⟩ ?_); exact h.out):p:=f ⟨h⟩
theorem wF {p:Prop} {Q:Nat→Prop} (h:∀ b,Q b) (f:Bx (∀ b,Q b)→p:=by intro h; (repeat (first|refine Wa ?_|refine Wb ?_|refine Wc ?_|refine Wd ?_|refine We rfl ?_|refine Wf (by first|exact Va|exact Vb|exact Vc|exact Vd|exact Ve|exact Vf|exact Vg|exact Vh|exact Vi|exact Vj|exact Vk (by omega)|exact Vl|exact Vm|exact Vn|exact Vo|exact Vp|exact Vq|exact Vr|exact Vs (by omega)|exact Vt (by omega)|exact Vu (by omega)|exact Vv (by omega)|exact Vw|exact Vx|exact Vy|exact Vz|exact VA|exact VB|exact VC|exact VD|exact VE|exact VF) rfl ?_|refine Wi ?_|refine Wj ?_|refine Wk ?_|refine Wl ?_|refine Wm ?_|refine Wn ?_|refine Wo ?_|refine Wp ?_|refine Wq rfl ?_|refine Wr ?_|refine Ws ?_|refine Wt ?_|refine Wu ?_|refine Wv rfl rfl ?_|refine Wx rfl rfl ?_)); (first|refine Wg rfl ?_|refine Wh rfl ?_|refine Ww rfl ⟨rfl,by decide,by decide,by decide⟩ ?_); exact h.out):p:=f ⟨h⟩
theorem wQ {p q:Prop} (h:q) (f:Bx q→p:=by intro h; (repeat (first|refine Wy rfl (by first|exact Va|exact Vb|exact Vc|exact Vd|exact Ve|exact Vf|exact Vg|exact Vh|exact Vi|exact Vj|exact Vk (by omega)|exact Vl|exact Vm|exact Vn|exact Vo|exact Vp|exact Vq|exact Vr|exact Vs (by omega)|exact Vt (by omega)|exact Vu (by omega)|exact Vv (by omega)|exact Vw|exact Vx|exact Vy|exact Vz|exact VA|exact VB|exact VC|exact VD|exact VE|exact VF) rfl ?_|refine Wz rfl rfl ?_|refine WB ?_)); exact h.out):p:=f ⟨h⟩
theorem wY {p q:Prop} (h:q) (f:Bx q→p:=by intro h; (repeat (first|refine Wy rfl (by first|exact Va|exact Vb|exact Vc|exact Vd|exact Ve|exact Vf|exact Vg|exact Vh|exact Vi|exact Vj|exact Vk (by omega)|exact Vl|exact Vm|exact Vn|exact Vo|exact Vp|exact Vq|exact Vr|exact Vs (by omega)|exact Vt (by omega)|exact Vu (by omega)|exact Vv (by omega)|exact Vw|exact Vx|exact Vy|exact Vz|exact VA|exact VB|exact VC|exact VD|exact VE|exact VF) rfl ?_|refine Wz rfl rfl ?_|refine WA rfl rfl ?_|refine WB ?_)); exact h.out):p:=f ⟨h⟩
theorem z0z {p q:Prop} (h:q) (f:Bx q→p:=by intro h; (repeat (first | refine Wa ?_ | refine Wb ?_ | refine Wc ?_ | refine Wd ?_ | refine We rfl ?_ | refine Wf (by first | exact Va | exact Vb | exact Xbr | exact Xbu | exact Xbq | exact Xat | exact Xar) rfl ?_ | refine Ws ?_ | refine Wt ?_)); exact h.out):p:=f ⟨h⟩
theorem z1z {p q:Prop} (h:q) (f:Bx q→p:=by intro h; (repeat (first | refine Wy rfl (by first | exact Va | exact Vb | exact Xbr | exact Xbu | exact Xbq | exact Xat | exact Xar) rfl ?_ | refine WB ?_)); exact h.out):p:=f ⟨h⟩
theorem z2z {p q:Prop} (h:q) (f:Bx q→p:=by intro h; (repeat (first | refine CT.panic ?_ | refine Xa0 ?_)); exact h.out):p:=f ⟨h⟩
theorem z3z {p q:Prop} (h:q) (f:Bx q→p:=by intro h; (repeat (first|refine JY.val rfl (by first|exact Va|exact Vb|exact Vc|exact Vd|exact Ve|exact Vf|exact Vg|exact Vh|exact Vi|exact Vj|exact Vk (by omega)|exact Vl|exact Vm|exact Vn|exact Vo|exact Vp|exact Vq|exact Vr|exact Vs (by omega)|exact Vt (by omega)|exact Vu (by omega)|exact Vv (by omega)|exact Vw|exact Vx|exact Vy|exact Vz|exact VA|exact VB|exact VC|exact VD|exact VE|exact VF) rfl ?_|refine JY.omit rfl rfl ?_|refine JY.skip rfl rfl ?_|refine JY.nil ?_)); exact h.out):p:=f ⟨h⟩
theorem nO {x:Exit} {Ob:Obl} {j:Nat} {Γ:List Fact} {C:Prop} (k:C) (ho:Obs Ob j Γ:=by repeat (first|exact Obs.nil|refine Obs.keep ?_|refine Obs.skip (by kernel_rfl) ?_)):x=x∧Obs Ob j Γ∧C:=⟨rfl,ho,k⟩
section
variable {P:Program} {n:Nn} {w0:World} {F:Nat→Prop} {ops:List Oper} {Ob:Obl} {m fuel d:Nat} {done done':List Bool} {t:TypeId} {pos:String} {aft:Array Edge} {g:Option (Nat × Bool)} {Q:Cont} {e:E} {Γ:List Fact} {op:Op} {v:Value}
theorem Xab [Dr] (i:Nat) (k:JP P n w0 F ops Ob fuel done' Q ((d,v)::e) Γ) (hi:ops[i]? = some ⟨some d,op,t,pos,aft,g⟩:=by exact rfl) (hok:Xg8 ops done i=true:=by kernel_rfl) (hg:Xb7 ops e g=some true:=by exact rfl) (h:∀ w1,OpV P n w1 F ⟨some d,op,t,pos,aft,g⟩ e [] v:=by intro _; first|exact Va|exact Vd|exact Vb|exact OpV.nilCheck|exact Vi|exact Vj|exact Vq|exact Vf|exact Vl|exact Xaz|exact Vh|exact Vm|exact VB) (hd:Nat.blt d n.s=true:=by exact rfl) (hdone:done.set i true=done':=by exact rfl):JP P n w0 F ops Ob (fuel+1) done Q e Γ:=JP.pure i hi hok hg h hd hdone k
theorem JP.ov [Dr] (i:Nat) (k:JP P n w0 F ops Ob fuel done' Q ((d,undef)::e) Γ) (hi:ops[i]? = some ⟨some d,op,t,pos,aft,g⟩:=by exact rfl) (hok:Xg8 ops done i=true:=by kernel_rfl) (hg:Xb7 ops e g=some false:=by exact rfl) (hd:Nat.blt d n.s=true:=by exact rfl) (hdone:done.set i true=done':=by exact rfl):JP P n w0 F ops Ob (fuel+1) done Q e Γ:=JP.omit i hi hok hg hd hdone k
theorem JP.tv [Dr] (i:Nat) (Δ:List Fact) (k:JP P n w0 F ops ((Xdy ops i,Δ)::Ob) fuel done' Q ((d,v)::e) Γ) (hi:ops[i]? = some ⟨some d,op,t,pos,aft,g⟩:=by exact rfl) (hok:Xg8 ops done i=true:=by kernel_rfl) (hg:Xb7 ops e g=some true:=by exact rfl) [hs:Sub Γ Δ] (h:OpV P n w0 F ⟨some d,op,t,pos,aft,g⟩ e Δ v:=by exact Vc) (hd:Nat.blt d n.s=true:=by exact rfl) (hdone:done.set i true=done':=by exact rfl):JP P n w0 F ops Ob (fuel+1) done Q e Γ:=JP.take i Δ hi hok hg h hd hdone k
theorem Xai [Dr] {o:Oper} (i:Nat) (hi:ops[i]? = some o) (hg:Xb7 ops e o.guard=some true)
  (h:JR P n w0 F ⟨[o]⟩ 0 o [] (fun x e' Γ'=>x = .normal∧Obs Ob i Γ'∧JP P n w0 F ops Ob fuel (done.set i true) Q e' Γ') e Γ) (hr:Region.ready .any ⟨ops⟩ ⟨done⟩=[i]:=by kernel_rfl):JP P n w0 F ops Ob (fuel+1) done Q e Γ:=JP.op i hr hi hg h
theorem JM.tv [Dr] (i:Nat) (k:JM P n w0 F ops m fuel done' Q ((d,v)::e) Γ) (hi:ops[i]? = some ⟨some d,op,t,pos,aft,g⟩:=by exact rfl) (hok:Xnm ops m done i=true:=by kernel_rfl) (hg:Xb7 ops e g=some true:=by exact rfl) (h:OpV P n w0 F ⟨some d,op,t,pos,aft,g⟩ e Γ v:=by first|exact Va|exact Vc|exact Vd|exact Vb|exact OpV.nilCheck|exact Vi|exact Vj|exact Vq|exact Vf|exact Vl|exact Xaz|exact Vh|exact Vm|exact VB|exact Ve) (hd:Nat.blt d n.s=true:=by exact rfl) (hdone:done.set i true=done':=by exact rfl):JM P n w0 F ops m (fuel+1) done Q e Γ:=JM.take i hi hok hg h hd hdone k
theorem JM.ov [Dr] (i:Nat) (k:JM P n w0 F ops m fuel done' Q ((d,undef)::e) Γ) (hi:ops[i]? = some ⟨some d,op,t,pos,aft,g⟩:=by exact rfl) (hok:Xnm ops m done i=true:=by kernel_rfl) (hg:Xb7 ops e g=some false:=by exact rfl) (hd:Nat.blt d n.s=true:=by exact rfl) (hdone:done.set i true=done':=by exact rfl):JM P n w0 F ops m (fuel+1) done Q e Γ:=JM.omit i hi hok hg hd hdone k
end
end
def Xax (a b:ByteArray):Bool:=Op.bytesLess a.toList b.toList
theorem Xn0:∀ l:List UInt8,Op.bytesLess l l=false
 | []=>rfl
 | a::l=>by simp [Op.bytesLess,Xn0 l]
theorem Xqg:∀ {a b c:List UInt8},Op.bytesLess a b=true→Op.bytesLess b c=true→Op.bytesLess a c=true
 | _,[],_,h,_=>by cases ‹List UInt8› <;> simp [Op.bytesLess] at h
 | _,_::_,[],_,h=>by simp [Op.bytesLess] at h
 | [],_::_,_::_,_,_=>rfl
 | x::a,y::b,z::c,h,k=>by
  simp only [Op.bytesLess,Bool.or_eq_true,Bool.and_eq_true,decide_eq_true_eq,beq_iff_eq] at h k ⊢
  rcases h with h | ⟨rfl,h⟩
  ·rcases k with k | ⟨rfl,k⟩
   ·exact .inl (by rw [UInt8.lt_iff_toNat_lt] at *; omega)
   ·exact .inl h
  ·rcases k with k | ⟨rfl,k⟩
   ·exact .inl k
   ·exact .inr ⟨rfl,Xqg h k⟩
theorem Xqh:∀ {a b:List UInt8},a≠b→Op.bytesLess a b=true∨Op.bytesLess b a=true
 | [],[],h=>(h rfl).elim
 | [],_::_,_=>.inl rfl
 | _::_,[],_=>.inr rfl
 | x::a,y::b,h=>by
  simp only [Op.bytesLess,Bool.or_eq_true,Bool.and_eq_true,decide_eq_true_eq,beq_iff_eq]
  by_cases hxy:x=y
  ·subst hxy
   rcases Xqh (a:=a) (b:=b) (fun e=>h (by rw [e])) with k | k
   ·exact .inl (.inr ⟨rfl,k⟩)
   ·exact .inr (.inr ⟨rfl,k⟩)
  ·have hne:x.toNat≠y.toNat:=fun e=>hxy (UInt8.toNat_inj.1 e)
   rw [UInt8.lt_iff_toNat_lt,UInt8.lt_iff_toNat_lt]
   rcases Nat.lt_or_gt_of_ne hne with k | k
   ·exact .inl (.inl k)
   ·exact .inr (.inl k)
theorem Xdo (a:ByteArray):Xax a a=false:=Xn0 _
theorem Xb8 {a b c:ByteArray} (h:Xax a b=true) (k:Xax b c=true):Xax a c=true:=Xqg h k
theorem Xcu {a b:ByteArray} (h:a≠b):Xax a b=true∨Xax b a=true:=by
 refine Xqh fun e=>h ?_
 have:=Xfd a b
 rw [e] at this
 simpa using this.symm
theorem Xfl {a b:ByteArray} (h:Xax a b=true):Xax b a=false:=by
 cases hb:Xax b a with
 | false=>rfl
 | true=>have:=Xb8 h hb; rw [Xdo] at this; cases this
theorem Xt3 {a b:ByteArray}:(Xax a b || decide (a=b)) = !Xax b a:=by
 by_cases e:a=b
 ·subst e; simp [Xdo]
 ·rcases Xcu e with h | h
  ·rw [h,Xfl h]; rfl
  ·rw [h,Xfl h,decide_eq_false e]; rfl
section
variable {P:Program} {n:Nn} {w0:World} {F:Nat→Prop} {d:Option Nat} {t:TypeId} {pos:String} {aft:Array Edge} {g:Option (Nat × Bool)} {e:E} {Γ:List Fact} {x y:Operand} {ty yt:TypeId} {s u:ByteArray}
theorem Xk3 [Dr] [hx:Ev e x (.string s)] [hy:Ev e y (.string u)]:OpV P n w0 F ⟨d, .binOp .lss ty x y yt,t,pos,aft,g⟩ e Γ (.bool (Xax s u)) :=
 fun a w fr _=>by simp [execOp,hx.ok n a fr,hy.ok n a fr,eqGuard,binOp,Op.stringOp,Xax]
theorem Xqi [Dr] [hx:Ev e x (.string s)] [hy:Ev e y (.string u)]:OpV P n w0 F ⟨d, .binOp .leq ty x y yt,t,pos,aft,g⟩ e Γ (.bool (!Xax u s)) :=
 fun a w fr _=>by
  have h1:=Xfd s u
  have h2:(Op.bytesLess s.toList u.toList || s.toList == u.toList) = !Xax u s:=by rw [h1]; exact Xt3
  simp [execOp,hx.ok n a fr,hy.ok n a fr,eqGuard,binOp,Op.stringOp,h2]
theorem Xqj [Dr] [hx:Ev e x (.string s)] [hy:Ev e y (.string u)]:OpV P n w0 F ⟨d, .binOp .gtr ty x y yt,t,pos,aft,g⟩ e Γ (.bool (Xax u s)) :=
 fun a w fr _=>by
  have h1:=Xfd s u
  have h2:(!(Op.bytesLess s.toList u.toList || s.toList == u.toList))=Xax u s:=by rw [h1,show Op.bytesLess s.toList u.toList=Xax s u from rfl,Xt3,Bool.not_not]
  simp [execOp,hx.ok n a fr,hy.ok n a fr,eqGuard,binOp,Op.stringOp,h2]
end
structure Ctr_ where
 key:ByteArray
 n:Int
 deriving DecidableEq
structure Reg_ where
 key:ByteArray
 elem:ByteArray
 gen:Int
 ev:Ev_
 deriving DecidableEq
structure Pair_ where
 key:ByteArray
 elem:ByteArray
 ev:Ev_
 deriving DecidableEq
abbrev ctrC (c:Ctr_):List Value:=[.string c.key, .int .i64 c.n]
abbrev regC (r:Reg_):List Value:=[.string r.key, .string r.elem, .int .i64 r.gen, .int .i64 r.ev.node, .int .i64 r.ev.seq]
abbrev Xde (p:Pair_):List Value:=[.string p.key, .string p.elem, .int .i64 p.ev.node, .int .i64 p.ev.seq]
instance:Cell Ctr_ where
 Ix:=Unit
 sz:=2
 cells c _:=ctrC c
 facts _ _:=[]
 len _ _:=rfl
 one _ _:=by
  intro v hv
  simp only [ctrC,List.mem_cons,List.not_mem_nil,or_false] at hv
  rcases hv with rfl | rfl <;> rfl
 pos:=by decide
instance:Cell Reg_ where
 Ix:=Unit
 sz:=5
 cells r _:=regC r
 facts _ _:=[]
 len _ _:=rfl
 one _ _:=by
  intro v hv
  simp only [regC,List.mem_cons,List.not_mem_nil,or_false] at hv
  rcases hv with rfl | rfl | rfl | rfl | rfl <;> rfl
 pos:=by decide
instance:Cell Pair_ where
 Ix:=Unit
 sz:=4
 cells p _:=Xde p
 facts _ _:=[]
 len _ _:=rfl
 one _ _:=by
  intro v hv
  simp only [Xde,List.mem_cons,List.not_mem_nil,or_false] at hv
  rcases hv with rfl | rfl | rfl | rfl <;> rfl
 pos:=by decide
instance:Cell ByteArray where
 Ix:=Unit
 sz:=1
 cells s _:=[.string s]
 facts _ _:=[]
 len _ _:=rfl
 one _ _:=by
  intro v hv
  simp only [List.mem_singleton] at hv
  subst hv; rfl
 pos:=by decide
instance {Γ:List Fact} {k:ByteArray} {m:Int}:Typed Γ [.string k, .int .i64 m] (⟨k,m⟩:Ctr_):=⟨(),rfl,by simp [Cell.facts]⟩
instance {Γ:List Fact} {k u:ByteArray} {g a b:Int}:Typed Γ [.string k, .string u, .int .i64 g, .int .i64 a, .int .i64 b] (⟨k,u,g,⟨a,b⟩⟩:Reg_):=⟨(),rfl,by simp [Cell.facts]⟩
instance {Γ:List Fact} {k u:ByteArray} {a b:Int}:Typed Γ [.string k, .string u, .int .i64 a, .int .i64 b] (⟨k,u,⟨a,b⟩⟩:Pair_):=⟨(),rfl,by simp [Cell.facts]⟩
instance {Γ:List Fact} {k:ByteArray}:Typed Γ [.string k] k:=⟨(),rfl,by simp [Cell.facts]⟩
section
variable {P:Program} {n:Nn} {w0:World} {F:Nat→Prop} {ops:Array Oper} {i d:Nat} {t:TypeId} {pos:String} {aft:Array Edge} {g:Option (Nat × Bool)} {os:List Oper} {Q:Cont} {e:E} {Γ:List Fact}
theorem Xg9 [Dr] {x ix:Operand} {v:Value} {L:List Ctr_} {kk:IntKind} {j:Int} {k:Nat} {ty el:TypeId} {sz by_ eb:Nat} {z ez:Value} {ed:TypeDesc}
  [hx:Ev e x v] [hL:HasSl Γ v Ctr_ iI L] [hi:Ev e ix (.int kk j)] [hk:NatI j k] [hT:Ty P ty (.slice el) sz by_ z] [hE:Ty P el ed 2 eb ez] (hd:Nat.blt d n.s=true) (h:k < L.length)
  (K:∀ b o,JO P n w0 F ops (i+1) os Q ((d, .pointer (some ⟨b,o,none⟩))::e) (.st (ro b o [.string (L[k]'h).key, .int .i64 (L[k]'h).n])::Γ)) :
  JR P n w0 F ops i ⟨some d, .indexAddr ty x ix,t,pos,aft,g⟩ os Q e Γ:=JR.index hd rfl h fun b o _=>K b o
theorem Xha [Dr] {x ix:Operand} {v:Value} {L:List Reg_} {kk:IntKind} {j:Int} {k:Nat} {ty el:TypeId} {sz by_ eb:Nat} {z ez:Value} {ed:TypeDesc}
  [hx:Ev e x v] [hL:HasSl Γ v Reg_ iI L] [hi:Ev e ix (.int kk j)] [hk:NatI j k] [hT:Ty P ty (.slice el) sz by_ z] [hE:Ty P el ed 5 eb ez] (hd:Nat.blt d n.s=true) (h:k < L.length)
  (K:∀ b o,JO P n w0 F ops (i+1) os Q ((d, .pointer (some ⟨b,o,none⟩))::e) (.st (ro b o [.string (L[k]'h).key, .string (L[k]'h).elem, .int .i64 (L[k]'h).gen, .int .i64 (L[k]'h).ev.node, .int .i64 (L[k]'h).ev.seq])::Γ)) :
  JR P n w0 F ops i ⟨some d, .indexAddr ty x ix,t,pos,aft,g⟩ os Q e Γ:=JR.index hd rfl h fun b o _=>K b o
theorem Xf1 [Dr] {x ix:Operand} {v:Value} {L:List Pair_} {kk:IntKind} {j:Int} {k:Nat} {ty el:TypeId} {sz by_ eb:Nat} {z ez:Value} {ed:TypeDesc}
  [hx:Ev e x v] [hL:HasSl Γ v Pair_ iI L] [hi:Ev e ix (.int kk j)] [hk:NatI j k] [hT:Ty P ty (.slice el) sz by_ z] [hE:Ty P el ed 4 eb ez] (hd:Nat.blt d n.s=true) (h:k < L.length)
  (K:∀ b o,JO P n w0 F ops (i+1) os Q ((d, .pointer (some ⟨b,o,none⟩))::e) (.st (ro b o [.string (L[k]'h).key, .string (L[k]'h).elem, .int .i64 (L[k]'h).ev.node, .int .i64 (L[k]'h).ev.seq])::Γ)) :
  JR P n w0 F ops i ⟨some d, .indexAddr ty x ix,t,pos,aft,g⟩ os Q e Γ:=JR.index hd rfl h fun b o _=>K b o
theorem JR.indexStr [Dr] {x ix:Operand} {v:Value} {L:List ByteArray} {kk:IntKind} {j:Int} {k:Nat} {ty el:TypeId} {sz by_ eb:Nat} {z ez:Value} {ed:TypeDesc}
  [hx:Ev e x v] [hL:HasSl Γ v ByteArray iI L] [hi:Ev e ix (.int kk j)] [hk:NatI j k] [hT:Ty P ty (.slice el) sz by_ z] [hE:Ty P el ed 1 eb ez] (hd:Nat.blt d n.s=true) (h:k < L.length)
  (K:∀ b o,JO P n w0 F ops (i+1) os Q ((d, .pointer (some ⟨b,o,none⟩))::e) (.st (ro b o [.string (L[k]'h)])::Γ)) :
  JR P n w0 F ops i ⟨some d, .indexAddr ty x ix,t,pos,aft,g⟩ os Q e Γ:=JR.index hd rfl h fun b o _=>K b o
theorem Xzq [Dr] {c:Code} (v:Value) {L:List Ctr_} (k:Nat) [hL:HasSl Γ v Ctr_ iI L] (h:k < L.length)
  (K:∀ b o,JC P n w0 F c Q e (.st (elA v k 2 b o)::.st (ro b o [.string (L[k]'h).key, .int .i64 (L[k]'h).n])::Γ)):JC P n w0 F c Q e Γ:=JC.open_ k hL h fun b o _=>K b o
theorem Xqk [Dr] {c:Code} (v:Value) {L:List Reg_} (k:Nat) [hL:HasSl Γ v Reg_ iI L] (h:k < L.length)
  (K:∀ b o,JC P n w0 F c Q e (.st (elA v k 5 b o)::.st (ro b o [.string (L[k]'h).key, .string (L[k]'h).elem, .int .i64 (L[k]'h).gen, .int .i64 (L[k]'h).ev.node, .int .i64 (L[k]'h).ev.seq])::Γ)):JC P n w0 F c Q e Γ:=JC.open_ k hL h fun b o _=>K b o
theorem Xwj [Dr] {c:Code} (v:Value) {L:List Pair_} (k:Nat) [hL:HasSl Γ v Pair_ iI L] (h:k < L.length)
  (K:∀ b o,JC P n w0 F c Q e (.st (elA v k 4 b o)::.st (ro b o [.string (L[k]'h).key, .string (L[k]'h).elem, .int .i64 (L[k]'h).ev.node, .int .i64 (L[k]'h).ev.seq])::Γ)):JC P n w0 F c Q e Γ:=JC.open_ k hL h fun b o _=>K b o
end
instance:Ty prog 1 (TypeDesc.func #[] #[] false) 1 8 (.nilFunc):=tY underlying1
instance:Ty prog 3 (TypeDesc.int IntKind.i64) 1 8 (.int .i64 0):=tY underlying3
instance:Ty prog 4 (TypeDesc.bool) 1 1 (.bool false):=tY underlying4
instance:Ty prog 5 (TypeDesc.int IntKind.u8) 1 1 (.int .u8 0):=tY underlying5
instance:Ty prog 9 (TypeDesc.string) 1 16 (.string .empty):=tY underlying9
instance:Ty prog 22 (TypeDesc.slice 31) 1 24 (.slice none 0 0):=tY underlying22
instance:Ty prog 24 (TypeDesc.struct #[⟨ "Node", 3,0,false, "", "", 0⟩,⟨ "Seq", 3,1,false, "", "", 8⟩]) 2 16 (.agg ⟨[.int .i64 0, .int .i64 0]⟩):=tY underlying24
instance:Ty prog 26 (TypeDesc.struct #[⟨ "Kind", 3,0,false, "", "", 0⟩,⟨ "Key", 9,1,false, "", "", 8⟩,⟨ "Elem", 9,2,false, "", "", 24⟩,⟨ "N", 3,3,false, "", "", 40⟩]) 4 48 (.agg ⟨[.int .i64 0, .string .empty, .string .empty, .int .i64 0]⟩):=tY underlying26
instance:Ty prog 29 (TypeDesc.slice 72) 1 24 (.slice none 0 0):=tY underlying29
instance:Ty prog 31 (TypeDesc.struct #[⟨ "Ev", 24,0,false, "", "", 0⟩,⟨ "Gen", 3,2,false, "", "", 16⟩,⟨ "Parents", 29,3,false, "", "", 24⟩,⟨ "Op", 26,4,false, "", "", 48⟩]) 8 96 (.agg ⟨[.int .i64 0, .int .i64 0, .int .i64 0, .slice none 0 0, .int .i64 0, .string .empty, .string .empty, .int .i64 0]⟩):=tY underlying31
instance:Ty prog 34 (TypeDesc.slice 97) 1 24 (.slice none 0 0):=tY underlying34
instance:Ty prog 35 (TypeDesc.slice 91) 1 24 (.slice none 0 0):=tY underlying35
instance:Ty prog 36 (TypeDesc.slice 77) 1 24 (.slice none 0 0):=tY underlying36
instance:Ty prog 38 (TypeDesc.struct #[⟨ "C", 34,0,false, "", "", 0⟩,⟨ "R", 35,1,false, "", "", 24⟩,⟨ "P", 36,2,false, "", "", 48⟩]) 3 72 (.agg ⟨[.slice none 0 0, .slice none 0 0, .slice none 0 0]⟩):=tY underlying38
instance:Ty prog 39 (TypeDesc.int IntKind.i64) 1 8 (.int .i64 0):=tY underlying39
instance:Ty prog 47 (TypeDesc.slice 5) 1 24 (.slice none 0 0):=tY underlying47
instance:Ty prog 48 (TypeDesc.slice 3) 1 24 (.slice none 0 0):=tY underlying48
instance:Ty prog 50 (TypeDesc.struct #[⟨ "No", 3,0,false, "", "", 0⟩,⟨ "Disk", 47,1,false, "", "", 8⟩,⟨ "Room", 3,2,false, "", "", 32⟩,⟨ "L", 22,3,false, "", "", 40⟩,⟨ "Wait", 22,4,false, "", "", 64⟩,⟨ "Seq", 3,5,false, "", "", 88⟩,⟨ "Up", 4,6,false, "", "", 96⟩,⟨ "Peers", 48,7,false, "", "", 104⟩,⟨ "Next", 3,8,false, "", "", 128⟩,⟨ "Miss", 3,9,false, "", "", 136⟩]) 10 144 (.agg ⟨[.int .i64 0, .slice none 0 0, .int .i64 0, .slice none 0 0, .slice none 0 0, .int .i64 0, .bool false, .slice none 0 0, .int .i64 0, .int .i64 0]⟩):=tY underlying50
instance:Ty prog 55 (TypeDesc.func #[26] #[4] false) 1 8 (.nilFunc):=tY underlying55
instance:Ty prog 72 (TypeDesc.array 32 5) 32 32 (.agg ⟨List.replicate 32 (.int .u8 0)⟩):=tY underlying72
instance:Ty prog 77 (TypeDesc.struct #[⟨ "Key", 9,0,false, "", "", 0⟩,⟨ "Elem", 9,1,false, "", "", 16⟩,⟨ "Ev", 24,2,false, "", "", 32⟩]) 4 48 (.agg ⟨[.string .empty, .string .empty, .int .i64 0, .int .i64 0]⟩):=tY underlying77
instance:Ty prog 81 (TypeDesc.map 72 38) 1 8 (.map none):=tY underlying81
instance:Ty prog 83 (TypeDesc.struct #[⟨ "l", 22,0,false, "", "anabranch/eval", 0⟩,⟨ "done", 81,1,false, "", "anabranch/eval", 24⟩]) 2 32 (.agg ⟨[.slice none 0 0, .map none]⟩):=tY underlying83
instance:Ty prog 91 (TypeDesc.struct #[⟨ "Key", 9,0,false, "", "", 0⟩,⟨ "Elem", 9,1,false, "", "", 16⟩,⟨ "Gen", 3,2,false, "", "", 32⟩,⟨ "Ev", 24,3,false, "", "", 40⟩]) 5 56 (.agg ⟨[.string .empty, .string .empty, .int .i64 0, .int .i64 0, .int .i64 0]⟩):=tY underlying91
instance:Ty prog 94 (TypeDesc.array 4 1) 4 32 (.agg ⟨[.nilFunc, .nilFunc, .nilFunc, .nilFunc]⟩):=tY underlying94
instance:Ty prog 97 (TypeDesc.struct #[⟨ "Key", 9,0,false, "", "", 0⟩,⟨ "N", 3,1,false, "", "", 16⟩]) 2 24 (.agg ⟨[.string .empty, .int .i64 0]⟩):=tY underlying97
instance:Ty prog 100 (TypeDesc.map 72 31) 1 8 (.map none):=tY underlying100
instance:Ty prog 101 (TypeDesc.map 72 202) 1 8 (.map none):=tY underlying101
instance:Ty prog 103 (TypeDesc.struct #[⟨ "of", 100,0,false, "", "anabranch/dag", 0⟩,⟨ "knows", 101,1,false, "", "anabranch/dag", 8⟩]) 2 16 (.agg ⟨[.map none, .map none]⟩):=tY underlying103
instance:Ty prog 117 (TypeDesc.struct #[⟨ "Node", 50,0,true, "", "", 0⟩]) 10 144 (.agg ⟨[.int .i64 0, .slice none 0 0, .int .i64 0, .slice none 0 0, .slice none 0 0, .int .i64 0, .bool false, .slice none 0 0, .int .i64 0, .int .i64 0]⟩):=tY underlying117
instance:Ty prog 119 (TypeDesc.struct #[⟨ "disk", 117,0,true, "", "anabranch/branch", 0⟩]) 10 144 (.agg ⟨[.int .i64 0, .slice none 0 0, .int .i64 0, .slice none 0 0, .slice none 0 0, .int .i64 0, .bool false, .slice none 0 0, .int .i64 0, .int .i64 0]⟩):=tY underlying119
instance:Ty prog 132 (TypeDesc.map 72 4) 1 8 (.map none):=tY underlying132
instance:Ty prog 152 (TypeDesc.struct #[⟨ "may", 55,0,false, "", "anabranch/ops", 0⟩,⟨ "put", 149,1,false, "", "anabranch/ops", 8⟩,⟨ "get", 150,2,false, "", "anabranch/ops", 16⟩]) 3 24 (.agg ⟨[.nilFunc, .nilFunc, .nilFunc]⟩):=tY underlying152
instance:Ty prog 154 (TypeDesc.map 3 152) 1 8 (.map none):=tY underlying154
instance:Ty prog 160 (TypeDesc.map 9 3) 1 8 (.map none):=tY underlying160
instance:Ty prog 161 (TypeDesc.map 9 3) 1 8 (.map none):=tY underlying161
instance:Ty prog 167 (TypeDesc.map 77 3) 1 8 (.map none):=tY underlying167
instance:Ty prog 175 (TypeDesc.int IntKind.u64) 1 8 (.int .u64 0):=tY underlying175
instance:Ty prog 192 (TypeDesc.int IntKind.u64) 1 8 (.int .u64 0):=tY underlying192
instance:Ty prog 195 (TypeDesc.int IntKind.u32) 1 4 (.int .u32 0):=tY underlying195
instance:Ty prog 196 (TypeDesc.array 8 195) 8 32 (.agg ⟨[.int .u32 0, .int .u32 0, .int .u32 0, .int .u32 0, .int .u32 0, .int .u32 0, .int .u32 0, .int .u32 0]⟩):=tY underlying196
instance:Ty prog 200 (TypeDesc.array 4 5) 4 4 (.agg ⟨[.int .u8 0, .int .u8 0, .int .u8 0, .int .u8 0]⟩):=tY underlying200
instance:Ty prog 202 (TypeDesc.map 72 4) 1 8 (.map none):=tY underlying202
instance:Ty prog 219 (TypeDesc.slice 91) 1 24 (.slice none 0 0):=tY underlying219
instance:Ty prog 234 (TypeDesc.slice 47) 1 24 (.slice none 0 0):=tY underlying234
instance:Ty prog 240 (TypeDesc.slice 244) 1 24 (.slice none 0 0):=tY underlying240
instance:Ty prog 244 (TypeDesc.slice 4) 1 24 (.slice none 0 0):=tY underlying244
instance:Ty prog 254 (TypeDesc.array 8 5) 8 8 (.agg ⟨[.int .u8 0, .int .u8 0, .int .u8 0, .int .u8 0, .int .u8 0, .int .u8 0, .int .u8 0, .int .u8 0]⟩):=tY underlying254
instance:Ty prog 256 (TypeDesc.array 64 195) 64 256 (.agg ⟨List.replicate 64 (.int .u32 0)⟩):=tY underlying256
instance:Ty prog 261 (TypeDesc.slice 195) 1 24 (.slice none 0 0):=tY underlying261
instance:Ty prog 265 (TypeDesc.slice 9) 1 24 (.slice none 0 0):=tY underlying265
instance:Ty prog 284 (TypeDesc.struct #[⟨ "B", 47,0,false, "", "", 0⟩,⟨ "Bad", 4,1,false, "", "", 24⟩]) 2 32 (.agg ⟨[.slice none 0 0, .bool false]⟩):=tY underlying284
instance:Ty prog 291 (TypeDesc.struct #[]) 0 0 (.agg ⟨[]⟩):=tY underlying291
instance:Ty prog 295 (TypeDesc.struct #[⟨ "b", 47,0,false, "", "anabranch/commit", 0⟩]) 1 24 (.agg ⟨[.slice none 0 0]⟩):=tY underlying295
instance:Ty prog 306 (TypeDesc.slice 29) 1 24 (.slice none 0 0):=tY underlying306
instance:Ty prog 324 (TypeDesc.slice 36) 1 24 (.slice none 0 0):=tY underlying324
instance:Fld prog 24 0 0:=Fld.mk' (ft:=3) rfl rfl
instance:Fld prog 24 1 1:=Fld.mk' (ft:=3) rfl rfl
instance:Fld prog 26 0 0:=Fld.mk' (ft:=3) rfl rfl
instance:Fld prog 26 1 1:=Fld.mk' (ft:=9) rfl rfl
instance:Fld prog 26 2 2:=Fld.mk' (ft:=9) rfl rfl
instance:Fld prog 26 3 3:=Fld.mk' (ft:=3) rfl rfl
instance:Fld prog 31 0 0:=Fld.mk' (ft:=24) rfl rfl
instance:Fld prog 31 1 2:=Fld.mk' (ft:=3) rfl rfl
instance:Fld prog 31 2 3:=Fld.mk' (ft:=29) rfl rfl
instance:Fld prog 31 3 4:=Fld.mk' (ft:=26) rfl rfl
instance:Fld prog 38 0 0:=Fld.mk' (ft:=34) rfl rfl
instance:Fld prog 38 1 1:=Fld.mk' (ft:=35) rfl rfl
instance:Fld prog 38 2 2:=Fld.mk' (ft:=36) rfl rfl
instance:Fld prog 50 0 0:=Fld.mk' (ft:=3) rfl rfl
instance:Fld prog 50 1 1:=Fld.mk' (ft:=47) rfl rfl
instance:Fld prog 50 2 2:=Fld.mk' (ft:=3) rfl rfl
instance:Fld prog 50 3 3:=Fld.mk' (ft:=22) rfl rfl
instance:Fld prog 50 4 4:=Fld.mk' (ft:=22) rfl rfl
instance:Fld prog 50 5 5:=Fld.mk' (ft:=3) rfl rfl
instance:Fld prog 50 6 6:=Fld.mk' (ft:=4) rfl rfl
instance:Fld prog 50 7 7:=Fld.mk' (ft:=48) rfl rfl
instance:Fld prog 50 8 8:=Fld.mk' (ft:=3) rfl rfl
instance:Fld prog 50 9 9:=Fld.mk' (ft:=3) rfl rfl
instance:Fld prog 77 0 0:=Fld.mk' (ft:=9) rfl rfl
instance:Fld prog 77 1 1:=Fld.mk' (ft:=9) rfl rfl
instance:Fld prog 77 2 2:=Fld.mk' (ft:=24) rfl rfl
instance:Fld prog 83 0 0:=Fld.mk' (ft:=22) rfl rfl
instance:Fld prog 83 1 1:=Fld.mk' (ft:=81) rfl rfl
instance:Fld prog 91 0 0:=Fld.mk' (ft:=9) rfl rfl
instance:Fld prog 91 1 1:=Fld.mk' (ft:=9) rfl rfl
instance:Fld prog 91 2 2:=Fld.mk' (ft:=3) rfl rfl
instance:Fld prog 91 3 3:=Fld.mk' (ft:=24) rfl rfl
instance:Fld prog 97 0 0:=Fld.mk' (ft:=9) rfl rfl
instance:Fld prog 97 1 1:=Fld.mk' (ft:=3) rfl rfl
instance:Fld prog 103 0 0:=Fld.mk' (ft:=100) rfl rfl
instance:Fld prog 103 1 1:=Fld.mk' (ft:=101) rfl rfl
instance:Fld prog 117 0 0:=Fld.mk' (ft:=50) rfl rfl
instance:Fld prog 119 0 0:=Fld.mk' (ft:=117) rfl rfl
instance:Fld prog 152 0 0:=Fld.mk' (ft:=55) rfl rfl
instance:Fld prog 284 0 0:=Fld.mk' (ft:=47) rfl rfl
instance:Fld prog 284 1 1:=Fld.mk' (ft:=4) rfl rfl
instance:Fld prog 295 0 0:=Fld.mk' (ft:=47) rfl rfl
instance:Plain prog 24:=⟨by kernel_rfl,by kernel_rfl⟩
instance:Plain prog 26:=⟨by kernel_rfl,by kernel_rfl⟩
instance:Plain prog 31:=⟨by kernel_rfl,by kernel_rfl⟩
instance:Plain prog 38:=⟨by kernel_rfl,by kernel_rfl⟩
instance:Plain prog 50:=⟨by kernel_rfl,by kernel_rfl⟩
instance:Plain prog 71:=⟨by kernel_rfl,by kernel_rfl⟩
instance:Plain prog 72:=⟨by kernel_rfl,by kernel_rfl⟩
instance:Plain prog 77:=⟨by kernel_rfl,by kernel_rfl⟩
instance:Plain prog 83:=⟨by kernel_rfl,by kernel_rfl⟩
instance:Plain prog 91:=⟨by kernel_rfl,by kernel_rfl⟩
instance:Plain prog 94:=⟨by kernel_rfl,by kernel_rfl⟩
instance:Plain prog 97:=⟨by kernel_rfl,by kernel_rfl⟩
instance:Plain prog 103:=⟨by kernel_rfl,by kernel_rfl⟩
instance:Plain prog 117:=⟨by kernel_rfl,by kernel_rfl⟩
instance:Plain prog 119:=⟨by kernel_rfl,by kernel_rfl⟩
instance:Plain prog 152:=⟨by kernel_rfl,by kernel_rfl⟩
instance:Plain prog 196:=⟨by kernel_rfl,by kernel_rfl⟩
instance:Plain prog 200:=⟨by kernel_rfl,by kernel_rfl⟩
instance:Plain prog 254:=⟨by kernel_rfl,by kernel_rfl⟩
instance:Plain prog 256:=⟨by kernel_rfl,by kernel_rfl⟩
instance:Plain prog 284:=⟨by kernel_rfl,by kernel_rfl⟩
instance:Plain prog 291:=⟨by kernel_rfl,by kernel_rfl⟩
instance:Plain prog 295:=⟨by kernel_rfl,by kernel_rfl⟩
instance:Plain prog 344:=⟨by kernel_rfl,by kernel_rfl⟩
instance:NotBlank "Elem" := ⟨by decide⟩
instance:NotBlank "Ev" := ⟨by decide⟩
instance:NotBlank "Key" := ⟨by decide⟩
instance:NotBlank "Kind" := ⟨by decide⟩
instance:NotBlank "N" := ⟨by decide⟩
instance:NotBlank "Node" := ⟨by decide⟩
instance:NotBlank "Seq" := ⟨by decide⟩
instance:MKey prog 3 intV:=MKey.int (by kernel_rfl)
instance:MKey prog 72 idV:=MKey.id (e:=5) ⟨by kernel_rfl,by kernel_rfl,by kernel_rfl,by kernel_rfl⟩ (by kernel_rfl) ⟨356,by kernel_rfl⟩
instance:Body prog 12:=bO func12
instance:Body prog 13:=bO func13
instance:Body prog 14:=bO func14
instance:Body prog 15:=bO func15
instance:Body prog 17:=bO func17
instance:Body prog 19:=bO func19
instance:Body prog 20:=bO func20
instance:Body prog 21:=bO func21
instance:Body prog 22:=bO func22
instance:Body prog 23:=bO func23
instance:Body prog 24:=bO func24
instance:Body prog 25:=bO func25
instance:Body prog 26:=bO func26
instance:Body prog 27:=bO func27
instance:Body prog 28:=bO func28
instance:Body prog 29:=bO func29
instance:Body prog 30:=bO func30
instance:Body prog 31:=bO func31
instance:Body prog 32:=bO func32
instance:Body prog 33:=bO func33
instance:Body prog 34:=bO func34
instance:Body prog 36:=bO func36
instance:Body prog 38:=bO func38
instance:Body prog 39:=bO func39
instance:Body prog 40:=bO func40
instance:Body prog 41:=bO func41
instance:Body prog 42:=bO func42
instance:Body prog 43:=bO func43
instance:Body prog 44:=bO func44
instance:Body prog 45:=bO func45
instance:Body prog 46:=bO func46
instance:Body prog 47:=bO func47
instance:Body prog 48:=bO func48
instance:Body prog 49:=bO func49
instance:Body prog 50:=bO func50
instance:Body prog 51:=bO func51
instance:Body prog 52:=bO func52
instance:Body prog 53:=bO func53
instance:Body prog 54:=bO func54
instance:Body prog 55:=bO func55
instance:Body prog 59:=bO func59
instance:Body prog 60:=bO func60
instance:Body prog 62:=bO func62
instance:Body prog 63:=bO func63
instance:Body prog 64:=bO func64
instance:Body prog 65:=bO func65
instance:Body prog 66:=bO func66
instance:Body prog 67:=bO func67
instance:Body prog 68:=bO func68
instance:Body prog 69:=bO func69
instance:Body prog 70:=bO func70
instance:Body prog 71:=bO func71
instance:Body prog 72:=bO func72
instance:Body prog 73:=bO func73
instance:Body prog 74:=bO func74
instance:Body prog 75:=bO func75
instance:Body prog 76:=bO func76
instance:Body prog 77:=bO func77
instance:Body prog 78:=bO func78
instance:Body prog 79:=bO func79
instance:Body prog 80:=bO func80
instance:Body prog 81:=bO func81
instance:Body prog 82:=bO func82
instance:Body prog 83:=bO func83
instance:Body prog 84:=bO func84
instance:Body prog 85:=bO func85
instance:Body prog 86:=bO func86
instance:Body prog 87:=bO func87
instance:Body prog 88:=bO func88
instance:Body prog 89:=bO func89
instance:Body prog 90:=bO func90
instance:Body prog 91:=bO func91
instance:Body prog 92:=bO func92
instance:Body prog 93:=bO func93
instance:Body prog 94:=bO func94
instance:Body prog 95:=bO func95
instance:Body prog 96:=bO func96
instance:Body prog 97:=bO func97
instance:Body prog 98:=bO func98
instance:Body prog 99:=bO func99
instance:Body prog 100:=bO func100
instance:Body prog 101:=bO func101
instance:Body prog 102:=bO func102
instance:Body prog 103:=bO func103
instance:Body prog 104:=bO func104
instance:Body prog 105:=bO func105
instance:Body prog 106:=bO func106
instance:Body prog 107:=bO func107
instance:Body prog 108:=bO func108
instance:Body prog 109:=bO func109
instance:Body prog 110:=bO func110
instance:Body prog 111:=bO func111
instance:Body prog 112:=bO func112
instance:Body prog 113:=bO func113
instance:Body prog 114:=bO func114
instance:Body prog 115:=bO func115
instance:Body prog 116:=bO func116
instance:Body prog 117:=bO func117
instance:Body prog 118:=bO func118
instance:Body prog 119:=bO func119
instance:Body prog 120:=bO func120
instance:Body prog 122:=bO func122
instance:Body prog 123:=bO func123
instance:Body prog 125:=bO func125
instance:Body prog 126:=bO func126
instance:Body prog 127:=bO func127
instance:Body prog 128:=bO func128
instance:Body prog 129:=bO func129
instance:Body prog 130:=bO func130
instance:Body prog 131:=bO func131
instance:Body prog 132:=bO func132
instance:Body prog 133:=bO func133
instance:Body prog 134:=bO func134
instance:Body prog 135:=bO func135
instance:Body prog 136:=bO func136
instance:Body prog 137:=bO func137
instance:Body prog 138:=bO func138
instance:Body prog 139:=bO func139
instance:Body prog 140:=bO func140
instance:Body prog 141:=bO func141
instance:Body prog 142:=bO func142
instance:Body prog 143:=bO func143
instance:Body prog 144:=bO func144
instance:Body prog 145:=bO func145
instance:Body prog 146:=bO func146
instance:Body prog 147:=bO func147
instance:Body prog 148:=bO func148
instance:Body prog 149:=bO func149
instance:Body prog 150:=bO func150
instance:Body prog 151:=bO func151
instance:Body prog 152:=bO func152
instance:Body prog 153:=bO func153
instance:Body prog 154:=bO func154
instance:Body prog 155:=bO func155
instance:Body prog 156:=bO func156
instance:Body prog 157:=bO func157
instance:Body prog 158:=bO func158
instance:Body prog 159:=bO func159
instance:Body prog 160:=bO func160
instance:Body prog 161:=bO func161
instance:Body prog 162:=bO func162
instance:Body prog 163:=bO func163
instance:Body prog 164:=bO func164
instance:Body prog 165:=bO func165
instance:Body prog 166:=bO func166
instance:Body prog 167:=bO func167
instance:Body prog 168:=bO func168
instance:Body prog 169:=bO func169
instance:Body prog 170:=bO func170
instance:Body prog 171:=bO func171
instance:Body prog 172:=bO func172
instance:Body prog 173:=bO func173
instance:Body prog 174:=bO func174
instance:Body prog 175:=bO func175
instance:Body prog 176:=bO func176
instance:Body prog 177:=bO func177
instance:Body prog 178:=bO func178
instance:Body prog 179:=bO func179
instance:Body prog 180:=bO func180
instance:Body prog 190:=bO func190
instance:Body prog 191:=bO func191
instance:Body prog 192:=bO func192
instance:Body prog 193:=bO func193
instance:Body prog 194:=bO func194
instance:Body prog 195:=bO func195
instance:Body prog 196:=bO func196
instance:Body prog 197:=bO func197
instance:Body prog 198:=bO func198
instance:Body prog 199:=bO func199
instance:Body prog 200:=bO func200
instance:Body prog 201:=bO func201
instance:Body prog 202:=bO func202
instance:Body prog 203:=bO func203
instance:Body prog 204:=bO func204
instance:Body prog 205:=bO func205
instance:Body prog 206:=bO func206
instance:Body prog 207:=bO func207
instance:Body prog 208:=bO func208
instance:Body prog 209:=bO func209
instance:Body prog 210:=bO func210
instance:Body prog 211:=bO func211
instance:Body prog 212:=bO func212
instance:Body prog 213:=bO func213
instance:Body prog 214:=bO func214
instance:Body prog 215:=bO func215
instance:Body prog 216:=bO func216
instance:Body prog 217:=bO func217
instance:Body prog 218:=bO func218
instance:Body prog 219:=bO func219
instance:Body prog 221:=bO func221
instance:Body prog 223:=bO func223
instance:Body prog 224:=bO func224
instance:Body prog 225:=bO func225
instance:Body prog 226:=bO func226
instance:Body prog 227:=bO func227
instance:Body prog 228:=bO func228
instance:Body prog 229:=bO func229
instance:Body prog 230:=bO func230
instance:Body prog 231:=bO func231
instance:Body prog 232:=bO func232
instance:Body prog 233:=bO func233
instance:Body prog 234:=bO func234
instance:Body prog 235:=bO func235
instance:Body prog 236:=bO func236
instance:Body prog 237:=bO func237
instance:Body prog 238:=bO func238
instance:Body prog 239:=bO func239
instance:Body prog 241:=bO func241
instance:Body prog 247:=bO func247
instance:Body prog 248:=bO func248
instance:Body prog 249:=bO func249
instance:Body prog 250:=bO func250
instance:Body prog 251:=bO func251
instance:Body prog 252:=bO func252
instance:Body prog 253:=bO func253
instance:Body prog 254:=bO func254
instance:Body prog 255:=bO func255
instance:Body prog 256:=bO func256
instance:Body prog 257:=bO func257
instance:Body prog 258:=bO func258
instance:Body prog 259:=bO func259
instance:Body prog 260:=bO func260
instance:Body prog 261:=bO func261
instance:Body prog 262:=bO func262
instance:Body prog 263:=bO func263
instance:Body prog 264:=bO func264
instance:Body prog 265:=bO func265
instance:Body prog 266:=bO func266
instance:Body prog 267:=bO func267
instance:Body prog 268:=bO func268
instance:Body prog 269:=bO func269
instance:Body prog 280:=bO func280
instance:Body prog 281:=bO func281
instance:Body prog 282:=bO func282
instance:Body prog 283:=bO func283
instance:Body prog 284:=bO func284
instance:Body prog 285:=bO func285
instance:Body prog 287:=bO func287
instance:Body prog 288:=bO func288
instance:Body prog 289:=bO func289
instance:Body prog 300:=bO func300
instance:Body prog 302:=bO func302
instance:Body prog 303:=bO func303
instance:Body prog 304:=bO func304
instance:Body prog 305:=bO func305
instance:Body prog 306:=bO func306
instance:Body prog 307:=bO func307
instance:Body prog 308:=bO func308
instance:Body prog 309:=bO func309
instance:Body prog 313:=bO func313
instance:Body prog 314:=bO func314
instance:Body prog 320:=bO func320
instance drOff:Dr:=⟨False⟩
theorem mixed:prog.follows .mixedOrders=true:=Checked.mixed Tryz.checked
def Xrt (a b:ID):Int:=Lib.compareBytes a.1 b.1
def idLt (a b:ID):Bool:=decide (Xrt a b < 0)
theorem Xn1 (a b:List UInt8):Lib.compareBytes a b < 0↔a < b:=by
 induction a generalizing b with
 | nil=>cases b <;> simp [Lib.compareBytes]
 | cons x a ih =>
  cases b with
  | nil=>simp [Lib.compareBytes]
  | cons y b =>
   rw [List.cons_lt_cons_iff]
   unfold Lib.compareBytes
   by_cases h1:x < y
   ·simp [h1]
   ·by_cases h2:y < x
    ·have:¬ x=y:=fun e=>by subst e; exact h1 h2
     simp [h1,h2,this]
    ·have:x=y:=UInt8.le_antisymm (UInt8.not_lt.1 h2) (UInt8.not_lt.1 h1)
     subst this
     simp [ih]
theorem Xm1 (a b:ID):idLt a b=true↔a.1 < b.1:=by simp [idLt,Xrt,Xn1]
theorem Xn2 (a:ID):idLt a a=false:=by
 rw [← Bool.not_eq_true,Xm1]; exact List.lt_irrefl _
theorem Xql {a b c:ID} (h1:idLt a b=true) (h2:idLt b c=true):idLt a c=true:=by
 rw [Xm1] at *; exact List.lt_trans h1 h2
theorem Xk4 {a b:ID} (h1:idLt a b=false) (h2:idLt b a=false):a=b:=by
 rw [← Bool.not_eq_true,Xm1] at *
 exact Subtype.ext (List.le_antisymm (List.not_lt.1 h2) (List.not_lt.1 h1))
theorem Xzr {a b:ID} (h:idLt a b=true):idLt b a=false:=by
 cases hb:idLt b a with
 | false=>rfl
 | true=>have:=Xql h hb; rw [Xn2] at this; cases this
theorem Xk5 {a b c:ID} (h1:idLt b a=false) (h2:idLt c b=false):idLt c a=false:=by
 rw [← Bool.not_eq_true,Xm1] at *
 exact List.not_lt.2 (List.le_trans (List.not_lt.1 h1) (List.not_lt.1 h2))
def Xdf (L:List ID):List ID:=L.mergeSort (fun x y=>!idLt y x)
theorem Xhz (L:List ID):(Xdf L).length=L.length:=by simp [Xdf]
theorem Xco (L:List ID):(Xdf L).Pairwise (fun x y=>idLt y x=false):=by
 have:=List.pairwise_mergeSort (le:=fun x y=>!idLt y x) (fun a b c h1 h2=>by simp at *; exact Xk5 h1 h2) (fun a b=>by
  cases h:idLt b a with
  | false=>simp
  | true=>simp [Xzr h]) L
 simpa [Xdf] using this
theorem Xdg (L:List ID):(Xdf L).Perm L:=List.mergeSort_perm _ _
theorem Xhb {L M:List ID} (h:L.Perm M) (h1:L.Pairwise (fun x y=>idLt y x=false)) (h2:M.Pairwise (fun x y=>idLt y x=false)):L=M :=
 List.Perm.eq_of_pairwise (le:=fun x y=>idLt y x=false) (fun a b _ _ h1 h2=>Xk4 h2 h1) h1 h2 h
theorem Xzs {L M:List ID} (h:L.Perm M):Xdf L=Xdf M :=
 Xhb (((Xdg L).trans h).trans (Xdg M).symm) (Xco L) (Xco M)
theorem Xh0 {L:List ID} {x:ID}:x∈Xdf L↔x∈L:=(Xdg L).mem_iff
def Xiy:List ID→Bool
 | a::b::l=>idLt a b && Xiy (b::l)
 | _=>true
def X19:List UInt8:=[97,98,99,100,101,102,103,104,105,106,107,108,109,110,111,112,113,114,115,116,117,118,119,120,121,122,48,49,50,51,52,53,54,55,56,57]
def Xdh (s:ByteArray):Bool:=s.data.toList.all (fun c=>decide (c∈X19)) && decide (s.size≠0) && decide (s.size≤8)
def inB (n lo hi:Int):Bool:=decide (lo≤n) && decide (n≤hi)
def op0:Op_:=⟨0, .empty, .empty,0⟩
def Xc0 (o:Op_):Bool :=
 if o.kind=0 then Xdh o.key && (decide (o.n≠0) && decide (-1048576≤o.n) && decide (o.n≤1048576) && decide (o.elem = .empty))
 else if o.kind=1∨o.kind=2∨o.kind=3 then Xdh o.key && (decide (o.n=0) && Xdh o.elem)
 else false
def may (c:Commit):Bool :=
 if !inB c.gen 1 1048576 || decide (8 < c.parents.length) || !Xiy c.parents || (decide (c.gen=1) != decide (c.parents.length=0)) then false
 else if c.ev.node = -1 then decide (2≤c.parents.length) && decide (c.ev.seq=0) && decide (c.op=op0)
 else inB c.ev.node 0 7 && inB c.ev.seq 1 1048576 && Xc0 c.op
def merge (c:Commit):Bool:=decide (c.ev.node = -1) && may c
section
attribute [local irreducible] JC JO JR JQ andThen inBlock OpV Gives Xah JM JS
theorem Xcv {α:Type} [Cell α] {c:Nat} {L:List α} {F:Nat→Prop} {w:World} (h:(sl none c L).holds F w):L=[]:=by
 by_cases hL:L=[]
 ·exact hL
 ·obtain ⟨b,off,h1,_⟩:=h.2.2.2 hL; cases h1
theorem Xj4 (a:Option Addr) (c:Nat) (L:List ID) (h:(sl a c L).holds F w) (hl:L.length≤34359738368) :
  GivesBuf prog 125 [.slice a L.length c] w F 72 L:=by
 refine Xaa func125 rfl ntmps125 rfl rfl [.st (sl a c L)] (.start1 h) ?_
 refine wA ?_
 refine JC.test (fun ha=>?_) (fun ha=>?_)
 ·cases a with
  | some a=>cases ha
  | none =>
   obtain rfl:=Xcv h
   refine wz9 ?_
   exact CT.done (none,0) rfl (fun w ho=>ho.bufNil)
 ·refine wz14 ?_
  refine Xhw (α:=ID) rfl ?_
  intro a2
  refine wz6 ?_
  refine Xbc rfl (by exact ⟨rfl,rfl,by decide⟩) (by simpa using hl) ?_
  intro a3 c3
  rw [List.nil_append]
  refine wz10 ?_
  exact Xac (a3,c3) rfl
theorem Xt4 (a:Option Addr) (c:Nat) (L:List ID) (h:(sl a c L).holds F w) (hl:L.length≤34359738368) :
  Xdd prog 125 [.slice a L.length c] w F L:=(Xj4 w F a c L h hl).sl
theorem X2a (a b:Option Addr) (c k:Nat) (L M:List ID) (h:(sl a c L).holds F w) (h':(sl b k M).holds F w) :
  GivesV prog 217 [.slice a L.length c, .slice b M.length k] w F (.bool (decide (L=M))):=by
 have hL:L.length < 9223372036854775807:=by have:=h.2.2.1; simp only [lim] at this; omega
 refine Xaa func217 rfl ntmps217 rfl rfl [.st (sl a c L), .st (sl b k M)] (.start2 h h') ?_
 refine wA ?_
 refine JC.test (fun hne=>?_) (fun he=>?_)
 ·refine wz9 ?_
  refine Xac () ?_
  have:¬ L=M:=fun h=>hne (by rw [h])
  simp [Xad,this]
 ·have hlen:L.length=M.length:=by omega
  refine wA ?_
  refine Xao (fun k0:Nat=>[(0, .slice a L.length c),(1, .slice b M.length k),(12, .int .i64 (L.length:Int)),(13, .int .i64 (k0:Int))]) (fun _=>[.st (sl a c L), .st (sl b k M)])
   (fun k0=>k0≤L.length∧L.take k0=M.take k0) (fun k0=>L.length - k0) 0 ⟨Nat.zero_le _,rfl⟩ iI ?_
  intro k0 ⟨hk,heq⟩
  refine wz11 ?_
  refine JC.test (fun hlt=>?_) (fun hge=>?_)
  ·have hlt':k0 < L.length:=by omega
   refine wz7 ?_
   refine Xer (.slice a L.length c) k0 hlt' ?_
   intro b1 o1
   refine Xer (.slice b M.length k) k0 (by omega) ?_
   intro b2 o2
   refine Xbw mixed (by kernel_rfl) ?_
   refine wQ ?_
   refine wz13 ?_
   refine JC.test (fun hne=>?_) (fun heq2=>?_)
   ·refine wz5 ?_
    refine Xac () ?_
    have:¬ L=M:=fun h=>by subst h; exact hne rfl
    simp [Xad,this]
   ·refine wz2 ?_
    refine ⟨k0+1,⟨by omega,?_⟩,by omega,iI⟩
    have heq2:L[k0]=M[k0]:=by simpa using heq2
    rw [List.take_succ_eq_append_getElem hlt',List.take_succ_eq_append_getElem (by omega),heq,heq2]
  ·have hk0:k0=L.length:=by omega
   refine wz3 ?_
   refine Xac () ?_
   have:L=M:=by
    rw [List.take_of_length_le (by omega),List.take_of_length_le (by omega)] at heq
    exact heq
   simp [Xad,this]
def idxV:Option Nat→Int
 | some i=>(i:Int)
 | none=>-1
theorem Xf2 {α:Type} (p:α→Bool) (L:List α) (k:Nat) (hk:k < L.length) (h:(L.take k).findIdx? p=none) :
  (p L[k]=true→L.findIdx? p=some k)∧(p L[k]=false→(L.take (k+1)).findIdx? p=none):=by
 have h1:L=L.take k++L[k]::L.drop (k+1):=by
  conv=>lhs; rw [← List.take_append_drop k L]
  rw [List.drop_eq_getElem_cons hk]
 constructor
 ·intro hp
  have h2:L.findIdx? p=(L.take k++L[k]::L.drop (k+1)).findIdx? p:=by rw [← h1]
  rw [h2,List.findIdx?_append,h]
  rw [List.findIdx?_cons,if_pos hp]
  simp [Nat.min_eq_left (Nat.le_of_lt hk)]
 ·intro hp
  rw [List.take_succ_eq_append_getElem hk,List.findIdx?_append,h]
  simp [List.findIdx?_cons,hp]
def Asks (P:Program) (w:World) (L:List Commit) (fid:FuncId) (caps:List Value) (p:Commit→Bool):Prop :=
 ∀ (w':World) (G:Nat→Prop) (x:Commit) (a:Option Addr) (q:Nat),x∈L→Bel w.heap.size w w'→(sl a q x.parents).holds G w'→GivesV P fid (.agg ⟨Xg5 x a q⟩::caps) w' G (.bool (p x))
theorem Xgo (a:Option Addr) (c:Nat) (L:List Commit) (h:(sl a c L).holds F w) (fid:FuncId) (caps:List Value) [Body prog fid] (p:Commit→Bool) (hp:Asks prog w L fid caps p) :
  GivesV prog 247 [.slice a L.length c, .func (.func fid) ⟨[]⟩ ⟨caps⟩] w F (.int .i64 (idxV (L.findIdx? p))):=by
 have hL:L.length < 9223372036854775807:=by have:=h.2.2.1; simp only [lim] at this; omega
 refine Xaa func247 rfl ntmps247 rfl rfl [.st (sl a c L)] (.start1 h) ?_
 refine wz4 ?_
 refine Xao (fun k:Nat=>[(0, .slice a L.length c),(1, .func (.func fid) ⟨[]⟩ ⟨caps⟩),(7, .int .i64 (L.length:Int)),(8, .int .i64 (k:Int))]) (fun _=>[.st (sl a c L)])
  (fun k=>k≤L.length∧(L.take k).findIdx? p=none) (fun k=>L.length - k) 0 ⟨Nat.zero_le _,by simp⟩ iI ?_
 intro k ⟨hk,hno⟩
 refine wz11 ?_
 refine JC.test (fun hlt=>?_) (fun hge=>?_)
 ·have hlt':k < L.length:=by omega
  have hft:=Xf2 p L k hlt' hno
  refine wz7 ?_
  refine Xaq rfl hlt' ?_
  intro b o p' q'
  refine wz6 ?_
  refine JR.callV rfl (fun w1 hw=>hp w1 _ L[k] p' q' (List.getElem_mem _) hw.below (hw.get)) ?_
  refine wz10 ?_
  refine JC.test (fun hy=>?_) (fun hn=>?_)
  ·refine wz5 ?_
   refine Xac () ?_
   rw [hft.1 hy]; rfl
  ·refine wz2 ?_
   exact ⟨k+1,⟨by omega,hft.2 (by simpa using hn)⟩,by omega,iI⟩
 ·have hk0:k=L.length:=by omega
  refine wz3 ?_
  refine Xac () ?_
  rw [List.take_of_length_le (by omega)] at hno
  rw [hno]; rfl
theorem Xiz (a:Option Addr) (c:Nat) (L:List Commit) (h:(sl a c L).holds F w) (fid:FuncId) (caps:List Value) [Body prog fid] (p:Commit→Bool) (hp:Asks prog w L fid caps p) :
  GivesV prog 192 [.slice a L.length c, .func (.func fid) ⟨[]⟩ ⟨caps⟩] w F (.bool (L.any p)):=by
 refine Xaa func192 rfl ntmps192 rfl rfl [.st (sl a c L)] (.start1 h) ?_
 refine wz10 ?_
 refine JR.callV rfl (fun w1 hw=>Xgo w1 _ a c L hw.get fid caps p (fun w' G x b q hx hb hs=>hp w' G x b q hx ((hw.below).trans (hb.mono hw.below.size)) hs)) ?_
 refine wz10 ?_
 refine Xac () ?_
 simp only [Xad]
 congr 1
 cases hf:L.findIdx? p with
 | none =>
  have:L.any p=false:=by
   rw [List.any_eq_false]
   intro x hx
   have:=List.findIdx?_eq_none_iff.1 hf x hx
   simpa using this
  simp [idxV,this]
 | some i =>
  have:L.any p=true:=by
   obtain ⟨hi,h1,_⟩:=List.findIdx?_eq_some_iff_getElem.1 hf
   exact List.any_eq_true.2 ⟨L[i],List.getElem_mem hi,h1⟩
  simp [idxV,this]
theorem X2b (a:Option Addr) (c:Nat) (L:List ID) (x:ID) (h:(sl a c L).holds F w) :
  GivesV prog 218 [.slice a L.length c, .agg ⟨idc x⟩] w F (.int .i64 (idxV (L.findIdx? (fun y=>decide (x=y))))):=by
 have hL:L.length < 9223372036854775807:=by have:=h.2.2.1; simp only [lim] at this; omega
 refine Xaa func218 rfl ntmps218 rfl rfl [.st (sl a c L)] (.start1 h) ?_
 (repeat (refine wE ?_; intro _)); refine wA ?_
 rename_i bx
 refine Xao (fun k:Nat=>[(0, .slice a L.length c),(3, .pointer (some ⟨bx,0,none⟩)),(7, .int .i64 (L.length:Int)),(8, .int .i64 (k:Int))]) (fun _=>[.own bx 72 (idc x), .st (sl a c L)])
  (fun k=>k≤L.length∧(L.take k).findIdx? (fun y=>decide (x=y))=none) (fun k=>L.length - k) 0 ⟨Nat.zero_le _,by simp⟩ iI ?_
 intro k ⟨hk,hno⟩
 refine wz11 ?_
 refine JC.test (fun hlt=>?_) (fun hge=>?_)
 ·have hlt':k < L.length:=by omega
  have hft:=Xf2 _ L k hlt' hno
  refine wz7 ?_
  refine Xer (.slice a L.length c) k hlt' ?_
  intro b o
  refine Xbw mixed (by kernel_rfl) ?_
  refine wQ ?_
  refine wz13 ?_
  refine JC.test (fun hy=>?_) (fun hn=>?_)
  ·refine wz5 ?_
   refine Xac () ?_
   rw [hft.1 (by simpa using hy)]; rfl
  ·refine wz2 ?_
   exact ⟨k+1,⟨by omega,hft.2 (by simpa using hn)⟩,by omega,iI⟩
 ·have hk0:k=L.length:=by omega
  refine wz3 ?_
  refine Xac () ?_
  rw [List.take_of_length_le (by omega)] at hno
  rw [hno]; rfl
theorem Xt5 (a:Option Addr) (c:Nat) (L:List ID) (x:ID) (h:(sl a c L).holds F w) :
  GivesV prog 144 [.slice a L.length c, .agg ⟨idc x⟩] w F (.bool (decide (x∈L))):=by
 refine Xaa func144 rfl ntmps144 rfl rfl [.st (sl a c L)] (.start1 h) ?_
 (repeat (refine wE ?_; intro _)); refine wA ?_
 refine JR.callV rfl (fun w1 hw=>X2b w1 _ a c L x hw.get) ?_
 refine wz10 ?_
 refine Xac () ?_
 simp only [Xad]
 congr 1
 cases hf:L.findIdx? (fun y=>decide (x=y)) with
 | none =>
  have:¬ x∈L:=fun hx=>by
   have:=List.findIdx?_eq_none_iff.1 hf x hx
   simp at this
  simp [idxV,this]
 | some i =>
  have:x∈L:=by
   obtain ⟨hi,h1,_⟩:=List.findIdx?_eq_some_iff_getElem.1 hf
   rw [of_decide_eq_true h1]; exact List.getElem_mem hi
  simp [idxV,this]
theorem Xwk (a:Option Addr) (c:Nat) (L:List ID) (x:ID) (h:(sl a c L).holds F w) :
  GivesV prog 84 [.slice a L.length c, .agg ⟨idc x⟩] w F (.bool (decide (x∈L))):=by
 refine Xaa func84 rfl ntmps84 rfl rfl [.st (sl a c L)] (.start1 h) ?_
 (repeat (refine wE ?_; intro _)); refine wA ?_
 refine JR.callV rfl (fun w1 hw=>Xt5 w1 _ a c L x hw.get) ?_
 refine wz10 ?_
 exact Xac () rfl
theorem Xf3 (w:World) {a b:Option Addr} {c k:Nat} {L M:List UInt8} {F G:Nat→Prop} (h:(sl a c L).holds F w) (h':(sl b k M).holds G w) :
  (callFunc 124 ⟨[.slice a L.length c, .slice b M.length k]⟩).run prog w = .ok (.value (.int .i64 (Lib.compareBytes L M))) w:=by
 rw [run_callFunc_extern func124 (by kernel_rfl) (by kernel_rfl) (by kernel_rfl) (e:=Extern.BytealgCompare.compare) (by kernel_rfl)]
 have:(Extern.BytealgCompare.compare ⟨[.slice a L.length c, .slice b M.length k]⟩).run prog w = .ok (.int .i64 (Lib.compareBytes L M)) w:=by
  change Sem.run prog (do pure (goInt (Extern.BytealgCompare.cmp (← Extern.Bytes.bytesOf (.slice a L.length c)) (← Extern.Bytes.bytesOf (.slice b M.length k))))) w=_
  simp only [Sem.run_bind,Xno h,Xno h',Result.andThen_ok,Sem.run_pure,Lib.cmp_eq,goInt]
 rw [this]; rfl
theorem Xru [Dr] (a b:Option Addr) (c k:Nat) (L M:List UInt8) (h:(sl a c L).holds F w) (h':(sl b k M).holds F w) :
  GivesV prog 64 [.slice a L.length c, .slice b M.length k] w F (.int .i64 (Lib.compareBytes L M)):=by
 refine Xaa func64 rfl ntmps64 rfl rfl [.st (sl a c L), .st (sl b k M)] (.start2 h h') ?_
 refine wz10 ?_
 refine Wf (Xkz fun w1 hw=>Xf3 w1 hw.get hw.get) rfl ?_
 refine wz10 ?_
 exact Xac () rfl
theorem X2c [Dr] (a b:ID):GivesV prog 148 [.agg ⟨idc a⟩, .agg ⟨idc b⟩] w F (.int .i64 (Xrt a b)):=by
 refine Xaa func148 rfl ntmps148 rfl rfl [] (.start w F) ?_
 (repeat (refine wE ?_; intro _)); refine wA ?_
 rename_i bx by_
 refine Xbw mixed (by kernel_rfl) ?_
 refine Wy rfl (Xdl (by decide)) rfl ?_
 refine Wy rfl (Xdl (by decide)) rfl ?_
 refine JQ.call (v:=.int .i64 (Xrt a b)) rfl rfl (fun w1 hw=>?_) ?_
 ·have:=(Xru w1 (fun _=>True) (some ⟨bx,0,none⟩) (some ⟨by_,0,none⟩) 32 32 a.1 b.1
   (At.sl_bytes (Γ:=[.own by_ _ (idc b), .own bx _ (idc a)]) iI rfl hw a.2 (by decide)) (At.sl_bytes (Γ:=[.own by_ _ (idc b), .own bx _ (idc a)]) iI rfl hw b.2 (by decide))).any (G:=fp w F [.own by_ 72 (idc b), .own bx 72 (idc a)])
  rw [a.2,b.2] at this
  exact this
 refine wQ ?_
 refine wz13 ?_
 exact Xac () rfl
theorem X50 (a b:ID):GivesV prog 158 [.agg ⟨idc a⟩, .agg ⟨idc b⟩] w F (.bool (idLt a b)):=by
 refine Xaa func158 rfl ntmps158 rfl rfl [] (.start w F) ?_
 (repeat (refine wE ?_; intro _)); refine wA ?_
 refine JR.callV rfl (fun w1 hw=>X2c w1 _ a b) ?_
 refine wA ?_
 exact Xac () rfl
theorem Xzt (L:List ID) (k:Nat) (h1:1≤k) (hk:k < L.length) (h:Xiy (L.take k)=true):Xiy (L.take (k+1))=idLt L[k - 1] L[k]∧(idLt L[k - 1] L[k]=false→Xiy L=false):=by
 induction L generalizing k with
 | nil=>simp at hk
 | cons a L ih =>
  cases L with
  | nil=>simp at hk; omega
  | cons b L =>
   match k,h1 with
   | 1,_ =>
    refine ⟨by simp [Xiy],fun h=>?_⟩
    simp at h
    simp [Xiy,h]
   | k+2,_ =>
    have h':idLt a b=true∧Xiy ((b::L).take (k+1))=true:=by
     simpa [Xiy] using h
    obtain ⟨i1,i2⟩:=ih (k+1) (by omega) (by simpa using hk) h'.2
    refine ⟨?_,fun hf=>?_⟩
    ·simp only [List.take_succ_cons,Xiy,h'.1,Bool.true_and] at i1 ⊢
     simpa using i1
    ·have:=i2 (by simpa using hf)
     simp [Xiy,h'.1,this]
theorem Xn3 (L:List ID) (h:L.length≤1):Xiy L=true:=by
 match L with
 | []=>rfl
 | [_]=>rfl
 | _::_::_=>simp at h
theorem X2d (a:Option Addr) (c:Nat) (L:List ID) (h:(sl a c L).holds F w) :
  GivesV prog 98 [.slice a L.length c] w F (.bool (Xiy L)):=by
 have hL:L.length < 9223372036854775807:=by have:=h.2.2.1; simp only [lim] at this; omega
 refine Xaa func98 rfl ntmps98 rfl rfl [.st (sl a c L)] (.start1 h) ?_
 refine wz4 ?_
 refine JC.reslot 3 (.int .i64 ((1:Nat):Int)) rfl ?_
 refine Xao (fun k:Nat=>[(0, .slice a L.length c),(3, .int .i64 (k:Int))]) (fun _=>[.st (sl a c L)])
  (fun k=>1≤k∧(k≤L.length∨k=1)∧Xiy (L.take k)=true) (fun k=>L.length+1 - k) 1 ⟨Nat.le_refl _, .inr rfl,Xn3 _ (by simp; omega)⟩ iI ?_
 intro k ⟨h1,hk,hr⟩
 refine wz11 ?_
 refine JC.test (fun hlt=>?_) (fun hge=>?_)
 ·have hlt':k < L.length:=by omega
  have hr':=Xzt L k h1 hlt' hr
  refine wz14 ?_
  refine Xer (.slice a L.length c) (k - 1) (by omega) ?_
  intro b1 o1
  refine Xer (.slice a L.length c) k hlt' ?_
  intro b2 o2
  refine Xbw mixed (by kernel_rfl) ?_
  refine wQ ?_
  refine JQ.call rfl rfl (fun w1 hw=>X50 w1 _ _ _) ?_
  refine wQ ?_
  refine wz13 ?_
  refine JC.test (fun hne=>?_) (fun heq2=>?_)
  ·refine wz5 ?_
   refine Xac () ?_
   simp [Xad,hr'.2 (by simpa using hne)]
  ·refine wz2 ?_
   exact ⟨k+1,⟨by omega, .inl (by omega),by rw [hr'.1]; simpa using heq2⟩,by omega,iI⟩
 ·refine wz3 ?_
  refine Xac () ?_
  have:Xiy L=true:=by
   rcases hk with hk | hk
   ·rwa [List.take_of_length_le (by omega)] at hr
   ·exact Xn3 L (by omega)
  simp [Xad,this]
theorem Xfy (w:World) (s:ByteArray) (c:UInt8) :
  (callFunc 286 ⟨[.string s, .int .u8 (c.toNat:Int)]⟩).run prog w = .ok (.value (.int .i64 (Lib.indexByte s.data.toList c))) w:=by
 rw [run_callFunc_extern func286 (by kernel_rfl) (by kernel_rfl) (by kernel_rfl) (e:=Extern.BytealgIndexByte.indexByte) (by kernel_rfl),Lib.run_indexByteString]
 simp
theorem Xrv (s:ByteArray) (c:UInt8):GivesV prog 235 [.string s, .int .u8 (c.toNat:Int)] w F (.int .i64 (Lib.indexByte s.data.toList c)):=by
 refine Xaa func235 rfl ntmps235 rfl rfl [] (.start w F) ?_
 refine wz10 ?_
 refine Wf (Xkz fun w1 hw=>Xfy w1 s c) rfl ?_
 refine wz10 ?_
 exact Xac () rfl
theorem Xk6 (s:ByteArray) (c:UInt8):GivesV prog 174 [.string s, .int .u8 (c.toNat:Int)] w F (.int .i64 (Lib.indexByte s.data.toList c)):=by
 refine Xaa func174 rfl ntmps174 rfl rfl [] (.start w F) ?_
 refine wz10 ?_
 refine JR.callV rfl (fun w1 hw=>Xrv w1 _ s c) ?_
 refine wz10 ?_
 exact Xac () rfl
theorem Xj5 (l:List UInt8) (c:UInt8):Lib.indexByte l c < 0↔c∉l:=by
 induction l with
 | nil=>simp [Lib.indexByte]
 | cons b l ih =>
  have:=Lib.indexByte_ge l c
  unfold Lib.indexByte
  by_cases hb:b=c
  ·simp [hb]
  ·have hb':¬ c=b:=fun h=>hb h.symm
   simp only [beq_iff_eq,hb,if_false,List.mem_cons,hb',false_or]
   split
   ·rename_i h; rw [← ih]; simp [h]
   ·rename_i h; rw [← ih]; omega
theorem Xe0 (s:ByteArray) (hs:s.size < 4611686018427387904):GivesV prog 106 [.string s] w F (.bool (Xdh s)):=by
 refine Xaa func106 rfl ntmps106 rfl rfl [] (.start w F) ?_
 refine wA ?_
 refine Xao (fun k:Nat=>[(0, .string s),(5, .int .i64 (s.size:Int)),(6, .int .i64 (k:Int))]) (fun _=>[])
  (fun k=>k≤s.size∧(s.data.toList.take k).all (fun c=>decide (c∈X19))=true) (fun k=>s.size - k) 0 ⟨Nat.zero_le _,by simp⟩ iI ?_
 intro k ⟨hk,hin⟩
 have hlen:s.data.toList.length=s.size:=rfl
 refine wz11 ?_
 refine JC.test (fun hlt=>?_) (fun hge=>?_)
 ·have hlt':k < s.size:=by omega
  have hget:s.data.toList[k]'(by omega)=s[k]:=rfl
  refine wz7 ?_
  refine Wf (OpV.indexStr hlt') rfl ?_
  refine wz13 ?_
  refine JR.callV rfl (fun w1 hw=>Xk6 w1 _ _ _) ?_
  refine wz11 ?_
  refine JC.test (fun hneg=>?_) (fun hpos=>?_)
  ·refine wz5 ?_
   refine Xac () ?_
   have h1:=(Xj5 _ _).1 hneg
   have h2:s.data.toList.all (fun c=>decide (c∈X19))=false:=by
    rw [List.all_eq_false]
    exact ⟨s[k],by rw [← hget]; exact List.getElem_mem _,fun h=>h1 (of_decide_eq_true h)⟩
   simp [Xad,Xdh,h2]
  ·have h1:s[k]∈X19:=Classical.not_not.1 (mt (Xj5 _ _).2 hpos)
   refine wz2 ?_
   refine ⟨k+1,⟨by omega,?_⟩,by omega,iI⟩
   rw [List.take_succ_eq_append_getElem (by omega),List.all_append,hin,hget]
   simp [h1]
 ·have hall:s.data.toList.all (fun c=>decide (c∈X19))=true:=by
   rwa [List.take_of_length_le (by omega)] at hin
  refine wA ?_
  refine JO.test 17 (fun h=>?_) (fun h=>?_)
  ·refine wA ?_
   refine Xac () ?_
   have:s.size≠0:=fun h0=>h (by apply ByteArray.ext; apply Array.eq_empty_of_size_eq_zero; exact h0)
   simp only [Xad,Xdh,hall,Bool.true_and,this,decide_true,ne_eq,not_false_eq_true]
   simp
   omega
  ·refine wz8 ?_
   refine Xac () ?_
   have:s.size=0:=by
    have h:s=ByteArray.mk #[]:=by simpa using h
    rw [h]; rfl
   simp [Xad,Xdh,this]
theorem Xn4 (n lo hi:Int):GivesV prog 97 [.int .i64 n, .int .i64 lo, .int .i64 hi] w F (.bool (inB n lo hi)):=by
 refine Xaa func97 rfl ntmps97 rfl rfl [] (.start w F) ?_
 refine wz10 ?_
 refine JO.test 10 (fun h=>?_) (fun h=>?_)
 ·refine wA ?_
  exact Xac () (by simp [Xad,inB,h])
 ·refine wz8 ?_
  exact Xac () (by simp [Xad,inB,h])
end
section
variable {P:Program} {n:Nn} {w0:World} {F:Nat→Prop} {i d:Nat} {t:TypeId} {pos:String} {aft:Array Edge} {g:Option (Nat × Bool)} {Q:Cont} {e:E} {Γ:List Fact} [Dr]
def X2e (ops:List Oper) (e:E):Option (Nat × Bool)→Bool
 | none=>false
 | some (j,_) =>
  match ops[j]? with
  | some o=>match o.dst with
   | some d=>match look e d with
    | some (.tuple _)=>true
    | _=>false
   | none=>false
  | none=>false
end
section
variable {P:Program} {n:Nn} {w0:World} {F:Nat→Prop} {i d:Nat} {t:TypeId} {pos:String} {aft:Array Edge} {g:Option (Nat × Bool)} {Q:Cont} {e:E} {Γ:List Fact}
theorem Xrw {ops:List Oper} {e:E} {o:Oper} {a:Act} (h:X2e ops e o.guard=true) (fr:Fr n e a):Region.wanted o (yielded ⟨ops⟩ a.tmps)=false:=by
 unfold X2e at h
 unfold Region.wanted
 split at h
 ·cases h
 ·rename_i j want hg
  rw [hg]
  split at h
  ·rename_i o' ho'
   split at h
   ·rename_i d hd
    split at h
    ·rename_i b hb
     have:=fr.slot _ _ hb
     simp only [yielded]
     have e1:((⟨ops⟩:Array Oper)[j]?)=some o':=by simpa using ho'
     rw [e1]
     simp [hd,this]
    ·cases h
   ·cases h
  ·cases h
theorem Wx [Dr] {ops:List Oper} {op:Op} {os:List Oper} (hg:X2e ops e g=true) (hd:Nat.blt d n.s=true)
  (h:JO P n w0 F ⟨ops⟩ (i+1) os Q ((d,undef)::e) Γ):JO P n w0 F ⟨ops⟩ i (⟨some d,op,t,pos,aft,g⟩::os) Q e Γ:=by
 intro hdr a w fr ho
 obtain ⟨h1,h2⟩:=Xea hdr
 simp only [List.length_cons,List.range'_succ,wpOps]
 rw [h1]
 simp only [Xrw (o:=⟨some d,op,t,pos,aft,g⟩) hg fr,Bool.false_eq_true,if_false]
 exact h h2 _ w (fr.put hd _) ho
theorem WA [Dr] {ops os:List Oper} {K:E→Prop} {op:Op} (hg:X2e ops e g=true) (hd:Nat.blt d n.s=true) (k:JQ P n w0 F ops os K ((d,undef)::e) Γ) :
  JQ P n w0 F ops (⟨some d,op,t,pos,aft,g⟩::os) K e Γ:=by
 intro a fr
 unfold wpQuiet
 rw [Xrw (o:=⟨some d,op,t,pos,aft,g⟩) hg fr,if_neg (by decide)]
 exact k _ (fr.put hd _)
end
section
attribute [local irreducible] JC JO JR JQ andThen inBlock OpV Gives Xah JM JS
def Xjf (n:Nat) (p:Nat→Bool):Bool:=(List.range n).all p
theorem Xn5 {n i:Nat} {p:Nat→Bool} (hi:i < n) (h:p i=false):Xjf n p=false:=by
 rw [← Bool.not_eq_true]
 intro ha
 have:=List.all_eq_true.1 ha i (List.mem_range.2 hi)
 rw [h] at this; cases this
theorem Xk7 {i:Nat} {p:Nat→Bool} (h:Xjf i p=true) (h':p i=true):Xjf (i+1) p=true:=by
 unfold Xjf at *
 rw [List.range_succ,List.all_append,h]
 simpa using h'
def Xmk (L:List Ctr_) (i:Nat):Bool :=
 match L[i]? with
 | some c=>Xdh c.key && decide (c.n≠0) && (match L[i - 1]? with | some b=>decide (i=0) || Xax b.key c.key | none=>true)
 | none=>true
def Xdp (L:List Ctr_):Bool:=Xjf L.length (Xmk L)
theorem Xm2 {L:List Ctr_} {i:Nat} (h:i < L.length):Xmk L i=(Xdh L[i].key && decide (L[i].n≠0) && (decide (i=0) || Xax (L[i - 1]'(by omega)).key L[i].key)):=by
 unfold Xmk
 rw [List.getElem?_eq_getElem h,List.getElem?_eq_getElem (show i - 1 < L.length by omega)]
theorem Xn6 (a:Option Addr) (k:Nat) (L:List Ctr_) (h:(sl a k L).holds F w) (hs:∀ c∈L,c.key.size < 4611686018427387904) :
  GivesV prog 102 [.slice a L.length k] w F (.bool (Xdp L)):=by
 have hL:L.length < 9223372036854775807:=by have:=h.2.2.1; simp only [lim] at this; omega
 unfold Xdp
 refine Xaa func102 rfl ntmps102 rfl rfl [.st (sl a k L)] (.start1 h) ?_
 refine wz4 ?_
 refine Xao (fun (i:Nat)=>[(0, .slice a L.length k),(5, .slice a L.length k),(6, .int .i64 (L.length:Int)),(7, .int .i64 (i:Int))])
  (fun _=>[.st (sl a k L)]) (fun i=>i≤L.length∧Xjf i (Xmk L)=true) (fun i=>L.length - i) 0 ⟨Nat.zero_le _,rfl⟩ iI ?_
 rintro i ⟨hi,hall⟩
 refine wz11 ?_
 refine JC.test (fun hlt=>?_) (fun hge=>?_)
 ·have hlt':i < L.length:=by omega
  have hat:=Xm2 hlt'
  have hcut:=Xn5 (p:=Xmk L) hlt'
  have hck:=hs _ (List.getElem_mem hlt')
  obtain ⟨c,hc⟩:∃ c,c=L[i]:=⟨_,rfl⟩
  rw [← hc] at hat hck
  refine wz14 ?_
  refine Xg9 rfl hlt' ?_
  intro b3 o3
  rw [← hc]
  (repeat (refine wE ?_; intro _)); refine wA ?_
  rename_i bc
  obtain ⟨j,hj⟩:∃ j,j=i - 1:=⟨_,rfl⟩
  have hjl:j < L.length:=by omega
  refine Xdz (fun _:Unit=>[(0, .slice a L.length k),(5, .slice a L.length k),(6, .int .i64 (L.length:Int)),(7, .int .i64 (i:Int)),(35, .bool (!Xmk L i))]) (fun _=>[.st (sl a k L)]) ?_ ?_
  ·refine Xzq (L:=L) (.slice a L.length k) j hjl ?_
   intro b4 o4
   obtain ⟨p,hp⟩:∃ p,p=L[j]:=⟨_,rfl⟩
   rw [← hp]
   have hat':Xmk L i=(Xdh c.key && decide (c.n≠0) && (decide (i=0) || Xax p.key c.key)):=by rw [hat,hp]; simp only [hj]
   refine Xbw mixed (by kernel_rfl) ?_
   refine wY ?_
   refine JQ.call rfl rfl (fun w1 hw=>Xe0 w1 _ c.key hck) ?_
   cases hk:Xdh c.key with
   | false =>
    refine JQ.reslot 14 (.bool false) rfl ?_
    refine wY ?_
    rw [show Xmk L i=false by rw [hat',hk]; rfl,Bool.not_false]
    exact ⟨rfl,(),iI⟩
   | true =>
   refine JQ.reslot 14 (.bool true) rfl ?_
   refine wY ?_
   by_cases hn:c.n=0
   ·refine JQ.reslot 21 (.bool true) (by congr 1; exact decide_eq_true hn) ?_
    refine wY ?_
    rw [show Xmk L i=false by rw [hat',hk,hn]; rfl,Bool.not_false]
    exact ⟨rfl,(),iI⟩
   refine JQ.reslot 21 (.bool false) (by congr 1; exact decide_eq_false hn) ?_
   refine wY ?_
   by_cases h0:i=0
   ·refine JQ.reslot 24 (.bool false) (by congr 1; exact decide_eq_false (by omega)) ?_
    refine wY ?_
    rw [show Xmk L i=true by rw [hat',hk,decide_eq_true h0,decide_eq_true hn]; rfl,Bool.not_true]
    exact ⟨rfl,(),iI⟩
   refine JQ.reslot 24 (.bool true) (by congr 1; exact decide_eq_true (by omega)) ?_
   refine wY ?_
   refine JQ.reslot 29 (.int .i64 (j:Int)) (by congr 1; omega) ?_
   refine wY ?_
   refine Wy rfl Xqi rfl ?_
   refine wY ?_
   rw [show Xmk L i=Xax p.key c.key by rw [hat',hk,decide_eq_false h0,decide_eq_true hn]; rfl]
   exact ⟨rfl,(),iI⟩
  rintro ⟨⟩
  cases hx:Xmk L i with
  | false =>
   refine wz8 ?_
   refine Xac () ?_
   simp only [Xad]
   rw [hcut hx]
  | true =>
  refine wz2 ?_
  exact ⟨i+1,⟨by omega,Xk7 hall hx⟩,by omega,iI⟩
 ·obtain rfl:i=L.length:=by omega
  refine wz3 ?_
  refine Xac () ?_
  simp only [Xad]
  rw [hall]
end
abbrev strV (s:ByteArray):Value:=.string s
theorem X8d (a:ByteArray):(a == a)=true:=by
 cases a with
 | mk d=>show (d == d)=true; simp
open Go.MapKept in
theorem MKey.str {P:Program} {k:TypeId} (hu:P.underlying k=some .string):MKey P k strV:=by
 refine ⟨fun a b h=>?_,fun w em a=>?_,fun w a es hes=>?_,fun w a=>?_⟩
 ·simpa [strV] using h
 ·exact run_checkKey hu (by simp [IsKey,strV]) em 9999
 ·have hk:IsKey .string (strV a):=by simp [IsKey,strV]
  have:=findNow_spec hk es 0 (fun x hx=>by obtain ⟨c,hc⟩:=hes x hx; rw [hc]; simp [IsKey,strV])
  rcases this with ⟨h1,h2⟩ | ⟨j,x,h1,h2,h3⟩
  ·exact .inl ⟨run_findKey hu h1,h2⟩
  ·exact .inr ⟨j,x,by simpa using run_findKey hu h1,h2,h3⟩
 ·simp [Instr.keyThatStays,Instr.sameBits,strV,X8d]
section
variable {P:Program} {n:Nn} {w0:World} {F:Nat→Prop} {Q:Cont} {e:E} {Γ:List Fact}
theorem Xwl [Dr] {c:Code} {a0:Option Addr} {k:Nat} {el:TypeId} {L:List ByteArray} (hne:L≠[])
  (h:∀ b junk,a0=some ⟨b,0,none⟩→L.length+junk.length=k→k≤maxLen→L.length≤lim→JC P n w0 F c Q e (.own b el (L.map strV++junk)::Γ)):JC P n w0 F c Q e (.res (buf a0 k el L)::Γ):=by
 intro a w fr ho
 have hs:(buf a0 k el L).holds (fp w0 F (.res (buf a0 k el L)::Γ)) w:=ho.sat (.res (buf a0 k el L)) (by simp)
 have hs0:=hs
 obtain ⟨h0,r,h1,h2,h3⟩:=hs0
 rcases h2.2 with ⟨hv,hn⟩ | ⟨g,cap,cur,hv,_,hg,hnc,hcm,hcs,ht⟩
 ·injection hv with e1 e2 e3
  exact absurd (List.eq_nil_of_length_eq_zero e2) hne
 ·injection hv with e1 e2 e3
  subst e1 e3
  obtain ⟨q,cur',q0,q1,q2,qg,qnc,qcm,qcs,qt⟩:=Xg6 hs
  rw [hg] at qg
  injection qg with qg
  injection qg with qg
  subst qg
  have hsz:cur.toList.length=k:=by rw [Array.length_toList,hcs]; show k * 1=k; omega
  have hfl:flat q=L.map strV:=by
   rw [← q1]
   clear q1 q2 qt qnc q0
   induction q with
   | nil=>rfl
   | cons p q ih=>obtain ⟨x,y⟩:=p; simp only [flat,List.map_cons]; rw [ih]; rfl
  have hql:q.length=L.length:=by rw [← q1,List.length_map]
  have htk:cur.toList.take L.length=L.map strV:=by
   rw [← hfl,← qt]; congr 1; show L.length=_ * 1; omega
  have hcur:L.map strV++cur.toList.drop L.length=cur.toList:=by rw [← htk,List.take_append_drop]
  refine h g (cur.toList.drop L.length) rfl (by rw [List.length_drop]; omega) hcm h0 a w fr ?_
  have hown:∀ j,(Fact.res (buf (some ⟨g,0,none⟩) k el L)).owns j↔j=g:=by
   intro j
   constructor
   ·rintro ⟨a',ha',rfl⟩; injection ha' with ha'; subst ha'; rfl
   ·rintro rfl; exact ⟨_,rfl,rfl⟩
  refine ⟨ho.below,fun f hf=>?_,?_,fun f hf j hj=>?_⟩
  ·rcases List.mem_cons.1 hf with rfl | hf
   ·show w.heap[g]? = _
    rw [hcur]
    exact hg
   ·refine Fact.sat_keep (ho.sat f (List.mem_cons_of_mem _ hf)) (fun j hj _=>⟨hj.1,fun f' hf'=>?_⟩) (fun _ _ _=>rfl)
    rcases List.mem_cons.1 hf' with rfl | hf'
    ·intro h9
     exact hj.2 _ (List.mem_cons_self ..) ((hown j).2 h9)
    ·exact hj.2 f' (List.mem_cons_of_mem _ hf')
  ·have hd:=ho.dis
   rw [List.pairwise_cons] at hd ⊢
   exact ⟨fun f hf j hj=>hd.1 f hf j ⟨(hown j).2 hj.1,hj.2⟩,hd.2⟩
  ·rcases List.mem_cons.1 hf with rfl | hf
   ·exact ho.new _ (List.mem_cons_self ..) j ((hown j).2 hj)
   ·exact ho.new f (List.mem_cons_of_mem _ hf) j hj
end
section
variable {P:Program} {n:Nn} {w0:World} {F:Nat→Prop} {ops:Array Oper} {i d:Nat} {t:TypeId} {pos:String} {aft:Array Edge} {g:Option (Nat × Bool)} {os:List Oper} {Q:Cont} {e:E} {Γ:List Fact}
theorem Xff [Dr] {d:Option Nat} {x ix:Operand} {kk:IntKind} {j:Int} {k m c:Nat} {ty el:TypeId} {ed:TypeDesc} {sz by_ eb b:Nat} {z ez:Value} [hx:Ev e x (.slice (some ⟨b,0,none⟩) m c)] [hi:Ev e ix (.int kk j)] [hk:NatI j k] [hT:Ty P ty (.slice el) sz by_ z] [hE:Ty P el ed 1 eb ez] (h:k < m) :
  OpV P n w0 F ⟨d, .indexAddr ty x ix,t,pos,aft,g⟩ e Γ (.pointer (some ⟨b,k,none⟩)) :=
 fun a w fr ho=>by
  have e1:=Xav (P:=P) (t:=ty) w
  have e2:=Xbf (P:=P) (t:=el) w
  have hj:=hk.ok
  subst hj
  simp [execOp,hx.ok n a fr,hi.ok n a fr,Instr.indexAt,e1,e2,asIntOf,Addr.add_mid,h]
theorem Xhc [Dr] {d:Option Nat} {x:Operand} {ty bt:TypeId} {by_ b o:Nat} {z:Value} {vs:List Value} {v:ByteArray} {Δ:List Fact} [hx:Ev e x (.pointer (some ⟨b,o,none⟩))] [hO:Own Γ b bt vs Δ] [hT:Ty P ty (.string) 1 by_ z] (h:vs[o]? = some (strV v)) :
  OpV P n w0 F ⟨d, .load ty x,t,pos,aft,g⟩ e Γ (strV v) :=
 fun a w fr ho=>by
  have hw:w.heap[b]? = some (.cells vs.toArray bt (0,0)):=(ho.perm hO.ok).sat (.own b bt vs) (by simp)
  have hr:w.rangeAt b o [strV v]:=fun j u hj=>by
   cases j with
   | zero =>
    simp only [List.getElem?_cons_zero,Option.some.injEq] at hj
    subst hj
    rw [Nat.add_zero,cell_of_row w b _ _ _ _ hw]
    simpa using h
   | succ j=>simp at hj
  have hv:Val (.string) [strV v] (strV v):=iI
  simp [execOp,hx.ok n a fr,Xfj (P:=P) (t:=ty) (v:=strV v) hr rfl]
theorem Xn7 [Dr] {x y:Operand} {ty bt:TypeId} {by_ b o:Nat} {z:Value} {vs:List Value} {v:ByteArray} {Δ:List Fact} [hx:Ev e x (.pointer (some ⟨b,o,none⟩))] [hy:Ev e y (strV v)] [hO:Own Γ b bt vs Δ] [hT:Ty P ty (.string) 1 by_ z] (h:o < vs.length)
  (k:JO P n w0 F ops (i+1) os Q e (.own b bt (vs.set o (strV v))::Δ)):JR P n w0 F ops i ⟨none, .store ty x y,t,pos,aft,g⟩ os Q e Γ :=
 Xeq fun a w fr ho=>by
  have ho':=ho.perm hO.ok
  have hw:w.heap[b]? = some (.cells vs.toArray bt (0,0)):=ho'.sat (.own b bt vs) (by simp)
  have hset:o + [strV v].length≤vs.length∧vs.take o++[strV v]++vs.drop (o + [strV v].length)=vs.set o (strV v):=by
   refine ⟨by simp; omega,?_⟩
   rw [List.set_eq_take_append_cons_drop,if_pos h]
   simp
  refine ⟨.skip,w.setRow b (vs.set o (strV v)).toArray,_, .inl rfl,?_,ho'.setRow,k⟩
  have hc:Cel (strV v) [strV v]:=iI
  have h1:One [strV v]:=iI
  simp [execOp,hx.ok n a fr,hy.ok n a fr,Xdv (P:=P) (ty:=ty) (cs:=[strV v]) (r:=vs.set o (strV v)) hw rfl hset]
end
section
variable {w0:World} {F:Nat→Prop} {Γ:List Fact}
theorem Hold.pubStrs [Dr] {w:World} {b k:Nat} {el:TypeId} {L:List ByteArray} {junk:List Value} (h:Hold w0 F (.own b el (L.map strV++junk)::Γ) w) (hjk:L.length+junk.length=k) (hmax:k≤maxLen) (hlim:L.length≤lim):Hold w0 F (.st (sl (some ⟨b,0,none⟩) k L)::Γ) w:=by
 have hs:w.heap[b]? = some (.cells (L.map strV++junk).toArray el (0,0)):=h.sat (.own b el (L.map strV++junk)) (by simp)
 refine h.publish fun hk=>?_
 refine ⟨by omega,hmax,hlim,fun hne=>⟨b,0,rfl,hk b (.inr rfl),(Array.getElem?_eq_some_iff.1 hs).1,fun i hi=>⟨(),?_,by simp [Cell.facts]⟩⟩⟩
 intro j v hj
 simp only [Cell.cells,List.getElem?_singleton] at hj
 split at hj
 ·rename_i h0; subst h0
  injection hj with hj
  subst hj
  rw [cell_of_row w b _ _ _ _ hs]
  simp [Cell.sz,hi,List.getElem?_append_left]
 ·cases hj
end
class W32 (p:Int) (a:outParam UInt32):Prop where
 ok:p=(a.toNat:Int)
instance (priority:=1000) {a:UInt32}:W32 (a.toNat:Int) a:=⟨rfl⟩
instance:W32 (16777216:Int) 16777216:=⟨rfl⟩
instance:W32 (65536:Int) 65536:=⟨rfl⟩
instance:W32 (256:Int) 256:=⟨rfl⟩
instance:W32 (1024:Int) 1024:=⟨rfl⟩
instance:W32 (8:Int) 8:=⟨rfl⟩
class W64 (p:Int) (a:outParam UInt64):Prop where
 ok:p=(a.toNat:Int)
instance (priority:=1000) {a:UInt64}:W64 (a.toNat:Int) a:=⟨rfl⟩
instance:W64 (256:Int) 256:=⟨rfl⟩
instance:W64 (128:Int) 128:=⟨rfl⟩
instance:W64 (127:Int) 127:=⟨rfl⟩
instance:W64 (8:Int) 8:=⟨rfl⟩
instance:W64 (2:Int) 2:=⟨rfl⟩
instance:W64 (1:Int) 1:=⟨rfl⟩
theorem JR.reslot [Dr] {P:Program} {n:Nn} {w0:World} {F:Nat→Prop} {ops:Array Oper} {i:Nat} {o:Oper} {os:List Oper} {Q:Cont} {e:E} {Γ:List Fact} (s:Nat) {v:Value} (u:Value) [hs:Lk e s v] (h:v=u) (k:JR P n w0 F ops i o os Q ((s,u)::e) Γ):JR P n w0 F ops i o os Q e Γ :=
 fun hd a w fr ho=>k hd a w (fr.again (by rw [← h]; exact hs.ok)) ho
theorem JR.reown [Dr] {P:Program} {n:Nn} {w0:World} {F:Nat→Prop} {ops:Array Oper} {i:Nat} {o:Oper} {os:List Oper} {Q:Cont} {e:E} {Γ:List Fact} {bt:TypeId} {vs:List Value} {Δ:List Fact} (b:Nat) (us:List Value) [h:Own Γ b bt vs Δ] (he:vs=us) (k:JR P n w0 F ops i o os Q e (.own b bt us::Δ)):JR P n w0 F ops i o os Q e Γ :=
 JR.more (fun w ho=>by subst he; exact ho.perm h.ok) k
theorem Xrx [Dr] {P:Program} {n:Nn} {w0:World} {F:Nat→Prop} {t:TypeId} {pos:String} {aft:Array Edge} {g:Option (Nat × Bool)} {e:E} {Γ:List Fact} {x lo hi':Operand} {a0:Option Addr} {m c l h s:Nat} {kk k2:IntKind} {j j2:Int} {ty el:TypeId} {ed:TypeDesc} {sz by_ es eb:Nat} {z ez:Value} {d:Option Nat}
  [hx:Ev e x (.slice a0 m c)] [hi:Ev e lo (.int kk j)] [hk:NatI j l] [hi2:Ev e hi' (.int k2 j2)] [hk2:NatI j2 h] [hT:Ty P ty (.slice el) sz by_ z] [hE:Ty P el ed es eb ez] (hes:es=s) (hh:∀ w,Hold w0 F Γ w→l≤h∧h≤c) :
  OpV P n w0 F ⟨d, .slice ty x (some lo) (some hi') none,t,pos,aft,g⟩ e Γ (.slice (Xgm a0 c l s) (h - l) (c - l)) :=
 fun a w fr ho=>by
  have hlc:=hh w ho
  have h1:=Xav (P:=P) (t:=ty) w
  have h2:=Xbf (P:=P) (t:=el) w
  have hj:=hk.ok
  have hj2:=hk2.ok
  subst hj hj2 hes
  have hb:(Instr.sliceBound (.int k2 (h:Int)) c .sliceAcap).run P w = .ok h w:=by
   simp [Instr.sliceBound,asIntOf]
   omega
  have hb2:(Instr.sliceBound (.int kk (l:Int)) h .sliceB).run P w = .ok l w:=by
   simp [Instr.sliceBound,asIntOf]
   omega
  simp [execOp,hx.ok n a fr,hi.ok n a fr,hi2.ok n a fr,Instr.sliceAt,Instr.slice,h1,h2,Instr.sliceBounds,hb,hb2,Xgm]
  by_cases hck:c=l
  ·simp [hck]
  ·rw [if_neg hck,if_neg (by omega)]
section
variable {P:Program} {n:Nn} {w0:World} {F:Nat→Prop} {d:Option Nat} {t:TypeId} {pos:String} {aft:Array Edge} {g:Option (Nat × Bool)} {e:E} {Γ:List Fact}
 {x y:Operand} {ty yt:TypeId}
end
abbrev pan (v:Value):List PanicEntry:=[{ v:=v,recovered:=false }]
section
variable {P:Program} {n:Nn} {w0:World} {F:Nat→Prop} {ops:Array Oper} {i:Nat} {t:TypeId} {pos:String} {aft:Array Edge} {g:Option (Nat × Bool)} {os:List Oper} {Q:Cont} {e:E} {Γ:List Fact}
theorem Xc9 [Dr] {dst:Option Nat} {f:Operand} {args:Array Operand} {ats:Array TypeId} {fid:FuncId} {caps vs us:List Value} {ch:List PanicEntry} {Γp:List Fact}
  [hf:Fun e f fid caps] [hv:ArgVs e args.toList vs] [hu:App vs caps us] [hb:Body P fid]
  (hg:∀ w,Hold w0 F Γ w→Calls P fid ⟨us⟩ w fun x w'=>x = .panicked ch∧Hold w0 F Γp w') (k:Q (.panic ch) e Γp) :
  JR P n w0 F ops i ⟨dst, .call ⟨.value f,args,ats⟩,t,pos,aft,g⟩ os Q e Γ:=by
 intro hdr a w fr ho
 unfold Oper.wp
 rw [Xf0 fr hf hv hu hb]
 refine Calls.mono (hg w ho) ?_
 rintro x w' ⟨rfl,ho'⟩
 exact ⟨e,Γp,k,fr,ho'⟩
theorem JR.panic [Dr] {dst:Option Nat} {x:Operand} {ty:TypeId} {v:Value} [hx:Ev e x (.iface ty v)] (k:Q (.panic (pan (.iface ty v))) e Γ) :
  JR P n w0 F ops i ⟨dst, .panic x,t,pos,aft,g⟩ os Q e Γ:=by
 intro hdr a w fr ho
 unfold Oper.wp
 have h1:(execOp a.eval ⟨dst, .panic x,t,pos,aft,g⟩).run P w = .halt (.panic (.iface ty v)) w:=by
  simp only [execOp,hx.ok n a fr,Sem.run_bind,run_panic_iface]
  rfl
 rw [h1]
 exact ⟨e,Γ,k,fr,ho⟩
end
section
variable {w0:World} {F:Nat→Prop} {Q:Cont} {e:E} {Γ:List Fact} {next:E→List Fact→Prop} {c:List PanicEntry}
theorem CT.panic (h:Q (.panic c) e Γ):andThen next Q (.panic c) e Γ:=h
theorem Xa0 {id:Nat} (h:Q (.panic c) e Γ):inBlock id Q (.panic c) e Γ:=h
end
section
variable {P:Program} {w0:World} {F:Nat→Prop} {e:E} {Γ:List Fact} [Dr]
def X9d (w0:World) (F:Nat→Prop) (ch:List PanicEntry) (B:List Fact):Cont:=fun x e Γ=>x = .panic ch∧∀ w,Hold w0 F Γ w→Hold w0 F B w
theorem Xd0 {rs:List ResultVar} {vs:List Value} {Y:Type} {v:Y→Value} {B:Y→List Fact} (y:Y) [hr:ResVs P e Γ rs vs] (hv:Xad vs=v y) (hB:∀ w,Hold w0 F Γ w→Hold w0 F (B y) w):Xah P w0 F rs v B .normal e Γ :=
 ⟨.inr rfl,y,vs,hr,hv,hB⟩
theorem Xj6 {rs:List ResultVar} {vs:List Value} {Y:Type} {v:Y→Value} {B:Y→List Fact} (y:Y) [hr:ResVs P e Γ rs vs] (hv:Xad vs=v y) [hB:Sub Γ (B y)]:Xah P w0 F rs v B .normal e Γ:=Xd0 y hv fun w ho=>ho.sub hB
theorem CT.gone {ch:List PanicEntry} {B:List Fact} (h:∀ w,Hold w0 F Γ w→Hold w0 F B w):X9d w0 F ch B (.panic ch) e Γ:=⟨rfl,h⟩
theorem Xj7 {f:FuncId} {fn:Func} {c:Code} {args:List Value} {w:World} {ch:List PanicEntry} {B:List Fact} {m:Nat}
  (hf:P.funcs[f]? = some fn) (hb:fn.body=some c) (hn:fn.ntmps=m) (hl:Nat.ble args.length m=true) (Γ:List Fact) (ho:Hold w0 F Γ w)
  (h:JC P ⟨m,[]⟩ w0 F c (X9d w0 F ch B) (enum 0 args) Γ):Calls P f ⟨args⟩ w fun x w'=>x = .panicked ch∧Hold w0 F B w':=by
 refine calls_of_wp hf hb ?_
 rw [hn]
 refine wp_mono (h _ w (Fr.start hl) ho) ?_
 rintro x a w' ⟨e,Γ',⟨rfl,hB⟩,fr,ho'⟩
 exact ⟨fr.defers,rfl,hB w' ho'⟩
end
section
variable {P:Program} {n:Nn} {w0:World} {F:Nat→Prop} {d:Option Nat} {t:TypeId} {pos:String} {aft:Array Edge} {g:Option (Nat × Bool)} {e:E} {Γ:List Fact}
theorem OpV.nilCheck [Dr] {x:Operand} {b o:Nat} [hx:Ev e x (.pointer (some ⟨b,o,none⟩))]:OpV P n w0 F ⟨d, .nilCheck x,t,pos,aft,g⟩ e Γ (.pointer (some ⟨b,o,none⟩)) :=
 fun a w fr _=>by simp [execOp,hx.ok n a fr]
theorem Xry [Dr] {x:Operand} {ty:TypeId} {v:Value} [hx:Ev e x v] (h:P.concrete ty=true):OpV P n w0 F ⟨d, .makeInterface ty x,t,pos,aft,g⟩ e Γ (.iface ty v) :=
 fun a w fr _=>by simp [execOp,hx.ok n a fr,run_makeInterface w ty v h]
theorem Xh1 [Dr] {x:Operand} {ty el:TypeId} {b o m sz by_ es eb:Nat} {z ez:Value} {ed:TypeDesc} [hx:Ev e x (.pointer (some ⟨b,o,none⟩))]
  [hT:Ty P ty (.array m el) sz by_ z] [hE:Ty P el ed es eb ez]:OpV P n w0 F ⟨d, .slice ty x none none none,t,pos,aft,g⟩ e Γ (.slice (some ⟨b,o,none⟩) m m) :=
 fun a w fr _=>by
  have h1:=Xav (P:=P) (t:=ty) w
  have h2:=Xbf (P:=P) (t:=el) w
  simp [execOp,hx.ok n a fr,Instr.sliceAt,h1,h2,Instr.sureAddr,Instr.sliceBounds,Addr.add]
end
section
variable {P:Program} {n:Nn} {w0:World} {F:Nat→Prop} {ops:Array Oper} {i d:Nat} {t:TypeId} {pos:String} {aft:Array Edge} {g:Option (Nat × Bool)} {os:List Oper} {Q:Cont} {e:E} {Γ:List Fact}
theorem Xwm [Dr] {x y:Operand} {b dl dc:Nat} {vs:List Value} {v:Value} {L:List UInt8} {bt ty ty2 el:TypeId} {ed:TypeDesc} {sz by_ eb:Nat} {z ez:Value} {Δ:List Fact}
  [hx:Ev e x (.slice (some ⟨b,0,none⟩) dl dc)] [hO:Own Γ b bt vs Δ] [hy:Ev e y v] [hS:HasSl Γ v UInt8 iI L] [hT:Ty P ty (.slice el) sz by_ z] [hE:Ty P el ed 1 eb ez]
  (hd:Nat.blt d n.s=true) (hdl:dl≤L.length) (h0:0 < dl) (hvs:vs.length=dl)
  (K:JO P n w0 F ops (i+1) os Q ((d, .int .i64 (dl:Int))::e) (.own b bt ((L.take dl).map Xak)::Δ)) :
  JR P n w0 F ops i ⟨some d, .call ⟨.builtin .copy,#[x,y],#[ty,ty2]⟩,t,pos,aft,g⟩ os Q e Γ :=
 JR.value hd fun a w fr ho=>by
  obtain ⟨a0,c0,rfl,hsl⟩:=hS.holds ho
  obtain ⟨ti,hti,hti1,_,_⟩:=hE.some
  have hpm:=ho.perm hO.ok
  have hw:w.heap[b]? = some (.cells vs.toArray bt (0,0)):=hpm.sat (.own b bt vs) (by simp)
  have hne:L≠[]:=by rintro rfl; simp at hdl; omega
  obtain ⟨bs,off,rfl,_,_,hr⟩:=hsl.2.2.2 hne
  have hcl:((L.take dl).map Xak).length=dl:=by rw [List.length_map,List.length_take]; omega
  have hcells:∀ j u,((L.take dl).map Xak)[j]? = some u→w.cell? ((⟨bs,off,none⟩:Addr).add j)=some u:=fun j u hu=>by
   have hj:j < dl:=by
    rw [← hcl]
    exact (List.getElem?_eq_some_iff.1 hu).1
   have hjL:j < L.length:=by omega
   obtain ⟨y,h1,_⟩:=hr j hjL
   have h2:=h1 0 (Xak L[j]) rfl
   have e1:off+j * Cell.sz UInt8+0=off+j:=by show off+j * 1+0=off+j; omega
   rw [e1] at h2
   rw [Addr.add_mid,h2]
   rw [List.getElem?_map,List.getElem?_take_of_lt hj,List.getElem?_eq_getElem hjL] at hu
   simpa using hu
  have hone:One ((L.take dl).map Xak):=⟨fun u hu=>by simp only [List.mem_map] at hu; obtain ⟨b,_,rfl⟩:=hu; rfl⟩
  have hrun:=run_copy_row (P:=P) w ty ty2 t el b 0 dl dc ⟨bs,off,none⟩ L.length c0 vs.toArray bt ((L.take dl).map Xak) hT.und (by rw [hti]; simp [hti1]) hw (by rw [hcl]; exact (Nat.min_eq_right hdl).symm) hcells (by rw [hcl]; simp [hvs]) hone.ok
  have hrow:vs.take 0++(L.take dl).map Xak++vs.drop (0+((L.take dl).map Xak).length)=(L.take dl).map Xak:=by
   rw [hcl,List.take_zero,Nat.zero_add,List.drop_eq_nil_of_le (by omega),List.nil_append,List.append_nil]
  refine ⟨_,w.setRow b ((L.take dl).map Xak).toArray,_,?_,hpm.setRow,K⟩
  simp [execOp,Xaj,invoke,builtin,hx.ok n a fr,hy.ok n a fr] at hrun ⊢
  simp [hrun]
  rw [Nat.min_eq_left hdl,List.drop_eq_nil_of_le (by omega),List.append_nil]
  exact ⟨rfl,rfl⟩
end
section
variable {P:Program} {n:Nn} {w0:World} {F:Nat→Prop} {ops:Array Oper} {i d:Nat} {t:TypeId} {pos:String} {aft:Array Edge} {g:Option (Nat × Bool)} {os:List Oper} {Q:Cont} {e:E} {Γ:List Fact} [Dr]
def Yb9 (P:Program) (w0:World) (F:Nat→Prop) (rs:List ResultVar) {Y:Type} (v:Y→Value) (B:Y→List Fact) (φ:Prop) (ch:List PanicEntry) (Bp:List Fact):Cont:=fun x e Γ =>
 Xah P w0 F rs v B x e Γ∨(φ∧X9d w0 F ch Bp x e Γ)
def Ends (P:Program) (f:FuncId) (args:List Value) (w w0:World) (F:Nat→Prop) {Y:Type} (v:Y→Value) (B:Y→List Fact) (φ:Prop) (ch:List PanicEntry) (Bp:List Fact):Prop :=
 Calls P f ⟨args⟩ w fun x w'=>(∃ y,x = .returned (v y)∧Hold w0 F (B y) w')∨(φ∧x = .panicked ch∧Hold w0 F Bp w')
theorem X9e {f:FuncId} {fn:Func} {c:Code} {rs:List ResultVar} {args:List Value} {w:World} {Y:Type} {v:Y→Value} {B:Y→List Fact} {φ:Prop} {ch:List PanicEntry} {Bp:List Fact} {m:Nat}
  (hf:P.funcs[f]? = some fn) (hb:fn.body=some c) (hn:fn.ntmps=m) (hr:fn.results=⟨rs⟩) (hl:Nat.ble args.length m=true) (Γ:List Fact) (ho:Hold w0 F Γ w)
  (h:JC P ⟨m,[]⟩ w0 F c (Yb9 P w0 F rs v B φ ch Bp) (enum 0 args) Γ):Ends P f args w w0 F v B φ ch Bp:=by
 refine calls_of_wp hf hb ?_
 rw [hn]
 refine wp_mono (h _ w (Fr.start hl) ho) ?_
 rintro x a w' ⟨e,Γ',hq,fr,ho'⟩
 rcases hq with ⟨hx,y,vs,hres,hpk,hB⟩ | ⟨hφ,rfl,hB⟩
 ·have hrun:=Xeb (P:=P) hr hres fr ho'
  have hrest:∃ v',(results fn a.tmps).run P w' = .ok v' w'∧((∃ y,Ending.returned v' = .returned (v y)∧Hold w0 F (B y) w')∨(φ∧Ending.returned v' = .panicked ch∧Hold w0 F Bp w')) :=
   ⟨_,hrun, .inl ⟨y,by rw [hpk],hB w' ho'⟩⟩
  rcases hx with rfl | rfl <;> exact ⟨fr.defers,hrest⟩
 ·exact ⟨fr.defers, .inr ⟨hφ,rfl,hB w' ho'⟩⟩
theorem X51 {f:Operand} {args:Array Operand} {ats:Array TypeId} {fid:FuncId} {caps vs us:List Value} {Y:Type} {v:Y→Value} {B:Y→List Fact} {φ:Prop} {ch:List PanicEntry} {Bp:List Fact}
  [hf:Fun e f fid caps] [hv:ArgVs e args.toList vs] [hu:App vs caps us] [hb:Body P fid] (hd:Nat.blt d n.s=true)
  (hg:∀ w,Hold w0 F Γ w→Ends P fid us w w0 F v B φ ch Bp) (k:∀ y,JO P n w0 F ops (i+1) os Q ((d,v y)::e) (B y)) (kp:φ→Q (.panic ch) e Bp) :
  JR P n w0 F ops i ⟨some d, .call ⟨.value f,args,ats⟩,t,pos,aft,g⟩ os Q e Γ:=by
 intro hdr a w fr ho
 unfold Oper.wp
 rw [Xf0 fr hf hv hu hb]
 refine Calls.mono (hg w ho) ?_
 rintro x w' (⟨y,rfl,ho'⟩ | ⟨hφ,rfl,ho'⟩)
 ·exact k y (Xea hdr).2 _ w' (fr.put hd _) ho'
 ·exact ⟨e,Bp,kp hφ,fr,ho'⟩
def JX (P:Program) (n:Nn) (w0:World) (F:Nat→Prop) (c:Code) (Q:Nn→Cont) (e:E) (Γ:List Fact):Prop :=
 ∀ a w,Fr n e a→Hold w0 F Γ w→c.wp P (fun x a w=>∃ n' e Γ,Q n' x e Γ∧Fr n' e a∧Hold w0 F Γ w) a w
theorem JX.seq {Q:Nn→Cont} {x y:Code} (h:JC P n w0 F x (fun z e' Γ'=>z = .normal∧JX P n w0 F y Q e' Γ') e Γ):JX P n w0 F (.seq x y) Q e Γ:=by
 intro a w fr ho
 refine wp_seq (wp_mono (h a w fr ho) ?_)
 rintro z a w ⟨e,Γ,⟨rfl,hq⟩,fr,ho⟩
 exact hq a w fr ho
theorem JX.defer {Q:Nn→Cont} {id:Nat} {y:Code} {fn:Fn} {caps:Array Operand} {us:List Value} {t1 t2:TypeId} {p1 p2:String} {f1 f2:Array Edge} {ats:Array TypeId} [hc:ArgVs e caps.toList us] (hd:Nat.blt d n.s=true)
  (h:JC P ⟨n.s,⟨.fn fn ⟨us⟩,#[]⟩::n.ds⟩ w0 F y (Q ⟨n.s,⟨.fn fn ⟨us⟩,#[]⟩::n.ds⟩) ((d, .func fn #[] ⟨us⟩)::e) Γ) :
  JX P n w0 F (.seq (.region id ⟨[⟨some d, .makeFunc fn #[] caps,t1,p1,f1,none⟩,⟨none, .defer ⟨.value (.tmp d),#[],ats⟩,t2,p2,f2,none⟩]⟩ false) y) Q e Γ:=by
 intro a w fr ho
 have e1:caps.map a.eval=⟨us⟩:=by apply Array.ext'; simp [hc.ok n a fr]
 have hev:=(fr.put hd (.func fn #[] ⟨us⟩))
 refine wp_seq (wp_region ?_)
 have hr:List.range (Array.size (⟨[⟨some d, .makeFunc fn #[] caps,t1,p1,f1,none⟩,⟨none, .defer ⟨.value (.tmp d),#[],ats⟩,t2,p2,f2,none⟩]⟩:Array Oper))=[0,1]:=rfl
 rw [hr]
 have h1:(execOp a.eval ⟨some d, .makeFunc fn #[] caps,t1,p1,f1,none⟩).run P w = .ok (.value (.func fn #[] ⟨us⟩)) w:=by
  simp only [execOp]
  rw [e1]
  have e2:Array.map a.eval #[] = #[]:=by simp
  rw [e2]
  rfl
 have h2:(execOp (a.put (some d) (.func fn #[] ⟨us⟩)).eval ⟨none, .defer ⟨.value (.tmp d),#[],ats⟩,t2,p2,f2,none⟩).run P w = .ok (.defer ⟨.fn fn ⟨us⟩,#[]⟩) w:=by
  have h3:(a.put (some d) (.func fn #[] ⟨us⟩)).eval (.tmp d) = .func fn #[] ⟨us⟩:=(iI:Ev ((d, .func fn #[] ⟨us⟩)::e) (.tmp d) (.func fn #[] ⟨us⟩)).ok n _ hev
  simp [execOp,h3,resolve,Deferred.ofValue]
 have hw:∀ y (o:Oper),o.guard=none→Region.wanted o y=true:=fun y o h=>by unfold Region.wanted; rw [h]
 unfold wpOps
 show (if Region.wanted ⟨some d, .makeFunc fn #[] caps,t1,p1,f1,none⟩ _ then Oper.wp P ⟨some d, .makeFunc fn #[] caps,t1,p1,f1,none⟩ a w (wpOps P _ _ [1]) _∨_ else _:Prop)
 rw [if_pos (hw _ _ rfl)]
 refine .inl ?_
 unfold Oper.wp
 rw [h1,Oper.upon_value]
 unfold wpOps
 show (if Region.wanted ⟨none, .defer ⟨.value (.tmp d),#[],ats⟩,t2,p2,f2,none⟩ _ then Oper.wp P ⟨none, .defer ⟨.value (.tmp d),#[],ats⟩,t2,p2,f2,none⟩ _ w (wpOps P _ _ []) _∨_ else _:Prop)
 rw [if_pos (hw _ _ rfl)]
 refine .inl ?_
 unfold Oper.wp
 rw [h2,Oper.upon_defer]
 unfold wpOps
 refine wp_mono (h _ w ?_ ho) (fun x a w ⟨e,Γ,hq⟩=>⟨_,e,Γ,hq⟩)
 have h4:Fr ⟨n.s,⟨.fn fn ⟨us⟩,#[]⟩::n.ds⟩ ((d, .func fn #[] ⟨us⟩)::e) ⟨(a.put (some d) (.func fn #[] ⟨us⟩)).tmps,⟨.fn fn ⟨us⟩,#[]⟩::(a.put (some d) (.func fn #[] ⟨us⟩)).defers⟩ :=
  ⟨by rw [hev.defers],hev.size,hev.slot⟩
 exact h4
end
section
attribute [local irreducible] JC JO JR JQ andThen inBlock OpV Gives Xah JM JS
theorem Xn8 (s:ByteArray):GivesV prog 300 [.string s] w F (.bool false):=by
 refine Xaa func300 rfl ntmps300 rfl rfl [] (.start w F) ?_
 refine wA ?_
 refine Xac () ?_
 simp [Xad]
theorem X52 (s u:ByteArray):GivesV prog 320 [.string s, .string u] w F (.bool (Xax s u)):=by
 refine Xaa func320 rfl ntmps320 rfl rfl [] (.start w F) ?_
 refine wz10 ?_
 refine JR.callV rfl (fun w1 hw=>Xn8 w1 _ s) ?_
 refine wz8 ?_
 refine Wf Xk3 rfl ?_
 refine wz5 ?_
 exact Xac () rfl
structure InsS (A:List ByteArray) (i j:Nat):Prop where
 ord:∀ x y,x < y→y≤i→y≠j→Xax (A.getD y .empty) (A.getD x .empty)=false
theorem InsS.swap {A:List ByteArray} {i j:Nat} (h:InsS A i (j+1)) (hj:j+1 < A.length) (hji:j+1≤i) (hlt:Xax (A.getD (j+1) .empty) (A.getD j .empty)=true) :
  InsS ((A.set (j+1) (A.getD j .empty)).set j (A.getD (j+1) .empty)) i j:=by
 have hg:∀ x,((A.set (j+1) (A.getD j .empty)).set j (A.getD (j+1) .empty)).getD x .empty=if x=j then A.getD (j+1) .empty else if x=j+1 then A.getD j .empty else A.getD x .empty:=by
  intro x
  simp only [List.getD_eq_getElem?_getD,List.getElem?_set,List.length_set]
  by_cases h1:x=j
  ·subst h1; simp [show x < A.length by omega]
  ·by_cases h2:x=j+1
   ·subst h2; simp [hj]
   ·simp [h1,h2,Ne.symm h1,Ne.symm h2]
 refine ⟨fun x y hxy hyi hyj=>?_⟩
 rw [hg,hg,if_neg hyj]
 by_cases hy:y=j+1
 ·rw [if_pos hy]
  by_cases hx:x=j
  ·rw [if_pos hx]; exact Xfl hlt
  ·rw [if_neg hx,if_neg (by omega)]
   exact h.ord x j (by omega) (by omega) (by omega)
 ·rw [if_neg hy]
  by_cases hx:x=j
  ·rw [if_pos hx]; exact h.ord (j+1) y (by omega) hyi hy
  ·rw [if_neg hx]
   by_cases hx2:x=j+1
   ·rw [if_pos hx2]; exact h.ord j y (by omega) hyi hy
   ·rw [if_neg hx2]; exact h.ord x y hxy hyi hy
theorem X2f {A:List ByteArray} {j:Nat} (hj:j+1 < A.length):((A.set (j+1) (A.getD j .empty)).set j (A.getD (j+1) .empty)).Perm A:=by
 induction A generalizing j with
 | nil=>simp at hj
 | cons a A ih =>
  cases j with
  | zero =>
   cases A with
   | nil=>simp at hj
   | cons b A=>simpa using List.Perm.swap a b A
  | succ j =>
   simp only [List.length_cons] at hj
   have:=ih (j:=j) (by omega)
   simpa using this.cons a
abbrev Xep (L:List ByteArray):Type:={ S:List ByteArray // S.Perm L∧S.Pairwise (fun a b=>Xax b a=false) }
theorem Xn9 {a b c:ByteArray} (h:Xax b a=false) (k:Xax c b=false):Xax c a=false:=by
 cases hx:Xax c a with
 | false=>rfl
 | true =>
  by_cases e:b=a
  ·subst e; rw [hx] at k; cases k
  ·rcases Xcu e with h1 | h1
   ·rw [h1] at h; cases h
   ·have:=Xb8 hx h1
    rw [this] at k; cases k
def Srt (A:List ByteArray) (i:Nat):Prop:=∀ x y,x < y→y < i→Xax (A.getD y .empty) (A.getD x .empty)=false
theorem Srt.pairwise {A:List ByteArray} {i:Nat} (h:Srt A i) (hi:A.length≤i):A.Pairwise (fun a b=>Xax b a=false):=by
 rw [List.pairwise_iff_getElem]
 intro x y hx hy hxy
 have:=h x y hxy (by omega)
 simpa [List.getD_eq_getElem?_getD,hx,hy] using this
theorem Xye {A:List ByteArray} {junk:List Value} {x:Nat} (h:x < A.length):(A.map strV++junk)[x]? = some (strV (A.getD x .empty)):=by
 rw [List.getElem?_append_left (by rw [List.length_map]; exact h),List.getElem?_map]
 simp [List.getD_eq_getElem?_getD,h]
theorem X8e {A:List ByteArray} {junk:List Value} {x:Nat} {s:ByteArray} (h:x < A.length):(A.map strV++junk).set x (strV s)=(A.set x s).map strV++junk:=by
 rw [List.set_append_left _ _ (by rw [List.length_map]; exact h),List.map_set]
theorem Xrz {w0 w:World} {F:Nat→Prop} {Γ:List Fact} {b k:Nat} {el:TypeId} {L:List ByteArray} {junk:List Value} (hl:L.length≤1000) (ho:Hold w0 F (.own b el (L.map strV++junk)::Γ) w) :
  Calls prog 314 ⟨[.slice (some ⟨b,0,none⟩) L.length k, .int .i64 0, .int .i64 (L.length:Int)]⟩ w fun x w'=>∃ S:Xep L,x = .returned (.tuple ⟨[]⟩)∧Hold w0 F (.own b el (S.1.map strV++junk)::Γ) w':=by
 refine Xa4 (v:=fun _=>.tuple ⟨[]⟩) (B:=fun S:Xep L=>.own b el (S.1.map strV++junk)::Γ) func314 rfl ntmps314 rfl rfl _ ho ?_
 refine wA ?_
 refine Xc8 (fun (i:Nat) (A:List ByteArray)=>[(0, .slice (some ⟨b,0,none⟩) L.length k),(1, .int .i64 0),(2, .int .i64 (L.length:Int)),(6, .int .i64 (i:Int))])
  (fun i A=>.own b el (A.map strV++junk)::Γ) (fun i A=>A.Perm L∧1≤i∧Srt A i) (fun i _=>L.length - i) 1 L ⟨List.Perm.refl _,Nat.le_refl _,fun x y h1 h2=>absurd h2 (by omega)⟩ iI ?_
 rintro i A ⟨hp,hi,hs⟩
 have hlen:A.length=L.length:=hp.length_eq
 refine wz11 ?_
 refine JC.test (fun hlt=>?_) (fun hge=>?_)
 ·have hlt':i < L.length:=by omega
  refine wz7 ?_
  refine Xc8 (fun (j:Nat) (A:List ByteArray)=>[(0, .slice (some ⟨b,0,none⟩) L.length k),(1, .int .i64 0),(2, .int .i64 (L.length:Int)),(6, .int .i64 (i:Int)),(7, .int .i64 (j:Int))])
   (fun j A=>.own b el (A.map strV++junk)::Γ) (fun j A=>A.Perm L∧j≤i∧InsS A i j) (fun j _=>j) i A ⟨hp,Nat.le_refl _,⟨fun x y h1 h2 h3=>hs x y h1 (by omega)⟩⟩ iI ?_
  clear hp hs hlen
  rintro j A ⟨hp,hji,hs⟩
  have hlen:A.length=L.length:=hp.length_eq
  refine wz14 ?_
  refine Xbw mixed (by kernel_rfl) ?_
  refine wY ?_
  cases j with
  | zero =>
   refine JQ.reslot 19 (.bool false) rfl ?_
   refine wY ?_
   refine wX ?_
   exact ⟨i+1,A,⟨hp,by omega,fun x y h1 h2=>hs.ord x y h1 (by omega) (by omega)⟩,by omega,iI⟩
  | succ m =>
  refine JQ.reslot 19 (.bool true) (by first | rfl | exact congrArg Value.bool (decide_eq_true (by omega))) ?_
  refine wY ?_
  refine Wy rfl (Xff (k:=m+1) (by omega)) rfl ?_
  refine Wy rfl (Xhc (v:=A.getD (m+1) .empty) (Xye (by omega))) rfl ?_
  refine wY ?_
  refine JQ.reslot 26 (.int .i64 (m:Int)) (by first | rfl | (congr 1; omega)) ?_
  refine Wy rfl (Xff (k:=m) (by omega)) rfl ?_
  refine Wy rfl (Xhc (v:=A.getD m .empty) (Xye (by omega))) rfl ?_
  refine JQ.call rfl rfl (fun w1 hw=>X52 w1 _ (A.getD (m+1) .empty) (A.getD m .empty)) ?_
  cases hx:Xax (A.getD (m+1) .empty) (A.getD m .empty) with
  | false =>
   refine wY ?_
   refine wX ?_
   refine ⟨i+1,A,⟨hp,by omega,fun x y h1 h2=>?_⟩,by omega,iI⟩
   by_cases hy:y=m+1
   ·subst hy
    by_cases hxm:x=m
    ·subst hxm; exact hx
    ·exact Xn9 (hs.ord x m (by omega) (by omega) (by omega)) hx
   ·exact hs.ord x y h1 (by omega) hy
  | true =>
  refine wY ?_
  refine wz1 ?_
  refine JC.drawP mixed ?_
  refine Xab 0 ?_
  refine Xab 1 ?_
  refine Xab 2 ?_
  refine Xab 3 ?_
  refine JP.pure 4 rfl (by kernel_rfl) rfl (fun _=>Vv (by omega)) rfl rfl ?_
  refine JP.reslot 37 (.int .i64 (m:Int)) (by congr 1; omega) ?_
  refine Xab 5 ?_
  refine Xab 6 ?_
  refine JP.pure 7 rfl (by kernel_rfl) rfl (fun _=>Vv (by omega)) rfl rfl ?_
  refine JP.reslot 40 (.int .i64 (m:Int)) (by congr 1; omega) ?_
  refine JP.pure 8 rfl (by kernel_rfl) rfl (fun _=>Xff (k:=m) (by omega)) rfl rfl ?_
  refine JP.take 9 [.own b el (A.map strV++junk)] rfl (by kernel_rfl) rfl (Xhc (v:=A.getD m .empty) (Xye (by omega))) rfl rfl ?_
  refine Xab 10 ?_
  refine Xab 11 ?_
  refine JP.pure 12 rfl (by kernel_rfl) rfl (fun _=>Xff (k:=m+1) (by omega)) rfl rfl ?_
  refine JP.take 13 [.own b el (A.map strV++junk)] rfl (by kernel_rfl) rfl (Xhc (v:=A.getD (m+1) .empty) (Xye (by omega))) rfl rfl ?_
  refine JP.pure 14 rfl (by kernel_rfl) rfl (fun _=>Xff (k:=m+1) (by omega)) rfl rfl ?_
  refine Xai 15 rfl rfl (Xn7 (by rw [List.length_append,List.length_map]; omega) (Wd (nO ?_)))
  refine JP.pure 16 rfl (by kernel_rfl) rfl (fun _=>Xff (k:=m) (by omega)) rfl rfl ?_
  refine Xai 17 rfl rfl (Xn7 (by rw [List.length_set,List.length_append,List.length_map]; omega) (Wd (nO ?_)))
  refine JP.nil (by kernel_rfl) ?_
  rw [X8e (by omega),X8e (by rw [List.length_set]; omega)]
  have hins:=hs.swap (by omega) hji hx
  have hsp:=(X2f (A:=A) (j:=m) (by omega)).trans hp
  refine wX ?_
  rw [Nat.add_sub_cancel]
  exact ⟨m,_,⟨hsp,by omega,hins⟩,by omega,iI⟩
 ·refine wz3 ?_
  exact Xd0 (⟨A,hp,hs.pairwise (by omega)⟩:Xep L) rfl (fun w ho=>ho)
def cmpI (a b:Int):Int:=if a < b then -1 else if b < a then 1 else 0
theorem X2g [Dr] (a:Int):GivesV prog 123 [.int .i64 a] w F (.bool false):=by
 refine Xaa func123 rfl ntmps123 rfl rfl [] (.start w F) ?_
 refine wA ?_
 exact Xac () (by simp [Xad])
theorem Xee [Dr] (a b:Int):GivesV prog 63 [.int .i64 a, .int .i64 b] w F (.int .i64 (cmpI a b)):=by
 refine Xaa func63 rfl ntmps63 rfl rfl [] (.start w F) ?_
 refine wz10 ?_
 refine JR.callV rfl (fun w1 hw=>X2g w1 _ a) ?_
 refine wz10 ?_
 refine JR.callV rfl (fun w1 hw=>X2g w1 _ b) ?_
 refine wz2 ?_
 refine JC.test (fun h=>?_) (fun h=>?_)
 ·have e1:cmpI a b = -1:=by simp [cmpI,h]
  rw [e1]
  refine wz9 ?_
  exact Xac () rfl
 refine wA ?_
 refine JC.test (fun h'=>?_) (fun h'=>?_)
 ·have e1:cmpI a b=1:=by simp [cmpI,h,h']
  rw [e1]
  refine wz9 ?_
  exact Xac () rfl
 ·have e1:cmpI a b=0:=by simp [cmpI,h,h']
  rw [e1]
  refine wz1 ?_
  exact Xac () rfl
def orL:List Int→Int
 | []=>0
 | x::l=>if x≠0 then x else orL l
theorem Xyf (L:List Int) (k:Nat) (hk:k≤L.length) (h:∀ j (hj:j < L.length),j < k→L[j]=0):orL L=orL (L.drop k):=by
 induction k generalizing L with
 | zero=>rfl
 | succ k ih =>
  cases L with
  | nil=>simp at hk
  | cons x L =>
   have h0:x=0:=h 0 (by simp) (by omega)
   have:=ih L (by simpa using hk) (fun j hj hjk=>h (j+1) (by simpa using hj) (by omega))
   simp [orL,h0,this]
theorem X8f [Dr] (a:Option Addr) (k:Nat) (L:List Int) (h:(sl a k L).holds F w):GivesV prog 62 [.slice a L.length k] w F (.int .i64 (orL L)):=by
 have hL:L.length < 9223372036854775807:=by have:=h.2.2.1; simp only [lim] at this; omega
 refine Xaa func62 rfl ntmps62 rfl rfl [.st (sl a k L)] (.start1 h) ?_
 refine wz4 ?_
 refine Xao (fun i:Nat=>[(3, .int .i64 0),(6, .slice a L.length k),(7, .int .i64 (L.length:Int)),(8, .int .i64 (i:Int))]) (fun i=>[.st (sl a k L)])
  (fun i=>i≤L.length∧∀ j (hj:j < L.length),j < i→L[j]=0) (fun i=>L.length - i) 0 ⟨Nat.zero_le _,fun j hj h=>by omega⟩ iI ?_
 intro i ⟨hi,hz⟩
 refine wz11 ?_
 refine JC.test (fun hlt=>?_) (fun hge=>?_)
 ·have hlt':i < L.length:=by omega
  refine wz14 ?_
  refine Xv5 rfl hlt' ?_
  intro b o
  refine wA ?_
  refine JC.test (fun h0=>?_) (fun h0=>?_)
  ·have e1:orL L=L[i]:=by
    rw [Xyf L i hi hz,List.drop_eq_getElem_cons hlt']
    simp [orL,h0]
   rw [e1]
   refine wz5 ?_
   exact Xac () rfl
  ·refine wz2 ?_
   refine ⟨i+1,⟨by omega,fun j hj hji=>?_⟩,by omega,iI⟩
   by_cases hj':j=i
   ·subst hj'; simpa using h0
   ·exact hz j hj (by omega)
 ·have e1:orL L=0:=by rw [Xyf L i hi hz,List.drop_of_length_le (by omega)]; rfl
  rw [e1]
  refine wz3 ?_
  exact Xac () rfl
theorem X9f [Dr] (w:World) (F:Nat→Prop) (a:Option Addr) (k bl:Nat) (L:List Commit) (i j:Nat) (hi:i < L.length) (hj:j < L.length) (h:(sl a k L).holds F w) (hb:(ro bl 0 [.slice a L.length k]).holds F w) :
  GivesV prog 118 [.int .i64 (i:Int), .int .i64 (j:Int), .pointer (some ⟨bl,0,none⟩)] w F (.int .i64 (cmpI L[i].gen L[j].gen)):=by
 refine Xaa func118 rfl ntmps118 rfl rfl [.st (sl a k L), .st (ro bl 0 [.slice a L.length k])] (.start2 h hb) ?_
 refine wz10 ?_
 refine Xdx (L:=L) (.slice a L.length k) i hi ?_
 intro b1 o1 p1 q1
 refine Xdx (L:=L) (.slice a L.length k) j hj ?_
 intro b2 o2 p2 q2
 refine Xbw mixed (by kernel_rfl) ?_
 refine wQ ?_
 refine JQ.call rfl rfl (fun w1 hw=>Xee w1 _ (L[i]).gen (L[j]).gen) ?_
 refine wQ ?_
 refine wz13 ?_
 exact Xac () rfl
theorem Hold.start4 [Dr] {A B C D:Asn} {w:World} {F:Nat→Prop} (h:A.holds F w) (h2:B.holds F w) (h3:C.holds F w) (h4:D.holds F w):Hold w F [.st A, .st B, .st C, .st D] w :=
 (Hold.start3 h2 h3 h4).add (Asn.mono _ _ _ _ (fun k hk=>⟨.inl hk,by simp [free,Fact.owns]⟩) h)
theorem X2h {w:World} {b:Nat} {L:List Int} {t:TypeId} (h:w.heap[b]? = some (.cells (L.map (fun n=>Value.int .i64 n)).toArray t (0,0))) (hmax:L.length≤4096):(sl (some ⟨b,0,none⟩) L.length L).holds (fun _=>True) w:=by
 refine ⟨by omega,by simp [maxLen]; omega,by simp only [lim]; omega,fun hne=>⟨b,0,rfl,trivial,(Array.getElem?_eq_some_iff.1 h).1,fun i hi=>⟨(),?_,by simp [Cell.facts]⟩⟩⟩
 intro j v hj
 simp only [Cell.cells,List.getElem?_singleton] at hj
 split at hj
 ·rename_i h0; subst h0
  injection hj with hj
  subst hj
  rw [cell_of_row w b _ _ _ _ h]
  simp [Cell.sz,hi]
 ·cases hj
end
end Ab
end Go.Proofs.YtllddbbldmoibaaGreat
