/- Lemmas for the walks, part 3 of 6: Ins, RegA, RegB, RegC, RegP, Sort, Ord, PairP, SortT, CtrB, Lays, WalkB, CtrC, CtrD, CtrE, CtrF, StP, Range, Num, WalkC, WalkD, WalkE, WalkF, WalkG, WalkH, WalkI, WalkJ, WalkK, WalkL, WalkM, WalkN, WalkO, WalkP, WalkQ, WalkR, Lays2, WalkS, WalkT, WalkU, WalkV. -/
import Derived.Test.YtllddbbldmoibaaGreatBrE2
import Derived.Lib.AppendZerosOnto
import Derived.Test.YtllddbbldmoibaaGreatBrE1
import Derived.Shelf.SlSortCmp.NoneTotal
import Derived.Shelf.SlSortCmp.QuietGrown
import Derived.Deep.Quiet
import Derived.Deep.QuietTactic
import Derived.BigQuiet
import Derived.WalkKit
import Derived.Test.YtllddbbldmoibaaGreatChecked
import Derived.KernelRfl
import Derived.RangeFuncBox
import Derived.RangeFuncKeeps
import Derived.ControlIn
import Derived.RangeFuncNested
import Derived.RangeFuncBound
import Derived.RangeFuncCalls
import Derived.RangeFuncLeaves
import Derived.Shelf.Abstract
import Derived.OwnWalkIn
import Derived.TacticsInMore
import Derived.LoopNIn
import Derived.LoopIn
import Derived.Maps.AppendAt
import Derived.Shelf.Bytes.SlJoin
namespace Go.Proofs.YtllddbbldmoibaaGreat
namespace Ab
open Go Go.RowKit Tryz
set_option linter.unusedVariables false
set_option linter.unusedSimpArgs false
set_option linter.unusedSectionVars false
set_option synthInstance.maxSize 4000
set_option synthInstance.maxHeartbeats 400000
set_option maxHeartbeats 16000000
variable (w:World) (F:Nat→Prop)
class PlainC (α:Type) [Cell α] (cs:outParam (α→List Value)):Prop where
 cells:∀ (u:α) y,Cell.cells u y=cs u
 facts:∀ (u:α) y,Cell.facts u y=[]
 ix:Nonempty (Cell.Ix α)
instance:PlainC Reg_ regC:=⟨fun _ _=>rfl,fun _ _=>rfl,⟨()⟩⟩
instance:PlainC Pair_ Xcc:=⟨fun _ _=>rfl,fun _ _=>rfl,⟨()⟩⟩
instance:PlainC Ctr_ ctrC:=⟨fun _ _=>rfl,fun _ _=>rfl,⟨()⟩⟩
def fl {α:Type} (cs:α→List Value) (L:List α):List Value:=L.flatMap cs
theorem Xd9 {α:Type} (cs:α→List Value) (L M:List α):fl cs (L++M)=fl cs L++fl cs M:=List.flatMap_append
theorem Xfa {α:Type} (cs:α→List Value) (u:α) (M:List α):fl cs (u::M)=cs u++fl cs M:=rfl
theorem PlainC.len {α:Type} [Cell α] {cs:α→List Value} [hp:PlainC α cs] (u:α):(cs u).length=Cell.sz α:=by
 obtain ⟨y⟩:=hp.ix
 rw [← hp.cells u y,Cell.len]
theorem PlainC.one {α:Type} [Cell α] {cs:α→List Value} [hp:PlainC α cs] (u:α):∀ v∈cs u,v.oneCell'=true:=by
 obtain ⟨y⟩:=hp.ix
 rw [← hp.cells u y]
 exact Cell.one u y
theorem Xc5 {α:Type} [Cell α] {cs:α→List Value} [hp:PlainC α cs] (L:List α):(fl cs L).length=L.length * Cell.sz α:=by
 induction L with
 | nil=>simp [fl]
 | cons u L ih=>rw [Xfa,List.length_append,ih,PlainC.len,List.length_cons,Nat.add_mul]; omega
theorem X2k {α:Type} [Cell α] {cs:α→List Value} [hp:PlainC α cs] (L:List α):∀ v∈fl cs L,v.oneCell'=true:=by
 intro v hv
 obtain ⟨u,_,hu⟩:=List.mem_flatMap.1 hv
 exact PlainC.one u v hu
theorem Xp8 {α:Type} [Cell α] {cs:α→List Value} [hp:PlainC α cs]:∀ q:List (α × Cell.Ix α),flat q=fl cs (q.map (·.1))
 | []=>rfl
 | (u,y)::q=>by rw [List.map_cons,Xfa,← Xp8 q,← hp.cells u y]; rfl
theorem Xm7 {α:Type} [Cell α] {g k:Nat} {el:TypeId} {L:List α} (j:Nat):(Fact.res (buf (some ⟨g,0,none⟩) k el L)).owns j↔j=g:=by
 constructor
 ·rintro ⟨a',ha',rfl⟩; injection ha' with ha'; subst ha'; rfl
 ·rintro rfl; exact ⟨_,rfl,rfl⟩
section
variable {w0:World} {F:Nat→Prop} {Γ:List Fact}
theorem Hold.retell [Dr] {w:World} {f g:Fact} (hfg:∀ j,f.owns j↔g.owns j) (ho:Hold w0 F (f::Γ) w) (hg:g.sat (fp w0 F (g::Γ)) w):Hold w0 F (g::Γ) w:=by
 refine ⟨ho.below,fun f' hf'=>?_,?_,fun f' hf' j hj=>?_⟩
 ·rcases List.mem_cons.1 hf' with rfl | hf'
  ·exact hg
  ·refine Fact.sat_keep (ho.sat f' (List.mem_cons_of_mem _ hf')) (fun j hj _=>⟨hj.1,fun f2 hf2=>?_⟩) (fun _ _ _=>rfl)
   rcases List.mem_cons.1 hf2 with rfl | hf2
   ·intro h9
    exact hj.2 _ (List.mem_cons_self ..) ((hfg j).2 h9)
   ·exact hj.2 f2 (List.mem_cons_of_mem _ hf2)
 ·have hd:=ho.dis
  rw [List.pairwise_cons] at hd ⊢
  exact ⟨fun f' hf' j hj=>hd.1 f' hf' j ⟨(hfg j).2 hj.1,hj.2⟩,hd.2⟩
 ·rcases List.mem_cons.1 hf' with rfl | hf'
  ·exact ho.new _ (List.mem_cons_self ..) j ((hfg j).2 hj)
  ·exact ho.new f' (List.mem_cons_of_mem _ hf') j hj
theorem Hold.openC [Dr] {α:Type} [Cell α] {cs:α→List Value} [hp:PlainC α cs] {w:World} {g k:Nat} {el:TypeId} {L:List α} (ho:Hold w0 F (.res (buf (some ⟨g,0,none⟩) k el L)::Γ) w) :
  ∃ junk,L.length * Cell.sz α+junk.length=k * Cell.sz α∧L.length≤k∧k≤maxLen∧L.length≤lim∧Hold w0 F (.own g el (fl cs L++junk)::Γ) w:=by
 obtain ⟨q,cur,q0,q1,q2,qg,qnc,qcm,qcs,qt⟩:=Xg3 (ho.sat (.res (buf (some ⟨g,0,none⟩) k el L)) (by simp))
 have hfl:flat q=fl cs L:=by rw [Xp8,q1]
 have hl:(fl cs L).length=L.length * Cell.sz α:=Xc5 L
 have htk:cur.toList.take (L.length * Cell.sz α)=fl cs L:=by
  rw [← hfl,← qt]
 have hcur:fl cs L++cur.toList.drop (L.length * Cell.sz α)=cur.toList:=by rw [← htk,List.take_append_drop]
 have hle:L.length * Cell.sz α≤k * Cell.sz α:=Nat.mul_le_mul_right _ qnc
 refine ⟨cur.toList.drop (L.length * Cell.sz α),by have h9:cur.toList.length=cur.size:=Array.length_toList; rw [List.length_drop,h9,qcs]; omega,qnc,qcm,q0,ho.retell (fun j=>Xm7 j) ?_⟩
 show w.heap[g]? = _
 rw [hcur]
 exact qg
theorem Hold.closeC [Dr] {α:Type} [Cell α] {cs:α→List Value} [hp:PlainC α cs] {w:World} {g k:Nat} {el:TypeId} (L:List α) (junk:List Value) {vs:List Value} (ho:Hold w0 F (.own g el vs::Γ) w) (hv:vs=fl cs L++junk)
  (hj:L.length * Cell.sz α+junk.length=k * Cell.sz α) (hk:L.length≤k) (hm:k≤maxLen) (hl:L.length≤lim):Hold w0 F (.res (buf (some ⟨g,0,none⟩) k el L)::Γ) w:=by
 obtain ⟨y⟩:=hp.ix
 have hw:w.heap[g]? = some (.cells vs.toArray el (0,0)):=ho.sat (.own g el vs) (by simp)
 have h1:(L.map fun u=>(u,y)).map (·.1)=L:=by rw [List.map_map]; exact List.map_id L
 have hf:flat (L.map fun u=>(u,y))=fl cs L:=by rw [Xp8,h1]
 have hn:(fl cs L).length=L.length * Cell.sz α:=Xc5 L
 refine ho.retell (f:=.own g el vs) (g:=.res (buf (some ⟨g,0,none⟩) k el L)) (fun j=>(Xm7 j).symm) ⟨hl,L.map (fun u=>(u,y)),h1,⟨by rw [hf]; exact hn, .inr ⟨g,k,vs.toArray,rfl,Nat.zero_le _,hw,hk,hm,?_,?_⟩⟩,fun p hp' A hA=>?_⟩
 ·rw [hv]; simp only [List.size_toArray,List.length_append]; omega
 ·rw [hf,hv]; simp only [List.length_map]; exact (by rw [← hn]; exact List.take_left)
 ·rw [hp.facts] at hA; cases hA
end
section
variable {P:Program} {n:Nn} {w0:World} {F:Nat→Prop} {Q:Cont} {e:E} {Γ:List Fact}
theorem JC.openC [Dr] {α:Type} [Cell α] {cs:α→List Value} [hp:PlainC α cs] {c:Code} {g k:Nat} {el:TypeId} {L:List α}
  (h:∀ junk,L.length * Cell.sz α+junk.length=k * Cell.sz α→L.length≤k→k≤maxLen→L.length≤lim→JC P n w0 F c Q e (.own g el (fl cs L++junk)::Γ)):JC P n w0 F c Q e (.res (buf (some ⟨g,0,none⟩) k el L)::Γ):=by
 intro a w fr ho
 obtain ⟨junk,h1,h2,h3,h4,h5⟩:=ho.openC
 exact h junk h1 h2 h3 h4 a w fr h5
end
theorem Xm8 {P:Program} (w:World) (dT sT ty elem:TypeId) (g o dLen dCap:Nat) (a:Addr) (sLen sCap:Nat) (cur:Array Value) (t:TypeId) (cs:List Value) (sz:Nat)
  (hu:P.underlying dT=some (.slice elem)) (hs:(P.info? elem).map (·.size)=some sz)
  (hg:w.heap[g]? = some (.cells cur t (0,0))) (hn:cs.length=Nat.min sLen dLen * sz)
  (hsrc:∀ j v,cs[j]? = some v→w.cell? (a.add j)=some v) (hfit:o+cs.length≤cur.size) (h1:∀ v∈cs,v.oneCell'=true) :
  (Builtin.copy_ #[dT,sT] ty #[.slice (some ⟨g,o,none⟩) dLen dCap, .slice (some a) sLen sCap]).run P w =
   .ok (goInt (Nat.min sLen dLen)) (w.setRow g (cur.toList.take o++cs++cur.toList.drop (o+cs.length)).toArray):=by
 have hl:=run_loadCells_list (P:=P) w a cs hsrc
 have hst:=run_storeCells_at P g o t cs 0 cur w hg (by simpa using hfit) h1
 cases hq:P.info? elem with
 | none=>simp [hq] at hs
 | some i =>
  have hi:i.size=sz:=by simpa [hq] using hs
  simp [Builtin.copy_,run_underlying hu,Builtin.lenOf,Builtin.firstCells,sizeOf,typeInfo,hq,hi,← hn,hl,hst]
section
variable {P:Program} {n:Nn} {w0:World} {F:Nat→Prop} {ops:Array Oper} {i d:Nat} {t:TypeId} {pos:String} {aft:Array Edge} {g:Option (Nat × Bool)} {os:List Oper} {Q:Cont} {e:E} {Γ:List Fact}
theorem Xje [Dr] {x y:Operand} {b o dl dc b2 o2 sl_ sc:Nat} {vs us:List Value} {bt ty ty2 el:TypeId} {ed:TypeDesc} {sz by_ es eb p:Nat} {z ez:Value} {Δ:List Fact} (cs r:List Value)
  [hx:Ev e x (.slice (some ⟨b,o,none⟩) dl dc)] [hO:Own Γ b bt vs Δ] [hy:Ev e y (.slice (some ⟨b2,o2,none⟩) sl_ sc)] [hA:At Γ b2 p us] [hT:Ty P ty (.slice el) sz by_ z] [hE:Ty P el ed es eb ez]
  (hd:Nat.blt d n.s=true) (hcs:(us.drop (o2 - p)).take (Nat.min sl_ dl * es)=cs) (hp:p≤o2) (hlen:cs.length=Nat.min sl_ dl * es) (hfit:o+cs.length≤vs.length) (h1:∀ v∈cs,v.oneCell'=true) (hr:vs.take o++cs++vs.drop (o+cs.length)=r)
  (K:JO P n w0 F ops (i+1) os Q ((d,goInt (Nat.min sl_ dl))::e) (.own b bt r::Δ)) :
  JR P n w0 F ops i ⟨some d, .call ⟨.builtin .copy,#[x,y],#[ty,ty2]⟩,t,pos,aft,g⟩ os Q e Γ :=
 JR.value hd fun a w fr ho=>by
  have hpm:=ho.perm hO.ok
  have hw:w.heap[b]? = some (.cells vs.toArray bt (0,0)):=hpm.sat (.own b bt vs) (by simp)
  have hr':=Xco (hA.ok w0 F w ho) hcs
  rw [show p+(o2 - p)=o2 by omega] at hr'
  obtain ⟨ti,hti,hti1,_,_⟩:=hE.some
  have hrun:=Xm8 (P:=P) w ty ty2 t el b o dl dc ⟨b2,o2,none⟩ sl_ sc vs.toArray bt cs es hT.und (by rw [hti]; simp [hti1]) hw hlen (fun j v hv=>by rw [Addr.add_mid]; exact hr' j v hv) (by simpa using hfit) h1
  refine ⟨_,_,_,?_,hpm.setRow (r:=r),K⟩
  simp [execOp,Xag,invoke,builtin,hx.ok n a fr,hy.ok n a fr] at hrun ⊢
  simp [hrun,← hr]
theorem Xg8 [Dr] {x y:Operand} {kk k2:IntKind} {j:Int} {k l c b p:Nat} {us cs:List Value} {ty tx el:TypeId} {ed:TypeDesc} {sz by_ sz2 by2 es eb:Nat} {z z2 ez:Value} {ecs:List Value}
  [hx:Ev e x (.slice (some ⟨b,0,none⟩) l c)] [hA:At Γ b 0 us] [hy:Ev e y (.int kk j)] [hk:NatI j k] [hT:Ty P ty (.slice el) sz by_ z] [hU:Ty P tx (.int k2) sz2 by2 z2] [hE:Ty P el ed es eb ez] [hz:Cel ez ecs]
  (hd:Nat.blt d n.s=true) (hes:ecs.length=es∧0 < es∧eb≤4096) (hcs:us.take (l * es)=cs) (hcl:cs.length=l * es) (hl:0 < k∧l+k≤17179869184) (hroom:c < l+k) (hc:c≤17179869184)
  (K:∀ b2 c2 zs,l+k≤c2→c2≤maxLen→cs.length+zs.length=c2 * es→JO P n w0 F ops (i+1) os Q ((d, .slice (some ⟨b2,0,none⟩) (l+k) c2)::e) (.own b2 el (cs++zs)::Γ)) :
  JR P n w0 F ops i ⟨some d, .call ⟨.builtin .append,#[x,y],#[ty,tx]⟩,t,pos,aft,g⟩ os Q e Γ :=
 JR.value hd fun a w fr ho=>by
  obtain ⟨ti,hti,hti1,hti2,hti3⟩:=hE.some
  have hj:=hk.ok
  subst hj
  have hcs':(us.drop 0).take (l * es)=cs:=by rw [List.drop_zero]; exact hcs
  have hr:=Xco (hA.ok w0 F w ho) hcs'
  have hold:(Builtin.firstCells ti.size l (.slice (some ⟨b,0,none⟩) l c)).run P w.drew = .ok cs.toArray w.drew:=by
   have:=run_loadCells_list (P:=P) w.drew ⟨b,0,none⟩ cs (fun j v hv=>by
    rw [Addr.add_mid]
    exact hr j v hv)
   rw [hcl] at this
   simp [Builtin.firstCells,hti1,this]
  have hle:=hl.2
  have hb48:k * ti.bytes≤281474976710656:=by rw [hti2]; have:=Nat.mul_le_mul (show k≤17179869184 by omega) hes.2.2; omega
  have hn48:Builtin.nextslicecap (l+k) c * ti.bytes≤281474976710656:=by
   have h7:=nextslicecap_le (show c < l+k from hroom)
   rw [hti2]
   have h8:=Nat.mul_le_mul (show Builtin.nextslicecap (l+k) c≤34359738368 by omega) hes.2.2
   omega
  have hrun:=Lib.run_append_grow_zeros (P:=P) w ty tx t el ti ez kk k2 hT.und hU.und hti hti3 (some ⟨b,0,none⟩) l c cs hold k hl.1 (by rw [hti1]; exact hes.2.1) hroom (by omega) hb48 hn48
  have hge:=grownCap_ge w (l+k) c el
  have hcm:grownCap w (l+k) c el≤maxLen:=grownCap_le_maxLen w (l+k) c el (by simp only [maxLen]; omega)
  have hzs:ez.cells.size=ti.size:=by rw [Xbt (v:=ez) (cs:=ecs),hti1]; simpa using hes.1
  have hlz:cs.length+((Builtin.zeroCells ez.cells k++Builtin.zeroCells ez.cells (grownCap w (l+k) c el - (l+k))).toList).length=grownCap w (l+k) c el * es:=by
   simp only [Array.length_toList,Array.size_append,size_zeroCells,hzs,← Nat.add_mul,hti1,hcl]
   congr 1
   omega
  refine ⟨_,w.drew.alloc (.cells (cs.toArray++Builtin.zeroCells ez.cells k++Builtin.zeroCells ez.cells (grownCap w (l+k) c el - (l+k))) el),_,?_,?_,K w.heap.size (grownCap w (l+k) c el) (Builtin.zeroCells ez.cells k++Builtin.zeroCells ez.cells (grownCap w (l+k) c el - (l+k))).toList hge hcm hlz⟩
  ·simp [execOp,Xag,invoke,builtin,hx.ok n a fr,hy.ok n a fr] at hrun ⊢
   simp [hrun]
  ·have hd':Hold w0 F Γ w.drew:=ho.drew
   have:=hd'.alloc el (cs++(Builtin.zeroCells ez.cells k++Builtin.zeroCells ez.cells (grownCap w (l+k) c el - (l+k))).toList)
   have e9:∀ z1 z2:Array Value,cs.toArray++z1++z2=(cs++(z1++z2).toList).toArray:=fun z1 z2=>by
    apply Array.ext'
    simp
   rw [e9]
   exact this
end
theorem Xm9 {P:Program} (w:World) {ty ty2 el el2 t:TypeId} {a:Option Addr} {m c:Nat} {x:Value} (h1:P.underlying ty=some (.slice el)) (h2:P.underlying ty2=some (.slice el2)) :
  (Builtin.append_ #[ty,ty2] t #[.slice a m c,x]).run P w=(Builtin.append_ #[ty,ty] t #[.slice a m c,x]).run P w:=by
 simp [Builtin.append_,run_underlying h1,run_underlying h2]
section
variable {P:Program} {n:Nn} {w0:World} {F:Nat→Prop} {ops:Array Oper} {i d:Nat} {t:TypeId} {pos:String} {aft:Array Edge} {g:Option (Nat × Bool)} {os:List Oper} {Q:Cont} {e:E} {Γ:List Fact}
theorem Xp9 [Dr] {α:Type} [ic:Cell α] {x y:Operand} {v:Value} {L:List α} {u:α} {el ty ty2 el2:TypeId} {ed:TypeDesc} {sz by_ es eb sz2 by2:Nat} {z z2 ez:Value} {ecs:List Value} {b o o' r c1:Nat} {vs cs:List Value} {Δ:List Fact}
  [hx:Ev e x v] [hB:HasBuf Γ v α ic el L Δ] [hy:Ev e y (.slice (some ⟨b,o,none⟩) 1 c1)] [hA:At Γ b o' vs] [hS:Ab.Sum o o' r] [hT:Ty P ty (.slice el) sz by_ z] [hT2:Ty P ty2 (.slice el2) sz2 by2 z2] [hE:Ty P el ed es eb ez] [hz:Cel ez ecs]
  [hs:Seg vs r es cs] [hu:Typed Δ cs u] [h1:One cs] (hd:Nat.blt d n.s=true) (hes:es=Cell.sz α∧ecs.length=es∧eb≤4096) (hl:L.length < 34359738368)
  (K:∀ a c,JO P n w0 F ops (i+1) os Q ((d, .slice a (L++[u]).length c)::e) (.res (buf a c el (L++[u]))::Δ)) :
  JR P n w0 F ops i ⟨some d, .call ⟨.builtin .append,#[x,y],#[ty,ty2]⟩,t,pos,aft,g⟩ os Q e Γ :=
 JR.value hd fun a w fr ho=>by
  obtain ⟨a0,c0,rfl,hperm⟩:=hB.ok
  have ho':=ho.perm hperm
  obtain ⟨yy,hcs,hyy⟩:=hu.ok
  have hr1:=Xco (hA.ok w0 F w ho) hs.ok.1
  rw [← hS.ok] at hr1
  have hfl:flat [(u,yy)]=cs:=by simp [flat,hcs]
  obtain ⟨a1,k1,w',hrun,hw'⟩:=Xe3 (P:=P) (t:=t) (ty:=ty) (ad:=⟨b,o,none⟩) (m:=1) (c1:=c1) ho' [(u,yy)] (fun j v hv=>by rw [Addr.add_mid]; exact hr1 j v (by rwa [hfl] at hv)) (by rw [hfl]; exact h1.ok) rfl
   (fun p hp A hA=>by simp only [List.mem_singleton] at hp; subst hp; exact ho'.sat (.st A) (List.mem_cons_of_mem _ (hyy A hA))) hes (by omega)
  rw [← Xm9 w hT.und hT2.und] at hrun
  refine ⟨_,w',_,?_,hw',K a1 k1⟩
  simp [execOp,Xag,invoke,builtin,hx.ok n a fr,hy.ok n a fr] at hrun ⊢
  simp [hrun]
end
theorem Xom {P:Program} (w:World) {t u el:TypeId} {rs:Array TypeId} {b1 o1 l1 c1 b2 o2 l2 c2:Nat} {t1 t2:TypeId} {v1 v2:List Value} (hu:P.underlying t=some (.slice el)) (hs:(P.info? el).isSome=true) (hne:b1≠b2)
  (h1:w.heap[b1]? = some (.cells v1.toArray t1 (0,0))) (h2:w.heap[b2]? = some (.cells v2.toArray t2 (0,0))) :
  (Extern.SlicesOverlaps.overlaps #[t,u] rs #[.slice (some ⟨b1,o1,none⟩) l1 c1, .slice (some ⟨b2,o2,none⟩) l2 c2]).run P w = .ok (.bool false) w:=by
 cases hq:P.info? el with
 | none=>simp [hq] at hs
 | some i =>
  have e:Extern.SlicesOverlaps.overlaps #[t,u] rs #[.slice (some ⟨b1,o1,none⟩) l1 c1, .slice (some ⟨b2,o2,none⟩) l2 c2]=(underlying t >>= fun d=>_):=rfl
  rw [e,Sem.run_bind,run_underlying hu,Result.andThen_ok]
  by_cases hz:l1=0∨l2=0∨i.size=0
  ·simp [hz,sizeOf,typeInfo,hq]
  ·simp [hz,hne,sizeOf,typeInfo,hq,World.frozen?,h1,h2,noView,viewAt,World.shape?,mayBeOne,stringish]
section
attribute [local irreducible] JC JO JR JQ andThen inBlock OpV Gives Xae JM JS
def cmpS (a b:ByteArray):Int:=if Xam a b then -1 else if Xam b a then 1 else 0
theorem Xkk (a b:ByteArray):GivesV prog 241 [.string a, .string b] w F (.int .i64 (cmpS a b)):=by
 refine Xaa func241 rfl ntmps241 rfl rfl [] (.start w F) ?_
 refine wz10 ?_
 refine JR.callV rfl (fun w1 hw=>Xki w1 _ a) ?_
 refine wz10 ?_
 refine JR.callV rfl (fun w1 hw=>Xki w1 _ b) ?_
 refine wz7 ?_
 refine Wf Xhw rfl ?_
 cases h:Xam a b with
 | true =>
  have e1:cmpS a b = -1:=by simp [cmpS,h]
  rw [e1]
  refine wz8 ?_
  exact Xab () rfl
 | false =>
 refine wz7 ?_
 refine Wf Xl5 rfl ?_
 cases h':Xam b a with
 | true =>
  have e1:cmpS a b=1:=by simp [cmpS,h,h']
  rw [e1]
  refine wz8 ?_
  exact Xab () rfl
 | false =>
  have e1:cmpS a b=0:=by simp [cmpS,h,h']
  rw [e1]
  refine wX ?_
  exact Xab () rfl
def Xci (r:Reg_):Bool:=Xc4 r.key && Xc4 r.elem && decide (0 < r.gen) && decide (0≤r.ev.node) && decide (r.ev.node < 8) && decide (0 < r.ev.seq)
def Xiz (r:Reg_):Prop:=r.key.size < 4611686018427387904∧r.elem.size < 4611686018427387904
theorem Xu9 (r:Reg_) (hs:Xiz r):GivesV prog 112 [.agg ⟨regC r⟩] w F (.bool (Xci r)):=by
 obtain ⟨key,elem,gen,⟨no,sq⟩⟩:=r
 refine Xaa func112 rfl ntmps112 rfl rfl [] (.start w F) ?_
 (repeat (refine wE ?_; intro _)); refine wA ?_
 refine JR.callV rfl (fun w1 hw=>Xdo w1 _ key hs.1) ?_
 cases h1:Xc4 key with
 | false =>
  rw [show Xci ⟨key,elem,gen,⟨no,sq⟩⟩=false by simp [Xci,h1]]
  refine wz8 ?_
  exact Xab () rfl
 | true =>
 refine wz6 ?_
 refine JR.callV rfl (fun w1 hw=>Xdo w1 _ elem hs.2) ?_
 cases h2:Xc4 elem with
 | false =>
  rw [show Xci ⟨key,elem,gen,⟨no,sq⟩⟩=false by simp [Xci,h2]]
  refine wz8 ?_
  exact Xab () rfl
 | true =>
 refine wX ?_
 by_cases h3:0 < gen
 ·refine JO.reslot 16 (.bool true) (by congr 1; exact decide_eq_true h3) ?_
  refine wX ?_
  by_cases h4:0≤no
  ·refine JO.reslot 22 (.bool true) (by congr 1; exact decide_eq_true h4) ?_
   refine wX ?_
   by_cases h5:no < 8
   ·refine JO.reslot 28 (.bool true) (by congr 1; exact decide_eq_true h5) ?_
    rw [show Xci ⟨key,elem,gen,⟨no,sq⟩⟩=decide (0 < sq) by simp [Xci,h1,h2,h3,h4,h5]]
    refine wX ?_
    exact Xab () rfl
   ·refine JO.reslot 28 (.bool false) (by congr 1; exact decide_eq_false h5) ?_
    rw [show Xci ⟨key,elem,gen,⟨no,sq⟩⟩=false by simp [Xci,h5]]
    refine wz8 ?_
    exact Xab () rfl
  ·refine JO.reslot 22 (.bool false) (by congr 1; exact decide_eq_false h4) ?_
   rw [show Xci ⟨key,elem,gen,⟨no,sq⟩⟩=false by simp [Xci,h4]]
   refine wz8 ?_
   exact Xab () rfl
 ·refine JO.reslot 16 (.bool false) (by congr 1; exact decide_eq_false h3) ?_
  rw [show Xci ⟨key,elem,gen,⟨no,sq⟩⟩=false by simp [Xci,h3]]
  refine wz8 ?_
  exact Xab () rfl
def X2l (a b:Reg_):List Int:=[cmpI a.gen b.gen,cmpI a.ev.node b.ev.node,cmpI a.ev.seq b.ev.seq,cmpS a.elem b.elem]
def Xyb (a b:Reg_):Bool:=decide (0 < orL (X2l a b))
theorem Xva (a b:Reg_):GivesV prog 239 [.agg ⟨regC a⟩, .agg ⟨regC b⟩] w F (.bool (Xyb a b)):=by
 obtain ⟨k1,u1,g1,⟨n1,s1⟩⟩:=a
 obtain ⟨k2,u2,g2,⟨n2,s2⟩⟩:=b
 refine Xaa func239 rfl ntmps239 rfl rfl [] (.start w F) ?_
 (repeat (refine wE ?_; intro _)); refine wA ?_
 refine Xca 24 mixed ?_
 refine JM.tv 0 ?_
 refine JM.tv 1 ?_
 refine JM.tv 2 ?_
 refine JM.tv 3 ?_
 refine JM.takeCall 4 rfl (by kernel_rfl) rfl (fun w1 hw=>Xda w1 _ g1 g2) rfl rfl ?_
 refine JM.tv 5 ?_
 refine JM.tv 6 ?_
 refine JM.tv 7 ?_
 refine JM.tv 8 ?_
 refine JM.tv 9 ?_
 refine JM.tv 10 ?_
 refine JM.takeCall 11 rfl (by kernel_rfl) rfl (fun w1 hw=>Xda w1 _ n1 n2) rfl rfl ?_
 refine JM.tv 12 ?_
 refine JM.tv 13 ?_
 refine JM.tv 14 ?_
 refine JM.tv 15 ?_
 refine JM.tv 16 ?_
 refine JM.tv 17 ?_
 refine JM.takeCall 18 rfl (by kernel_rfl) rfl (fun w1 hw=>Xda w1 _ s1 s2) rfl rfl ?_
 refine JM.tv 19 ?_
 refine JM.tv 20 ?_
 refine JM.tv 21 ?_
 refine JM.tv 22 ?_
 refine JM.takeCall 23 rfl (by kernel_rfl) rfl (fun w1 hw=>Xkk w1 _ u1 u2) rfl rfl ?_
 refine Xah 24 (by kernel_rfl) rfl rfl rfl (Ww rfl ⟨rfl,by decide,by decide,by decide⟩ fun lb=>Wd ⟨rfl,?_⟩)
 refine Xah 25 (by kernel_rfl) rfl rfl rfl (JR.callV (v:=.int .i64 (orL [cmpI g1 g2,cmpI n1 n2,cmpI s1 s2,cmpS u1 u2])) rfl (fun w1 hw=>?_) (Wd ⟨rfl,?_⟩))
 ·have hb:=hw.sat (.own lb 3 [.int .i64 (cmpI g1 g2), .int .i64 (cmpI n1 n2), .int .i64 (cmpI s1 s2), .int .i64 (cmpS u1 u2)]) (by simp)
  exact (Xzr w1 (fun _=>True) _ 4 [cmpI g1 g2,cmpI n1 n2,cmpI s1 s2,cmpS u1 u2] (Xu8 (L:=[cmpI g1 g2,cmpI n1 n2,cmpI s1 s2,cmpS u1 u2]) hb (by simp))).any
 refine Xah 26 (by kernel_rfl) rfl rfl rfl (Wf Vo rfl (Wd ⟨rfl,?_⟩))
 refine Xah 27 (by kernel_rfl) rfl rfl rfl (Wf Vb rfl (Wd ⟨rfl,?_⟩))
 refine JM.nil (by kernel_rfl) ?_
 refine wz13 ?_
 exact Xab () rfl
def Xkl (L:List Reg_) (i:Nat):Bool :=
 match L[i]? with
 | some c=>Xci c && (match L[i - 1]? with | some b=>decide (i=0) || Xam b.key c.key | none=>true)
 | none=>true
def Xc6 (L:List Reg_):Bool:=Xgq L.length (Xkl L)
theorem Xjf {L:List Reg_} {i:Nat} (h:i < L.length):Xkl L i=(Xci L[i] && (decide (i=0) || Xam (L[i - 1]'(by omega)).key L[i].key)):=by
 unfold Xkl
 rw [List.getElem?_eq_getElem h,List.getElem?_eq_getElem (show i - 1 < L.length by omega)]
theorem Xna (a:Option Addr) (k:Nat) (L:List Reg_) (h:(sl a k L).holds F w) (hs:∀ c∈L,Xiz c) :
  GivesV prog 103 [.slice a L.length k] w F (.bool (Xc6 L)):=by
 have hL:L.length < 9223372036854775807:=by have:=h.2.2.1; simp only [lim] at this; omega
 unfold Xc6
 refine Xaa func103 rfl ntmps103 rfl rfl [.st (sl a k L)] (.start1 h) ?_
 refine wz4 ?_
 refine Xaj (fun (i:Nat)=>[(0, .slice a L.length k),(5, .slice a L.length k),(6, .int .i64 (L.length:Int)),(7, .int .i64 (i:Int))])
  (fun _=>[.st (sl a k L)]) (fun i=>i≤L.length∧Xgq i (Xkl L)=true) (fun i=>L.length - i) 0 ⟨Nat.zero_le _,rfl⟩ iI ?_
 rintro i ⟨hi,hall⟩
 refine wz11 ?_
 refine JC.test (fun hlt=>?_) (fun hge=>?_)
 ·have hlt':i < L.length:=by omega
  have hat:=Xjf hlt'
  have hcut:=Xkf (p:=Xkl L) hlt'
  have hck:=hs _ (List.getElem_mem hlt')
  obtain ⟨c,hc⟩:∃ c,c=L[i]:=⟨_,rfl⟩
  rw [← hc] at hat hck
  refine wz14 ?_
  refine Xe7 rfl hlt' ?_
  intro b3 o3
  rw [← hc]
  (repeat (refine wE ?_; intro _)); refine wA ?_
  rename_i bc
  obtain ⟨j,hj⟩:∃ j,j=i - 1:=⟨_,rfl⟩
  have hjl:j < L.length:=by omega
  refine Xfi (fun _:Unit=>[(0, .slice a L.length k),(5, .slice a L.length k),(6, .int .i64 (L.length:Int)),(7, .int .i64 (i:Int)),(29, .bool (!Xkl L i))]) (fun _=>[.st (sl a k L)]) ?_ ?_
  ·refine Xf9 (L:=L) (.slice a L.length k) j hjl ?_
   intro b4 o4
   obtain ⟨p,hp⟩:∃ p,p=L[j]:=⟨_,rfl⟩
   rw [← hp]
   have hat':Xkl L i=(Xci c && (decide (i=0) || Xam p.key c.key)):=by rw [hat,hp]; simp only [hj]
   refine Xbe mixed (by kernel_rfl) ?_
   refine wY ?_
   refine JQ.call rfl rfl (fun w1 hw=>Xu9 w1 _ c hck) ?_
   cases hk:Xci c with
   | false =>
    refine JQ.reslot 13 (.bool false) rfl ?_
    refine wY ?_
    rw [show Xkl L i=false by rw [hat',hk]; rfl,Bool.not_false]
    exact ⟨rfl,(),iI⟩
   | true =>
   refine JQ.reslot 13 (.bool true) rfl ?_
   refine wY ?_
   by_cases h0:i=0
   ·refine JQ.reslot 18 (.bool false) (by congr 1; exact decide_eq_false (by omega)) ?_
    refine wY ?_
    rw [show Xkl L i=true by rw [hat',hk,decide_eq_true h0]; rfl,Bool.not_true]
    exact ⟨rfl,(),iI⟩
   refine JQ.reslot 18 (.bool true) (by congr 1; exact decide_eq_true (by omega)) ?_
   refine wY ?_
   refine JQ.reslot 23 (.int .i64 (j:Int)) (by congr 1; omega) ?_
   refine wY ?_
   refine Wy rfl Xl4 rfl ?_
   refine wY ?_
   rw [show Xkl L i=Xam p.key c.key by rw [hat',hk,decide_eq_false h0]; rfl]
   exact ⟨rfl,(),iI⟩
  rintro ⟨⟩
  cases hx:Xkl L i with
  | false =>
   refine wz8 ?_
   refine Xab () ?_
   simp only [Xaf]
   rw [hcut hx]
  | true =>
  refine wz2 ?_
  exact ⟨i+1,⟨by omega,Xh1 hall hx⟩,by omega,iI⟩
 ·obtain rfl:i=L.length:=by omega
  refine wz3 ?_
  refine Xab () ?_
  simp only [Xaf]
  rw [hall]
def Xi0 (L:List Reg_):Prop:=∀ i j (hi:i < L.length) (hj:j < L.length),i < j→Xam L[i].key L[j].key=true
def posR (L:List Reg_) (key:ByteArray):Nat:=L.findIdx (fun r=>!Xam r.key key)
def hasR (L:List Reg_) (key:ByteArray):Bool:=match L[posR L key]? with | some r=>decide (r.key=key) | none=>false
theorem X0r (L:List Reg_) (key:ByteArray):posR L key≤L.length:=List.findIdx_le_length
theorem X0s {L:List Reg_} {key:ByteArray} {i:Nat} (hi:i≤L.length) (h1:∀ k (hk:k < L.length),k < i→Xam L[k].key key=true) (h2:∀ k (hk:k < L.length),i≤k→Xam L[k].key key=false):posR L key=i:=by
 unfold posR
 rcases Nat.lt_or_ge i L.length with hl | hl
 ·rw [List.findIdx_eq hl]
  refine ⟨by simp [h2 i hl (Nat.le_refl _)],fun j hj=>by simp [h1 j (by omega) hj]⟩
 ·have:i=L.length:=by omega
  subst this
  rw [List.findIdx_eq_length]
  intro x hx
  obtain ⟨k,hk,rfl⟩:=List.getElem_of_mem hx
  simp [h1 k hk hk]
theorem Xvb {a b:ByteArray}:decide (cmpS a b < 0)=Xam a b:=by
 unfold cmpS
 cases h:Xam a b with
 | true=>simp
 | false=>cases h':Xam b a <;> simp
theorem Xvc {a b:ByteArray}:decide (cmpS a b=0)=decide (a=b):=by
 unfold cmpS
 by_cases e:a=b
 ·subst e; simp [Xcx]
 ·rcases Xcb e with h | h
  ·simp [h,e]
  ·simp [h,Xd6 h,e]
theorem Xon (r:Reg_) (key:ByteArray):GivesV prog 289 [.agg ⟨regC r⟩, .string key] w F (.int .i64 (cmpS r.key key)):=by
 obtain ⟨k1,u1,g1,⟨n1,s1⟩⟩:=r
 refine Xaa func289 rfl ntmps289 rfl rfl [] (.start w F) ?_
 (repeat (refine wE ?_; intro _)); refine wA ?_
 refine JR.callV rfl (fun w1 hw=>Xkk w1 _ k1 key) ?_
 refine wz10 ?_
 exact Xab () rfl
theorem Xsv (a:Option Addr) (k:Nat) (L:List Reg_) (key:ByteArray) (h:(sl a k L).holds F w) (hs:Xi0 L) :
  GivesV prog 288 [.slice a L.length k, .string key, .func (.func 289) ⟨[]⟩ ⟨[]⟩] w F (.tuple ⟨[.int .i64 (posR L key:Int), .bool (hasR L key)]⟩):=by
 have hL:L.length < 4611686018427387904:=by have:=h.2.2.1; simp only [lim] at this; omega
 refine Xaa func288 rfl ntmps288 rfl rfl [.st (sl a k L)] (.start1 h) ?_
 refine wz4 ?_
 refine Xdt (fun (i j:Nat)=>[(0, .slice a L.length k),(1, .string key),(2, .func (.func 289) ⟨[]⟩ ⟨[]⟩),(8, .int .i64 (L.length:Int)),(9, .int .i64 (i:Int)),(10, .int .i64 (j:Int))])
  (fun _ _=>[.st (sl a k L)]) (fun i j=>i≤j∧j≤L.length∧(∀ m (hm:m < L.length),m < i→Xam L[m].key key=true)∧∀ m (hm:m < L.length),j≤m→Xam L[m].key key=false) (fun i j=>j - i) 0 L.length
  ⟨Nat.zero_le _,Nat.le_refl _,fun m hm h=>by omega,fun m hm h=>by omega⟩ iI ?_
 rintro i j ⟨hij,hjL,h1,h2⟩
 refine wz11 ?_
 refine JC.test (fun hlt=>?_) (fun hge=>?_)
 ·have hlt':i < j:=by omega
  obtain ⟨m,hm⟩:∃ m,m=(i+j) / 2:=⟨_,rfl⟩
  have hmL:m < L.length:=by omega
  refine wA ?_
  refine Wf Xbm rfl ?_
  refine JO.reslot 21 (.int .u64 ((i+j:Nat):Int)) (by congr 1; rw [IntKind.wrap_u64]; omega) ?_
  refine wz13 ?_
  refine Wf (OpV.shr (by decide)) rfl ?_
  refine JO.reslot 22 (.int .u64 ((m:Nat):Int)) (by
   congr 1
   show Int.fdiv ((i+j:Nat):Int) 2=_
   rw [Int.fdiv_eq_ediv_of_nonneg _ (by omega)]
   omega) ?_
  refine wz13 ?_
  refine Wf Xbm rfl ?_
  refine JO.reslot 23 (.int .i64 ((m:Nat):Int)) (by congr 1; rw [IntKind.wrap_i64]; omega) ?_
  refine wz10 ?_
  refine Xe7 rfl hmL ?_
  intro b3 o3
  obtain ⟨c,hc⟩:∃ c,c=L[m]:=⟨_,rfl⟩
  rw [← hc]
  refine wz6 ?_
  refine JR.callV rfl (fun w1 hw=>Xon w1 _ c key) ?_
  refine wz11 ?_
  refine JC.reslot 31 (.bool (Xam c.key key)) (by congr 1; exact Xvb) ?_
  cases hx:Xam c.key key with
  | true =>
   refine wz12 ?_
   refine ⟨m+1,j,⟨by omega,hjL,fun q hq hqm=>?_,h2⟩,by omega,iI⟩
   by_cases e:q=m
   ·subst e; rw [← hc]; exact hx
   ·exact Xbr (hs q m hq hmL (by omega)) (by rw [← hc]; exact hx)
  | false =>
   refine wz2 ?_
   refine ⟨i,m,⟨by omega,by omega,h1,fun q hq hqm=>?_⟩,by omega,iI⟩
   by_cases e:q=m
   ·subst e; rw [← hc]; exact hx
   ·cases hy:Xam L[q].key key with
    | false=>rfl
    | true =>
     have:=Xbr (hs m q hmL hq (by omega)) hy
     rw [← hc,hx] at this; cases this
 ·obtain rfl:i=j:=by omega
  have hpos:posR L key=i:=X0s hjL h1 h2
  rw [hpos]
  by_cases hi:i < L.length
  ·have hhas:hasR L key=decide (L[i].key=key):=by unfold hasR; rw [hpos,List.getElem?_eq_getElem hi]
   rw [hhas]
   obtain ⟨c,hc⟩:∃ c,c=L[i]:=⟨_,rfl⟩
   rw [← hc]
   refine wX ?_
   refine JO.reslot 39 (.bool true) (by congr 1; exact decide_eq_true (by omega)) ?_
   refine wz6 ?_
   refine Xe7 rfl hi ?_
   intro b3 o3
   rw [← hc]
   refine wz6 ?_
   refine JR.callV rfl (fun w1 hw=>Xon w1 _ c key) ?_
   refine wX ?_
   refine Xab () ?_
   simp only [Xaf,Xvc]
  ·have hhas:hasR L key=false:=by unfold hasR; rw [hpos,List.getElem?_eq_none (by omega)]
   rw [hhas]
   refine wX ?_
   refine JO.reslot 39 (.bool false) (by congr 1; exact decide_eq_false (by omega)) ?_
   refine wz8 ?_
   exact Xab () rfl
theorem Xyc (a:Option Addr) (k:Nat) (L:List Reg_) (key:ByteArray) (h:(sl a k L).holds F w) (hs:Xi0 L) :
  GivesV prog 237 [.slice a L.length k, .string key] w F (.tuple ⟨[.int .i64 (posR L key:Int), .bool (hasR L key)]⟩):=by
 refine Xaa func237 rfl ntmps237 rfl rfl [.st (sl a k L)] (.start1 h) ?_
 refine wz10 ?_
 refine JR.callV rfl (fun w1 hw=>Xsv w1 _ a k L key hw.get hs) ?_
 refine wA ?_
 exact Xab () rfl
theorem Xfb {L:List Reg_} (h:Xc6 L=true):Xi0 L:=by
 have h1:∀ i (hi:i+1 < L.length),Xam L[i].key L[i+1].key=true:=by
  intro i hi
  have:=List.all_eq_true.1 h (i+1) (List.mem_range.2 hi)
  rw [Xjf hi] at this
  simp only [Nat.add_sub_cancel,Bool.and_eq_true,Bool.or_eq_true,decide_eq_true_eq] at this
  exact this.2.resolve_left (by omega)
 intro i j hi hj hij
 induction j with
 | zero=>omega
 | succ j ih =>
  rcases Nat.lt_or_ge i j with hl | hl
  ·exact Xbr (ih (by omega) hl) (h1 j hj)
  ·obtain rfl:i=j:=by omega
   exact h1 i hj
theorem Xnb {w:World} {b1 o1 l1 c1 b2 o2 l2 c2:Nat} {t1 t2:TypeId} {v1 v2:List Value} (hne:b1≠b2) (h1:w.heap[b1]? = some (.cells v1.toArray t1 (0,0))) (h2:w.heap[b2]? = some (.cells v2.toArray t2 (0,0))) :
  (callFunc 290 ⟨[.slice (some ⟨b1,o1,none⟩) l1 c1, .slice (some ⟨b2,o2,none⟩) l2 c2]⟩).run prog w = .ok (.value (.bool false)) w:=by
 rw [run_callFunc_extern func290 (by kernel_rfl) (by kernel_rfl) (by kernel_rfl) (e:=Extern.SlicesOverlaps.overlaps #[35,35] #[4]) (by kernel_rfl)]
 have:=Xom (P:=prog) w (t:=35) (u:=35) (el:=91) (rs:=#[4]) (o1:=o1) (l1:=l1) (c1:=c1) (o2:=o2) (l2:=l2) (c2:=c2) (by kernel_rfl) (by kernel_rfl) hne h1 h2
 rw [this]; rfl
def insR (L:List Reg_) (i:Nat) (u:Reg_):List Reg_:=L.take i++u::L.drop i
theorem Xqa {A B:List Value} {n:Nat} (h:A.length=n):(A++B).take n=A:=by rw [← h]; exact List.take_left
theorem Xyd {A B:List Value} {n:Nat} (h:A.length=n):(A++B).drop n=B:=by rw [← h]; exact List.drop_left
theorem Xqb {w0 w:World} {F:Nat→Prop} {Γ:List Fact} {p:Option Addr} {q bv:Nat} (L:List Reg_) (i:Nat) (u:Reg_) (hi:i≤L.length) (hl:L.length < 4294967296)
  (ho:Hold w0 F (.res (buf p q 91 L)::.own bv 91 (regC u)::Γ) w) :
  Calls prog 238 ⟨[.slice p L.length q, .int .i64 (i:Int), .slice (some ⟨bv,0,none⟩) 1 1]⟩ w fun x w'=>∃ y:Option Addr × Nat,x = .returned (.slice y.1 (insR L i u).length y.2) ∧
   Hold w0 F (.res (buf y.1 y.2 91 (insR L i u))::.own bv 91 (regC u)::Γ) w':=by
 obtain ⟨k1,u1,g1,⟨n1,s1⟩⟩:=u
 by_cases hin:i=L.length
 ·subst hin
  have e0:insR L L.length ⟨k1,u1,g1,⟨n1,s1⟩⟩=L++[⟨k1,u1,g1,⟨n1,s1⟩⟩]:=by simp [insR]
  rw [e0]
  have hq:∀ w1,Hold w0 F (.res (buf p q 91 L)::.own bv 91 (regC ⟨k1,u1,g1,⟨n1,s1⟩⟩)::Γ) w1→L.length≤q:=fun w1 ho=>by
   have h1:=(ho.bufSl (a:=p) (c:=q) (L:=L)).1
   exact h1
  refine Xbu (v:=fun y:Option Addr × Nat=>.slice y.1 (L++[(⟨k1,u1,g1,⟨n1,s1⟩⟩:Reg_)]).length y.2) (B:=fun y=>.res (buf y.1 y.2 91 (L++[(⟨k1,u1,g1,⟨n1,s1⟩⟩:Reg_)]))::.own bv 91 (regC ⟨k1,u1,g1,⟨n1,s1⟩⟩)::Γ)
   func238 rfl ntmps238 rfl rfl _ ho ?_
  refine wz10 ?_
  refine Wf (Xlh (l:=L.length) (s:=5) rfl (by exact fun w1 ho=>⟨Nat.le_refl _,hq w1 ho⟩)) rfl ?_
  refine wA ?_
  refine JC.test (fun _=>?_) (fun h=>absurd rfl h)
  refine wz14 ?_
  refine Xp9 (u:=(⟨k1,u1,g1,⟨n1,s1⟩⟩:Reg_)) rfl (by exact ⟨rfl,rfl,by decide⟩) (by omega) ?_
  intro a2 c2
  refine wz9 ?_
  exact CT.done (a2,c2) rfl (fun w ho=>ho)
 have hlt:i < L.length:=by omega
 have hne:L≠[]:=by intro h; subst h; simp at hlt
 obtain ⟨b,rfl⟩:=Xja (ho.sat (.res (buf p q 91 L)) (by simp)) hne
 have hbv:bv≠b:=by
  rintro rfl
  have hd:=ho.dis
  rw [List.pairwise_cons] at hd
  exact hd.1 _ (List.mem_cons_self ..) bv ⟨(Xm7 bv).2 rfl,rfl⟩
 refine Xbu (v:=fun y:Option Addr × Nat=>.slice y.1 (insR L i ⟨k1,u1,g1,⟨n1,s1⟩⟩).length y.2) (B:=fun y=>.res (buf y.1 y.2 91 (insR L i ⟨k1,u1,g1,⟨n1,s1⟩⟩))::.own bv 91 (regC ⟨k1,u1,g1,⟨n1,s1⟩⟩)::Γ)
  func238 rfl ntmps238 rfl rfl _ ho ?_
 refine JC.openC (L:=L) (cs:=regC) fun junk hj hLq hqm hlim=>?_
 have hlenI:(insR L i ⟨k1,u1,g1,⟨n1,s1⟩⟩).length=L.length+1:=by simp [insR]; omega
 have hflI:fl regC (insR L i ⟨k1,u1,g1,⟨n1,s1⟩⟩)=fl regC (L.take i)++(regC ⟨k1,u1,g1,⟨n1,s1⟩⟩++fl regC (L.drop i)):=by rw [insR,Xd9,Xfa]
 have hflL:fl regC L=fl regC (L.take i)++fl regC (L.drop i):=by rw [← Xd9,List.take_append_drop]
 have hA:(fl regC (L.take i)).length=i * 5:=by have:=Xc5 (cs:=regC) (L.take i); rw [List.length_take,Nat.min_eq_left hi] at this; exact this
 have hB:(fl regC (L.drop i)).length=(L.length - i) * 5:=by have:=Xc5 (cs:=regC) (L.drop i); rw [List.length_drop] at this; exact this
 have hB1:=X2k (cs:=regC) (L.drop i)
 have hU1:∀ v∈regC ⟨k1,u1,g1,⟨n1,s1⟩⟩,v.oneCell'=true:=PlainC.one (cs:=regC) (⟨k1,u1,g1,⟨n1,s1⟩⟩:Reg_)
 have hj':L.length * 5+junk.length=q * 5:=hj
 rw [hflL]
 generalize fl regC (L.take i)=A at hA hflI
 generalize fl regC (L.drop i)=B at hB hB1 hflI
 obtain ⟨n,hn⟩:∃ n,n=L.length:=⟨_,rfl⟩
 rw [← hn] at hlt hl hLq hlim hlenI hB hj' ⊢
 have hmn:∀ a b:Nat,a≤b→Nat.min a b=a:=fun a b h=>Nat.min_eq_left h
 have hmn':∀ a b:Nat,b≤a→Nat.min a b=b:=fun a b h=>Nat.min_eq_right h
 refine wz10 ?_
 refine Wf (Xba (l:=i) fun w1 ho=>⟨by omega,hLq⟩) rfl ?_
 refine wA ?_
 refine JC.test (fun h=>absurd h (by omega)) (fun _=>?_)
 refine wA ?_
 refine Wf OpV.cap rfl ?_
 refine wz5 ?_
 refine JC.test (fun hfull=>?_) (fun hroom=>?_)
 ·have hnq:q=n:=by omega
  refine wz14 ?_
  refine Wf (Xbb (k:=i) fun w1 ho=>by omega) rfl ?_
  refine wA ?_
  refine JR.reslot 39 (.int .i64 ((n+1 - i:Nat):Int)) rfl ?_
  refine Xg8 (p:=0) (k:=n+1 - i) (l:=i) (cs:=A) rfl (by exact ⟨rfl,by decide,by decide⟩) (by rw [List.append_assoc]; exact Xqa hA) hA ⟨by omega,by omega⟩ (by omega) (by omega) ?_
  intro b2 c2 zs hc1 hc2 hz
  have hz':zs.length=(c2 - i) * 5:=by rw [hA] at hz; omega
  rw [show i+(n+1 - i)=n+1 by omega]
  refine wz10 ?_
  refine Wf (Xba (l:=i) fun w1 ho=>⟨by omega,by omega⟩) rfl ?_
  refine JO.reslot 43 (.slice (some ⟨b2,i * 5,none⟩) (n+1 - i) (c2 - i)) (by rw [if_neg (by omega)]) ?_
  refine wz6 ?_
  refine Xje (regC ⟨k1,u1,g1,⟨n1,s1⟩⟩) (A++(regC ⟨k1,u1,g1,⟨n1,s1⟩⟩++zs.drop 5)) rfl (by rw [hmn _ _ (by omega)]; rfl) (Nat.zero_le _) (by rw [hmn _ _ (by omega)]; rfl) (by rw [List.length_append,hA,hz']; simp only [regC,List.length_cons,List.length_nil]; omega) hU1 (by
   rw [Xqa hA,← hA,List.drop_append,List.drop_of_length_le (by omega),List.nil_append,Nat.add_sub_cancel_left,List.append_assoc]; rfl) ?_
  refine wz10 ?_
  refine Xca 8 mixed ?_
  refine JM.tv 0 ?_
  refine JM.tv 1 ?_
  refine JM.tv 2 ?_
  refine JM.take 3 rfl (by kernel_rfl) rfl (Vt (by omega)) rfl rfl ?_
  refine JM.reslot 49 (.int .i64 ((i+1:Nat):Int)) (by congr 1) ?_
  refine JM.take 4 rfl (by kernel_rfl) rfl (Xba (l:=i+1) fun w1 ho=>⟨by omega,by omega⟩) rfl rfl ?_
  refine JM.reslot 50 (.slice (some ⟨b2,(i+1) * 5,none⟩) (n+1 - (i+1)) (c2 - (i+1))) (by rw [if_neg (by omega)]) ?_
  refine JM.tv 5 ?_
  refine JM.tv 6 ?_
  refine JM.take 7 rfl (by kernel_rfl) rfl (Xba (l:=i) fun w1 ho=>⟨by omega,hLq⟩) rfl rfl ?_
  refine JM.reslot 53 (.slice (some ⟨b,i * 5,none⟩) (n - i) (q - i)) (by rw [if_neg (by omega)]) ?_
  refine Xah 8 (by kernel_rfl) rfl rfl rfl ?_
  refine Xje B (A++(regC ⟨k1,u1,g1,⟨n1,s1⟩⟩++(B++(zs.drop 5).drop ((n - i) * 5)))) rfl
   (by rw [hmn _ _ (by omega),Nat.sub_zero,List.append_assoc,Xyd hA]; exact Xqa hB) (Nat.zero_le _) (by rw [hmn _ _ (by omega)]; exact hB)
   (by simp only [List.length_append,List.length_drop,hA,hB,hz',regC,List.length_cons,List.length_nil]; omega) hB1 (by
    have e5:(A++regC ⟨k1,u1,g1,⟨n1,s1⟩⟩).length=(i+1) * 5:=by simp only [List.length_append,hA,regC,List.length_cons,List.length_nil]; omega
    rw [← List.append_assoc A,Xqa e5,hB,← List.drop_drop,Xyd e5]
    simp only [List.append_assoc]) ?_
  refine Wd ⟨rfl,?_⟩
  refine JM.nil (by kernel_rfl) ?_
  refine wz9 ?_
  refine CT.done (some ⟨b2,0,none⟩,c2) ?_ (fun w ho=>?_)
  ·simp only [Xaf,hlenI]
  ·have h9:Hold w0 F (.own b2 91 (A++(regC ⟨k1,u1,g1,⟨n1,s1⟩⟩++(B++(zs.drop 5).drop ((n - i) * 5))))::.own bv 91 (regC ⟨k1,u1,g1,⟨n1,s1⟩⟩)::Γ) w:=ho.ent
   refine h9.closeC (cs:=regC) (insR L i ⟨k1,u1,g1,⟨n1,s1⟩⟩) ((zs.drop 5).drop ((n - i) * 5)) (by rw [hflI]; simp only [List.append_assoc]) ?_ (by omega) hc2 (by rw [hlenI]; simp only [lim]; omega)
   show _ * 5+_=_ * 5
   simp only [List.length_drop,hz',hlenI]
   omega
 ·have hnq:n+1≤q:=by omega
  refine wA ?_
  refine Wf (Xbb (k:=n+1) fun w1 ho=>hnq) rfl ?_
  refine wA ?_
  refine Wf (Xba (l:=i+1) fun w1 ho=>⟨by omega,hnq⟩) rfl ?_
  refine JO.reslot 66 (.slice (some ⟨b,(i+1) * 5,none⟩) (n+1 - (i+1)) (q - (i+1))) (by rw [if_neg (by omega)]) ?_
  refine We rfl ?_
  refine Wf (Xht fun w1 hw=>Xnb hbv (hw.sat (.own bv 91 (regC ⟨k1,u1,g1,⟨n1,s1⟩⟩)) (by simp)) (hw.sat (.own b 91 (A++B++junk)) (by simp))) rfl ?_
  refine wz8 ?_
  refine Xca 8 mixed ?_
  refine JM.tv 0 ?_
  refine JM.tv 1 ?_
  refine JM.tv 2 ?_
  refine JM.take 3 rfl (by kernel_rfl) rfl (Vt (by omega)) rfl rfl ?_
  refine JM.reslot 72 (.int .i64 ((i+1:Nat):Int)) (by congr 1) ?_
  refine JM.take 4 rfl (by kernel_rfl) rfl (Xba (l:=i+1) fun w1 ho=>⟨by omega,hnq⟩) rfl rfl ?_
  refine JM.reslot 73 (.slice (some ⟨b,(i+1) * 5,none⟩) (n+1 - (i+1)) (q - (i+1))) (by rw [if_neg (by omega)]) ?_
  refine JM.tv 5 ?_
  refine JM.tv 6 ?_
  refine JM.take 7 rfl (by kernel_rfl) rfl (Xba (l:=i) fun w1 ho=>⟨by omega,hnq⟩) rfl rfl ?_
  refine JM.reslot 76 (.slice (some ⟨b,i * 5,none⟩) (n+1 - i) (q - i)) (by rw [if_neg (by omega)]) ?_
  refine Xah 8 (by kernel_rfl) rfl rfl rfl ?_
  have e5:((A++B++junk).take ((i+1) * 5)).length=(i+1) * 5:=by rw [List.length_take]; simp only [List.length_append,hA,hB]; omega
  refine Xje B ((A++B++junk).take ((i+1) * 5)++(B++junk.drop 5)) rfl
   (by rw [hmn' _ _ (by omega),Nat.sub_zero,List.append_assoc,Xyd hA]; exact Xqa (by rw [hB]; congr 1; omega)) (Nat.zero_le _) (by rw [hmn' _ _ (by omega),hB]; congr 1; omega)
   (by simp only [List.length_append,hA,hB]; omega) hB1 (by
    rw [List.append_assoc _ B,show (i+1) * 5+B.length=(A++B).length+5 by simp only [List.length_append,hA,hB]; omega,List.drop_append,List.drop_of_length_le (l:=A++B) (by omega),List.nil_append,Nat.add_sub_cancel_left]) ?_
  refine Wd ⟨rfl,?_⟩
  refine JM.nil (by kernel_rfl) ?_
  refine wz14 ?_
  refine Wf (Xba (l:=i) fun w1 ho=>⟨by omega,hnq⟩) rfl ?_
  refine JO.reslot 80 (.slice (some ⟨b,i * 5,none⟩) (n+1 - i) (q - i)) (by rw [if_neg (by omega)]) ?_
  refine wz6 ?_
  refine Xje (regC ⟨k1,u1,g1,⟨n1,s1⟩⟩) (A++(regC ⟨k1,u1,g1,⟨n1,s1⟩⟩++(B++junk.drop 5))) rfl (by rw [hmn _ _ (by omega)]; rfl) (Nat.zero_le _) (by rw [hmn _ _ (by omega)]; rfl)
   (by rw [List.length_append,e5]; simp only [regC,List.length_cons,List.length_nil]; omega) hU1 (by
    rw [List.take_append_of_le_length (by omega),List.take_take,Nat.min_eq_left (by omega),List.append_assoc A,Xqa hA,Xyd (by rw [List.append_assoc A] at e5; rw [e5]; simp only [regC,List.length_cons,List.length_nil]; omega),List.append_assoc]) ?_
  refine wz9 ?_
  refine CT.done (some ⟨b,0,none⟩,q) ?_ (fun w ho=>?_)
  ·simp only [Xaf,hlenI]
  ·have h9:Hold w0 F (.own b 91 (A++(regC ⟨k1,u1,g1,⟨n1,s1⟩⟩++(B++junk.drop 5)))::.own bv 91 (regC ⟨k1,u1,g1,⟨n1,s1⟩⟩)::Γ) w:=ho.ent
   refine h9.closeC (cs:=regC) (insR L i ⟨k1,u1,g1,⟨n1,s1⟩⟩) (junk.drop 5) (by rw [hflI]; simp only [List.append_assoc]) ?_ (by omega) hqm (by rw [hlenI]; simp only [lim]; omega)
   show _ * 5+_=_ * 5
   simp only [List.length_drop,hlenI]
   omega
def putR (L:List Reg_) (r:Reg_):List Reg_ :=
 match hasR L r.key with
 | true=>match L[posR L r.key]? with | some o=>if Xyb r o then L.set (posR L r.key) r else L | none=>L
 | false=>insR L (posR L r.key) r
theorem Xnc {L:List Reg_} {key:ByteArray} (h:hasR L key=true):posR L key < L.length:=by
 unfold hasR at h
 cases hx:L[posR L key]? with
 | none=>rw [hx] at h; cases h
 | some r=>exact (List.getElem?_eq_some_iff.1 hx).1
theorem Xye {L:List Reg_} {key:ByteArray} (h:hasR L key=true):(L[posR L key]'(Xnc h)).key=key:=by
 have hl:=Xnc h
 unfold hasR at h
 rw [List.getElem?_eq_getElem hl] at h
 simpa using h
theorem Xkm {L:List Reg_}:Xi0 L↔L.Pairwise (fun a b=>Xam a.key b.key=true):=by
 rw [List.pairwise_iff_getElem]
 exact ⟨fun h i j hi hj hij=>h i j hi hj hij,fun h i j hi hj hij=>h i j hi hj hij⟩
theorem Xqc {L:List Reg_} {key:ByteArray} {k:Nat} (hk:k < L.length) (h:k < posR L key):Xam L[k].key key=true:=by
 have:=List.not_of_lt_findIdx (p:=fun r:Reg_=>!Xam r.key key) h
 simpa using this
theorem Xqd {L:List Reg_} {key:ByteArray} (hs:Xi0 L) (hh:hasR L key=false) {k:Nat} (hk:k < L.length) (h:posR L key≤k):Xam key L[k].key=true:=by
 have hp:posR L key < L.length:=by omega
 have h1:Xam L[posR L key].key key=false:=by
  have:=List.findIdx_getElem (p:=fun r:Reg_=>!Xam r.key key) (xs:=L) (w:=hp)
  simp only [Bool.not_eq_true'] at this
  exact this
 have h2:L[posR L key].key≠key:=by
  unfold hasR at hh
  rw [List.getElem?_eq_getElem hp] at hh
  simpa using hh
 have h3:Xam key L[posR L key].key=true:=by
  rcases Xcb h2 with x | x
  ·rw [h1] at x; cases x
  ·exact x
 rcases Nat.eq_or_lt_of_le h with e | e
 ·simpa [← e] using h3
 ·exact Xbr h3 (hs _ k hp hk e)
theorem Xvd {L:List Reg_} (hs:Xi0 L) (r:Reg_):Xi0 (putR L r):=by
 unfold putR
 cases hh:hasR L r.key with
 | true =>
  have hl:=Xnc hh
  have hk:=Xye hh
  simp only [List.getElem?_eq_getElem hl]
  split
  ·intro i j hi hj hij
   have e:∀ m (hm:m < (L.set (posR L r.key) r).length),(L.set (posR L r.key) r)[m].key=(L[m]'(by simpa using hm)).key:=by
    intro m hm
    rw [List.getElem_set]
    split
    ·rename_i e; subst e; exact hk.symm
    ·rfl
   rw [e i hi,e j hj]
   exact hs i j _ _ hij
  ·exact hs
 | false =>
  simp only [insR]
  rw [Xkm,List.pairwise_append,List.pairwise_cons]
  have hp:=Xkm.1 hs
  have hb:∀ x∈L.drop (posR L r.key),Xam r.key x.key=true:=by
   intro x hx
   obtain ⟨k,hk,rfl⟩:=List.getElem_of_mem hx
   rw [List.getElem_drop]
   exact Xqd hs hh _ (by omega)
  refine ⟨hp.sublist (List.take_sublist _ _),⟨hb,hp.sublist (List.drop_sublist _ _)⟩,fun x hx y hy=>?_⟩
  have hxr:Xam x.key r.key=true:=by
   obtain ⟨k,hk,rfl⟩:=List.getElem_of_mem hx
   rw [List.length_take] at hk
   rw [List.getElem_take]
   exact Xqc _ (by omega)
  rcases List.mem_cons.1 hy with rfl | hy
  ·exact hxr
  ·exact Xbr hxr (hb y hy)
theorem Xyf {L:List Reg_} {r x:Reg_} (h:x∈putR L r):x∈L∨x=r:=by
 unfold putR at h
 split at h
 ·split at h
  ·split at h
   ·exact List.mem_or_eq_of_mem_set h
   ·exact .inl h
  ·exact .inl h
 ·simp only [insR,List.mem_append,List.mem_cons] at h
  rcases h with h | h | h
  ·exact .inl (List.mem_of_mem_take h)
  ·exact .inr h
  ·exact .inl (List.mem_of_mem_drop h)
theorem Xqe (L:List Reg_) (r:Reg_):(putR L r).length≤L.length+1:=by
 unfold putR
 split
 ·split
  ·split
   ·simp
   ·omega
  ·omega
 ·simp only [insR,List.length_append,List.length_cons,List.length_take,List.length_drop]
  omega
def Xfk (L M:List Reg_):List Reg_:=M.foldl putR L
theorem Xh2:∀ (M:List Reg_) {L:List Reg_},Xi0 L→Xi0 (Xfk L M)
 | [],_,h=>h
 | r::M,L,h=>Xh2 M (Xvd h r)
theorem Xg9:∀ (M:List Reg_) {L:List Reg_} {x:Reg_},x∈Xfk L M→x∈L∨x∈M
 | [],_,_,h=>.inl h
 | r::M,L,x,h=>by
  rcases Xg9 M (L:=putR L r) h with h | h
  ·rcases Xyf h with h | h
   ·exact .inl h
   ·exact .inr (by simp [h])
  ·exact .inr (List.mem_cons_of_mem _ h)
theorem Xik:∀ (M L:List Reg_),(Xfk L M).length≤L.length+M.length
 | [],L=>Nat.le_refl _
 | r::M,L=>by
  have h1:=Xik M (putR L r)
  have h2:=Xqe L r
  simp only [Xfk,List.foldl_cons,List.length_cons] at *
  omega
theorem Xsw (L M:List Reg_) (r:Reg_):Xfk L (M++[r])=putR (Xfk L M) r:=by simp [Xfk]
def Xcs (L:List Reg_) (r:Reg_):List Reg_:=if (Xc6 L && Xci r)=true then Xfk L [r] else []
def Xcj (a b:List Reg_):List Reg_:=if (Xc6 a && Xc6 b)=true then Xfk a b else []
theorem Xl8 {L:List Reg_}:Xc6 L=true↔(∀ p∈L,Xci p=true)∧Xi0 L:=by
 constructor
 ·intro h
  refine ⟨fun p hp=>?_,Xfb h⟩
  obtain ⟨i,hi,rfl⟩:=List.getElem_of_mem hp
  unfold Xc6 Xgq at h
  have:=List.all_eq_true.1 h i (List.mem_range.2 hi)
  rw [Xjf hi,Bool.and_eq_true] at this; exact this.1
 ·rintro ⟨h1,h2⟩
  unfold Xc6 Xgq
  rw [List.all_eq_true]
  intro i hi
  have hi':=List.mem_range.1 hi
  rw [Xjf hi',h1 _ (List.getElem_mem hi'),Bool.true_and,Bool.or_eq_true,decide_eq_true_eq]
  rcases Nat.eq_zero_or_pos i with e | e
  ·exact .inl e
  ·exact .inr (h2 (i - 1) i (by omega) hi' (by omega))
theorem Xkn {L M:List Reg_} (h:Xc6 L=true) (hM:∀ r∈M,Xci r=true):Xc6 (Xfk L M)=true:=by
 rw [Xl8] at *
 exact ⟨fun p hp=>(Xg9 M hp).elim (h.1 p) (hM p),Xh2 M h.2⟩
theorem Xsx (L:List Reg_) (r:Reg_):Xc6 (Xcs L r)=true:=by
 unfold Xcs
 split
 ·rename_i h
  rw [Bool.and_eq_true] at h
  exact Xkn h.1 (fun x hx=>by simp at hx; subst hx; exact h.2)
 ·rfl
theorem Xoo (a b:List Reg_):Xc6 (Xcj a b)=true:=by
 unfold Xcj
 split
 ·rename_i h
  rw [Bool.and_eq_true] at h
  exact Xkn h.1 (Xl8.1 h.2).1
 ·rfl
end
section
open Go Go.RowKit Go.Sort
theorem Xop (w:World) (g:Nat) (cur:Array Value) (el:TypeId) (F:Array Value) (hg:w.heap[g]? = some (.cells cur el (0,0))) :
  (Go.Sort.putRow id w g 0 F).heap[g]? = some (.cells (Go.Sort.putCells id 0 F cur) el (0,0)):=by
 simp [Go.Sort.putRow,Go.Sort.mapBlock,Go.Sort.onCells,Array.getElem?_modify,hg]
theorem Xoq (w:World) (g k:Nat) (F:Array Value) (hk:k≠g):(Go.Sort.putRow id w g 0 F).heap[k]? = w.heap[k]?:=by
 simp [Go.Sort.putRow,Go.Sort.mapBlock,Array.getElem?_modify,Ne.symm hk]
theorem Xnd (F cur:Array Value):(Go.Sort.putCells id 0 F cur).size=cur.size:=by simp [Go.Sort.putCells]
theorem Xor (F cur:Array Value) (k:Nat) (hk:k < F.size) (hc:F.size≤cur.size):(Go.Sort.putCells id 0 F cur)[k]? = some F[k]!:=by
 have:k < cur.size:=by omega
 simp [Go.Sort.putCells,this,hk]
def Xgl (L:List ID):List Value:=L.flatMap idc
theorem Xne (L:List ID):(Xgl L).length=L.length * 32:=by
 induction L with
 | nil=>rfl
 | cons a L ih=>simp only [Xgl,List.flatMap_cons,List.length_append,Xbw] at *; rw [ih]; simp; omega
theorem Xnf (r:List (ID × Unit)):flat (α:=ID) r=Xgl (r.map (·.1)):=by
 induction r with
 | nil=>rfl
 | cons p r ih=>simp only [flat,ih,Xgl,List.map_cons,List.flatMap_cons]; rfl
theorem Xl9 (L:List ID) (t:Nat) (h:t < L.length * 32):(Xgl L)[t]? = some ((idc (L.toArray[t / 32]!))[t % 32]!):=by
 have hi:t / 32 < L.length:=by omega
 have:=Xjs (α:=ID) (L.map fun x=>(x,())) (t / 32) (by simpa using hi) (t % 32) ((idc (L.toArray[t / 32]!))[t % 32]!) (by
  have hlt:t % 32 < (idc L[t / 32]).length:=by rw [Xbw]; omega
  have e0:Cell.cells (α:=ID) ((L.map fun x=>(x,()))[t / 32]'(by simpa using hi)).1 ((L.map fun x=>(x,()))[t / 32]'(by simpa using hi)).2=idc L[t / 32]:=by simp [Cell.cells]
  rw [e0]
  rw [List.getElem?_eq_getElem hlt]
  congr 1
  have:L.toArray[t / 32]! = L[t / 32]:=by simp [hi]
  rw [this]
  exact (getElem!_pos (idc L[t / 32]) (t % 32) hlt).symm)
 have e3:flat (α:=ID) (L.map fun x=>(x,()))=Xgl L:=(Xnf _).trans (congrArg Xgl (by simp [Function.comp_def]))
 rw [e3] at this
 have e2:t / 32 * Cell.sz ID+t % 32=t:=by show t / 32 * 32+t % 32=t; omega
 rwa [e2] at this
theorem Xve [Dr] {P:Program} {f g0:FuncId} {w0 w:World} {F:Nat→Prop} {Γ:List Fact} {a:Option Addr} {c el:Nat} {L:List ID} (ho:Hold w0 F (.res (buf a c el L)::Γ) w)
  (hnone:∀ (p:Option Addr) (cap:Nat) (w:World),Calls P f #[.slice p 0 cap, .func (.func g0) #[] #[]] w fun e w'=>e = .returned (.tuple #[])∧w'=w)
  (hsort:∀ (b cap:Nat) (d:Array ID),Go.Sort.HoldsK idc 32 w b 0 d→b < w.heap.size→d.size < 4611686018427387904 →
   Calls P f #[.slice (some ⟨b,0,none⟩) d.size cap, .func (.func g0) #[] #[]] w fun e w'=>e = .returned (.tuple #[])∧∃ n os,w'=Go.Proofs.sortWorldK idc 32 w b 0 n (Xcq d.toList).toArray os) :
  Calls P f ⟨[.slice a L.length c, .func (.func g0) ⟨[]⟩ ⟨[]⟩]⟩ w fun x w'=>∃ y:Unit,x = .returned (.tuple ⟨[]⟩)∧Hold w0 F (.res (buf a c el (Xcq L))::Γ) w':=by
 obtain ⟨h0,r,h1,h2,h3⟩:(buf a c el L).holds _ w:=ho.sat (.res (buf a c el L)) (by simp)
 by_cases hL:L=[]
 ·subst hL
  exact Calls.mono (hnone a c w) fun x w' ⟨hx,hw⟩=>⟨(),hx,by rw [hw]; simpa [Xcq] using ho⟩
 rcases h2.2 with ⟨hv,hn⟩ | ⟨b,cap,cur,hv,hb,hg,hc1,hc2,hc3,hc4⟩
 ·exact (hL (List.eq_nil_of_length_eq_zero hn)).elim
 injection hv with e1 e2 e3
 subst e1 e3
 have hlt:b < w.heap.size:=(Array.getElem?_eq_some_iff.1 hg).1
 have hfr:flat r=Xgl L:=(Xnf r).trans (congrArg Xgl h1)
 rw [hfr] at hc4
 have hsz:L.length * 32≤cur.size:=by rw [hc3]; exact Nat.mul_le_mul_right 32 hc1
 have hH:Go.Sort.HoldsK idc 32 w b 0 L.toArray:=by
  intro j hj
  rw [Go.Sort.size_flatK] at hj
  have hj':j < L.length * 32:=by simpa using hj
  rw [Go.Sort.get_flatK _ _ _ _ hj]
  constructor
  ·rw [Nat.zero_add,cell_of_row w b j cur el _ hg]
   have:=Xl9 L j hj'
   rw [← hc4,List.getElem?_take] at this
   split at this
   ·simpa using this
   ·cases this
  ·simp [World.frozen?,hg]
 have hlim:L.length≤281474976710656:=h0
 have hs:=hsort b c L.toArray hH hlt (by simp; omega)
 simp only [List.size_toArray] at hs
 refine Calls.mono hs ?_
 rintro x w' ⟨hx,n,os,rfl⟩
 refine ⟨(),hx,?_⟩
 have hlen:(Xcq L).length=L.length:=Xfp L
 have hgh:(Go.Sort.ahead w n).heap[b]? = some (.cells cur el (0,0)):=hg
 have hF:(Go.Sort.flatK idc 32 (Xcq L).toArray).size=L.length * 32:=by rw [Go.Sort.size_flatK]; simp [hlen]
 have hnew:(Go.Proofs.sortWorldK idc 32 w b 0 n (Xcq L.toArray.toList).toArray os).heap[b]? = some (.cells (Go.Sort.putCells id 0 (Go.Sort.flatK idc 32 (Xcq L).toArray) cur) el (0,0)):=by
  unfold Go.Proofs.sortWorldK Go.Sort.putRowK
  rw [heap_grow_old]
  ·exact Xop _ _ _ _ _ hgh
  ·simp [Go.Sort.putRow,Go.Sort.mapBlock,Go.Sort.ahead]; exact hlt
 have hold:∀ k,k < w.heap.size→k≠b→(Go.Proofs.sortWorldK idc 32 w b 0 n (Xcq L.toArray.toList).toArray os).heap[k]? = w.heap[k]?:=by
  intro k hk hkb
  unfold Go.Proofs.sortWorldK Go.Sort.putRowK
  rw [heap_grow_old]
  ·exact Xoq _ _ _ _ hkb
  ·simp [Go.Sort.putRow,Go.Sort.mapBlock,Go.Sort.ahead]; exact hk
 have howns:∀ (X:List ID) k,(buf (some ⟨b,0,none⟩) c el X).owns k↔k=b:=by
  intro X k
  constructor
  ·rintro ⟨a',ha',rfl⟩; injection ha' with ha'; subst ha'; rfl
  ·rintro rfl; exact ⟨_,rfl,rfl⟩
 have hb0:w0.heap.size≤b:=ho.new (.res (buf (some ⟨b,0,none⟩) c el L)) (by simp) b ((howns L b).2 rfl)
 have hsize:w.heap.size≤(Go.Proofs.sortWorldK idc 32 w b 0 n (Xcq L.toArray.toList).toArray os).heap.size:=by
  unfold Go.Proofs.sortWorldK Go.Sort.putRowK
  simp [grow,Go.Sort.putRow,Go.Sort.mapBlock,Go.Sort.ahead]
 have hfree:∀ k,fp w0 F (.res (buf (some ⟨b,0,none⟩) c el L)::Γ) k→fp w0 F (.res (buf (some ⟨b,0,none⟩) c el (Xcq L))::Γ) k:=by
  refine fun k hk=>⟨hk.1,fun f' hf' hown=>?_⟩
  rcases List.mem_cons.1 hf' with rfl | hf'
  ·exact hk.2 (.res (buf (some ⟨b,0,none⟩) c el L)) (by simp) ((howns L k).2 ((howns _ k).1 hown))
  ·exact hk.2 f' (by simp [hf']) hown
 have hp:=List.pairwise_cons.1 ho.dis
 refine ⟨ho.below.trans ⟨rfl,rfl,rfl,hsize,fun k hk=>hold k (by have:=ho.below.size; omega) (by omega),fun _=>Nat.le_add_right _ _⟩,fun f hf=>?_,?_,?_⟩
 ·rcases List.mem_cons.1 hf with rfl | hf
  ·refine ⟨by rw [hlen]; exact h0,(Xcq L).map (fun x=>(x,())),by rw [List.map_map]; exact List.map_id _,⟨by rw [Xbf]; simp, .inr ⟨b,c,_,rfl,Nat.zero_le _,hnew,by rw [hlen]; exact hc1,hc2,by rw [Xnd]; exact hc3,?_⟩⟩,fun p hp A hA=>by simp [Cell.facts] at hA⟩
   have e5:flat ((Xcq L).map (fun x:ID=>(x,())))=Xgl (Xcq L):=by rw [Xnf]; congr 1; simp [Function.comp_def]
   refine Eq.trans ?_ e5.symm
   rw [hlen]
   apply List.ext_getElem?
   intro j
   rw [List.getElem?_take]
   have e6:Cell.sz ID=32:=rfl
   rw [e6]
   split
   ·rename_i hj
    rw [Xl9 _ _ (by rw [hlen]; exact hj)]
    have:=Xor (Go.Sort.flatK idc 32 (Xcq L).toArray) cur j (by rw [hF]; exact hj) (by rw [hF]; exact hsz)
    rw [Go.Sort.get_flatK _ _ _ _ (by simp [hlen]; exact hj)] at this
    simpa using this
   ·rename_i hj
    rw [List.getElem?_eq_none]
    rw [Xne,hlen]; omega
  ·refine Fact.sat_keep (ho.sat f (by simp [hf])) (fun k hk _=>hfree k hk) (fun k hklt hk=>hold k hklt (fun e=>?_))
   rcases hk with hk | hk
   ·exact hk.2 (.res (buf (some ⟨b,0,none⟩) c el L)) (by simp) ((howns L k).2 e)
   ·exact hp.1 f hf k ⟨(howns L k).2 e,hk⟩
 ·exact List.pairwise_cons.2 ⟨fun f' hf' k hk=>hp.1 f' hf' k ⟨(howns L k).2 ((howns _ k).1 hk.1),hk.2⟩,hp.2⟩
 ·intro f' hf' k hk
  rcases List.mem_cons.1 hf' with rfl | hf'
  ·have:=(howns _ k).1 hk; omega
  ·exact ho.new f' (by simp [hf']) k hk
end
section
open Go Go.RowKit Go.Sort Go.Shelf Go.Proofs
theorem Xro {w:World} {b m:Nat} {L:List UInt8} {t:TypeId} (h:w.heap[b]? = some (.cells (L.map Xaq).toArray t (0,0))) (hm:L.length=m) (hmax:m≤4096):(sl (some ⟨b,0,none⟩) m L).holds (fun _=>True) w:=by
 refine ⟨by omega,by simp [maxLen]; omega,by simp only [lim]; omega,fun hne=>⟨b,0,rfl,trivial,(Array.getElem?_eq_some_iff.1 h).1,fun i hi=>⟨(),?_,by simp [Cell.facts]⟩⟩⟩
 intro j v hj
 simp only [Cell.cells,List.getElem?_singleton] at hj
 split at hj
 ·rename_i h0; subst h0
  injection hj with hj
  subst hj
  rw [cell_of_row w b _ _ _ _ h]
  simp [Cell.sz,hi]
 ·cases hj
theorem X0t (W:World) {a b:Option Addr} {c k:Nat} {L M:List UInt8} {F G:Nat→Prop} (h:(sl a c L).holds F W) (h':(sl b k M).holds G W) :
  Calls prog 64 #[.slice a L.length c, .slice b M.length k] W fun e w'=>e = .returned (.int .i64 (Lib.compareBytes L M))∧w'=W:=by
 have hx:=Xel W h h'
 clear h h'
 generalize Lib.compareBytes L M=r at hx ⊢
 go_enter func64,ntmps64
 go_wp2
 go_ret
 exact ⟨rfl,rfl⟩
theorem X0u (W:World) (x y:ID):Calls prog 148 #[.agg (idc x).toArray, .agg (idc y).toArray] W fun e w'=>e = .returned (.int .i64 (Xm1 x y))∧∃ q os',w'=grow (W.drewN q) os':=by
 have hc:∀ n,Calls prog 64 #[.slice (some ⟨W.heap.size,0,none⟩) 32 32, .slice (some ⟨W.heap.size+1,0,none⟩) 32 32] (((W.alloc (.cells (idc x).toArray 72)).alloc (.cells (idc y).toArray 72)).drewN n) fun e w'=>e = .returned (.int .i64 (Xm1 x y))∧w'=((W.alloc (.cells (idc x).toArray 72)).alloc (.cells (idc y).toArray 72)).drewN n:=by
  intro n
  have h1:(((W.alloc (.cells (idc x).toArray 72)).alloc (.cells (idc y).toArray 72)).drewN n).heap[W.heap.size]? = some (.cells (x.1.map Xaq).toArray 72 (0,0)):=by
   show ((W.heap.push _).push _)[W.heap.size]? = _
   rw [Array.getElem?_push,if_neg (by simp),Array.getElem?_push,if_pos rfl]; rfl
  have h2:(((W.alloc (.cells (idc x).toArray 72)).alloc (.cells (idc y).toArray 72)).drewN n).heap[W.heap.size+1]? = some (.cells (y.1.map Xaq).toArray 72 (0,0)):=by
   show ((W.heap.push _).push _)[W.heap.size+1]? = _
   rw [Array.getElem?_push,if_pos (by simp)]; rfl
  have h:=X0t (((W.alloc (.cells (idc x).toArray 72)).alloc (.cells (idc y).toArray 72)).drewN n) (Xro h1 x.2 (by decide)) (Xro h2 y.2 (by decide))
  rw [x.2,y.2] at h
  exact h
 generalize Xm1 x y=r at hc ⊢
 go_enter func148,ntmps148
 go_wp2
 go_quiet (first | (go_at_call 64; refine Calls.quiet_of_same (hc _)))
 rename_i nq
 go_wp2
 go_ret
 exact ⟨rfl,nq,_,by rw [alloc_eq_grow,alloc_eq_grow,grow_grow]; rfl⟩
end
section
attribute [local irreducible] JC JO JR JQ andThen inBlock OpV Gives Xae JM JS
theorem Xng {x:Int} {l:List Int}:orL (x::l) < 0↔x < 0∨x=0∧orL l < 0:=by
 show (if x≠0 then x else orL l) < 0↔_
 by_cases h:x=0
 ·subst h; simp
 ·simp [h]
theorem Xrp {a b:Int}:cmpI a b < 0↔a < b:=by
 unfold cmpI
 split
 ·simp [*]
 ·split <;> simp [*]
theorem X0v {a b:Int}:cmpI a b=0↔a=b:=by
 unfold cmpI
 split
 ·constructor <;> intro h <;> omega
 ·split
  ·constructor <;> intro h <;> omega
  ·constructor <;> intro h <;> omega
theorem Xrq {a b:ByteArray}:cmpS a b < 0↔Xam a b=true:=by rw [← Xvb,decide_eq_true_eq]
theorem Xos {a b:ByteArray}:cmpS a b=0↔a=b:=by have:=@Xvc a b; rwa [decide_eq_decide] at this
def ordL (a b:Pair_):List Int:=[cmpS a.key b.key,cmpS a.elem b.elem,cmpI a.ev.node b.ev.node,cmpI a.ev.seq b.ev.seq]
def ordP (a b:Pair_):Int:=orL (ordL a b)
def Xby (a b:Pair_):Bool:=decide (ordP a b < 0)
def PLt (a b:Pair_):Prop:=Xam a.key b.key=true∨a.key=b.key∧(Xam a.elem b.elem=true∨a.elem=b.elem∧(a.ev.node < b.ev.node∨a.ev.node=b.ev.node∧a.ev.seq < b.ev.seq))
theorem Xdb {a b:Pair_}:Xby a b=true↔PLt a b:=by
 unfold Xby ordP ordL PLt
 rw [decide_eq_true_eq,Xng,Xng,Xng,Xng,Xrq,Xos,Xrq,Xos,Xrp,X0v,Xrp]
 simp [orL]
theorem PLt.irrefl (a:Pair_):¬ PLt a a:=by
 unfold PLt
 simp [Xcx]
theorem PLt.trans {a b c:Pair_} (h:PLt a b) (k:PLt b c):PLt a c:=by
 unfold PLt at *
 rcases h with h | ⟨h1,h⟩
 ·rcases k with k | ⟨k1,_⟩
  ·exact .inl (Xbr h k)
  ·exact .inl (k1 ▸ h)
 ·rcases k with k | ⟨k1,k⟩
  ·exact .inl (h1 ▸ k)
  ·refine .inr ⟨h1.trans k1,?_⟩
   rcases h with h | ⟨h2,h⟩
   ·rcases k with k | ⟨k2,_⟩
    ·exact .inl (Xbr h k)
    ·exact .inl (k2 ▸ h)
   ·rcases k with k | ⟨k2,k⟩
    ·exact .inl (h2 ▸ k)
    ·exact .inr ⟨h2.trans k2,by omega⟩
theorem PLt.total {a b:Pair_} (h:a≠b):PLt a b∨PLt b a:=by
 unfold PLt
 by_cases h1:a.key=b.key
 ·by_cases h2:a.elem=b.elem
  ·have h3:a.ev.node≠b.ev.node∨a.ev.seq≠b.ev.seq:=by
    rcases Decidable.em (a.ev.node=b.ev.node) with e | e
    ·refine .inr fun e'=>h ?_
     obtain ⟨_,_,⟨_,_⟩⟩:=a
     obtain ⟨_,_,⟨_,_⟩⟩:=b
     simp only at h1 h2 e e'
     subst h1 h2 e e'
     rfl
    ·exact .inl e
   rcases Int.lt_trichotomy a.ev.node b.ev.node with x | x | x
   ·exact .inl (.inr ⟨h1, .inr ⟨h2, .inl x⟩⟩)
   ·rcases Int.lt_trichotomy a.ev.seq b.ev.seq with y | y | y
    ·exact .inl (.inr ⟨h1, .inr ⟨h2, .inr ⟨x,y⟩⟩⟩)
    ·omega
    ·exact .inr (.inr ⟨h1.symm, .inr ⟨h2.symm, .inr ⟨x.symm,y⟩⟩⟩)
   ·exact .inr (.inr ⟨h1.symm, .inr ⟨h2.symm, .inl x⟩⟩)
  ·rcases Xcb h2 with x | x
   ·exact .inl (.inr ⟨h1, .inl x⟩)
   ·exact .inr (.inr ⟨h1.symm, .inl x⟩)
 ·rcases Xcb h1 with x | x
  ·exact .inl (.inl x)
  ·exact .inr (.inl x)
theorem Xfc (a:Pair_):Xby a a=false:=by rw [← Bool.not_eq_true,Xdb]; exact PLt.irrefl a
theorem Xen {a b c:Pair_} (h:Xby a b=true) (k:Xby b c=true):Xby a c=true:=by rw [Xdb] at *; exact h.trans k
theorem Xil {a b:Pair_} (h:Xby a b=false) (k:Xby b a=false):a=b:=by
 rw [← Bool.not_eq_true,Xdb] at *
 rcases Classical.em (a=b) with e | e
 ·exact e
 ·exact absurd (PLt.total e) (fun x=>x.elim h k)
theorem Xim {a b c:Pair_} (h:Xby b a=false) (k:Xby c b=false):Xby c a=false:=by
 cases hx:Xby c a with
 | false=>rfl
 | true =>
  exfalso
  rcases Classical.em (a=b) with e | e
  ·subst e; rw [hx] at k; cases k
  ·have h1:Xby a b=true:=by
    rcases PLt.total e with x | x
    ·exact Xdb.2 x
    ·rw [Xdb.2 x] at h; cases h
   rw [Xen hx h1] at k; cases k
theorem Xvf:Go.Sort.SWO (Go.Proofs.ltOf ordP) where
 irrefl x:=Xfc x
 trans x y z h1 h2:=Xen h1 h2
 ntrans x y z h1 h2:=Xim h2 h1
def Xfl (L:List Pair_):List Pair_:=L.mergeSort (fun x y=>!Xby y x)
theorem Xeo (L:List Pair_):(Xfl L).length=L.length:=by simp [Xfl]
theorem Xct (L:List Pair_):(Xfl L).Perm L:=List.mergeSort_perm _ _
theorem Xko {L:List Pair_} {x:Pair_}:x∈Xfl L↔x∈L:=(Xct L).mem_iff
theorem Xdh (L:List Pair_):(Xfl L).Pairwise (fun x y=>Xby y x=false):=by
 have:=List.pairwise_mergeSort (le:=fun x y=>!Xby y x) (fun a b c h1 h2=>by
  simp only [Bool.not_eq_true'] at *
  exact Xim h1 h2) (fun a b=>by
  cases h1:Xby b a with
  | false=>rfl
  | true =>
   cases h2:Xby a b with
   | false=>rfl
   | true=>have:=Xen h1 h2; rw [Xfc] at this; cases this) L
 simpa [Xfl] using this
theorem Xin {L M:List Pair_} (h:L.Perm M) (h1:L.Pairwise (fun x y=>Xby y x=false)) (h2:M.Pairwise (fun x y=>Xby y x=false)):L=M :=
 List.Perm.eq_of_pairwise (le:=fun x y=>Xby y x=false) (fun a b _ _ h1 h2=>Xil h2 h1) h1 h2 h
theorem Xsy {L M:List Pair_} (h:L.Perm M):Xfl L=Xfl M :=
 Xin (((Xct L).trans h).trans (Xct M).symm) (Xdh L) (Xdh M)
def Xb3 (p:Pair_):Bool:=Xc4 p.key && Xc4 p.elem && decide (0≤p.ev.node) && decide (p.ev.node < 8) && decide (1≤p.ev.seq)
def Xfr (L:List Pair_) (i:Nat):Bool :=
 match L[i]? with
 | some c=>Xb3 c && (match L[i - 1]? with | some b=>decide (i=0) || Xby b c | none=>true)
 | none=>true
def Xbn (L:List Pair_):Bool:=Xgq L.length (Xfr L)
theorem Xha {L:List Pair_} {i:Nat} (h:i < L.length):Xfr L i=(Xb3 L[i] && (decide (i=0) || Xby (L[i - 1]'(by omega)) L[i])):=by
 unfold Xfr
 rw [List.getElem?_eq_getElem h,List.getElem?_eq_getElem (show i - 1 < L.length by omega)]
theorem Xdc {L:List Pair_}:Xbn L=true↔(∀ p∈L,Xb3 p=true)∧L.Pairwise (fun x y=>Xby x y=true):=by
 unfold Xbn Xgq
 rw [List.all_eq_true]
 constructor
 ·intro h
  have h1:∀ i (hi:i < L.length),Xb3 L[i]=true:=fun i hi=>by
   have:=h i (List.mem_range.2 hi)
   rw [Xha hi,Bool.and_eq_true] at this; exact this.1
  have h2:∀ i (hi:i+1 < L.length),Xby L[i] L[i+1]=true:=fun i hi=>by
   have:=h (i+1) (List.mem_range.2 hi)
   rw [Xha hi] at this
   simp only [Nat.add_sub_cancel,Bool.and_eq_true,Bool.or_eq_true,decide_eq_true_eq] at this
   exact this.2.resolve_left (by omega)
  refine ⟨fun p hp=>?_,List.pairwise_iff_getElem.2 fun i j hi hj hij=>?_⟩
  ·obtain ⟨i,hi,rfl⟩:=List.getElem_of_mem hp; exact h1 i hi
  ·induction j with
   | zero=>omega
   | succ j ih =>
    rcases Nat.lt_or_ge i j with hl | hl
    ·exact Xen (ih (by omega) hl) (h2 j hj)
    ·obtain rfl:i=j:=by omega
     exact h2 i hj
 ·rintro ⟨h1,h2⟩ i hi
  have hi':=List.mem_range.1 hi
  rw [Xha hi',h1 _ (List.getElem_mem hi'),Bool.true_and,Bool.or_eq_true,decide_eq_true_eq]
  rcases Nat.eq_zero_or_pos i with e | e
  ·exact .inl e
  ·exact .inr (List.pairwise_iff_getElem.1 h2 (i - 1) i (by omega) hi' (by omega))
theorem Xa1 {L:List Pair_} (h:Xbn L=true):L.Nodup:=by
 refine ((Xdc.1 h).2).imp fun {a b} hab e=>?_
 subst e
 rw [Xfc] at hab; cases hab
theorem Xio {L:List Pair_} (hn:L.Nodup) (h:∀ p∈L,Xb3 p=true):Xbn (Xfl L)=true:=by
 rw [Xdc]
 refine ⟨fun p hp=>h p (Xko.1 hp),?_⟩
 have h1:=Xdh L
 have h2:(Xfl L).Nodup:=(Xct L).nodup_iff.2 hn
 refine h1.imp₂ (fun {a b} hab hne=>?_) h2
 rcases PLt.total hne with x | x
 ·exact Xdb.2 x
 ·rw [Xdb.2 x] at hab; cases hab
def addP (L:List Pair_) (p:Pair_):List Pair_:=if (Xbn L && Xb3 p)=true then Xfl (addK L p) else []
def Xi1 (key elem:ByteArray) (p:Pair_):Bool:=decide (p.key=key) && decide (p.elem=elem)
def delP (L:List Pair_) (key elem:ByteArray):List Pair_:=if Xbn L=true then L.filter (fun p=>!Xi1 key elem p) else []
def Xqf (base a b:List Pair_) (p:Pair_):Bool:=(decide (p∈a) && decide (p∈b)) || !decide (p∈base)
def Xhb (base a b:List Pair_) (L:List Pair_):List Pair_:=L.foldl (fun S p=>if Xqf base a b p then addK S p else S) []
def Xea (base a b:List Pair_):List Pair_:=if (Xbn base && Xbn a && Xbn b)=true then Xfl (Xhb base a b (a++b)) else []
theorem Xsz (base a b L:List Pair_) (p:Pair_):Xhb base a b (L++[p])=if Xqf base a b p then addK (Xhb base a b L) p else Xhb base a b L:=by simp [Xhb]
theorem Xgr (base a b:List Pair_):∀ L,(Xhb base a b L).Nodup:=by
 intro L
 unfold Xhb
 have:∀ (L S:List Pair_),S.Nodup→(L.foldl (fun S p=>if Xqf base a b p then addK S p else S) S).Nodup:=by
  intro L
  induction L with
  | nil=>exact fun S h=>h
  | cons p L ih =>
   intro S h
   rw [List.foldl_cons]
   refine ih _ ?_
   split
   ·exact Xch h p
   ·exact h
 exact this L [] List.nodup_nil
theorem Xkp {base a b:List Pair_}:∀ {L:List Pair_} {p:Pair_},p∈Xhb base a b L→p∈L:=by
 intro L p h
 have:∀ (L S:List Pair_),(∀ q,q∈L.foldl (fun S p=>if Xqf base a b p then addK S p else S) S→q∈S∨q∈L):=by
  intro L
  induction L with
  | nil=>exact fun S q h=>.inl h
  | cons x L ih =>
   intro S q h
   rw [List.foldl_cons] at h
   rcases ih _ q h with h | h
   ·split at h
    ·rcases Xdv.1 h with h | h
     ·exact .inl h
     ·exact .inr (by simp [h])
    ·exact .inl h
   ·exact .inr (List.mem_cons_of_mem _ h)
 exact (this L [] p h).resolve_left (by simp)
theorem Xqg (L:List Pair_) (p:Pair_):Xbn (addP L p)=true:=by
 unfold addP
 split
 ·rename_i h
  rw [Bool.and_eq_true] at h
  refine Xio (Xch (Xa1 h.1) p) fun q hq=>?_
  rcases Xdv.1 hq with hq | rfl
  ·exact (Xdc.1 h.1).1 q hq
  ·exact h.2
 ·rfl
theorem Xqh (L:List Pair_) (key elem:ByteArray):Xbn (delP L key elem)=true:=by
 unfold delP
 split
 ·rename_i h
  rw [Xdc] at *
  exact ⟨fun p hp=>h.1 p ((List.mem_filter.1 hp).1),h.2.sublist List.filter_sublist⟩
 ·rfl
theorem Xnh (base a b:List Pair_):Xbn (Xea base a b)=true:=by
 unfold Xea
 split
 ·rename_i h
  simp only [Bool.and_eq_true] at h
  refine Xio (Xgr _ _ _ _) fun q hq=>?_
  rcases List.mem_append.1 (Xkp hq) with hq | hq
  ·exact (Xdc.1 h.1.2).1 q hq
  ·exact (Xdc.1 h.2).1 q hq
 ·rfl
theorem X0w {w0 w:World} {F:Nat→Prop} {Γ:List Fact} {b k:Nat} {el:TypeId} {L:List ByteArray} {junk:List Value} (m:Int) (hl:L.length≤12) (ho:Hold w0 F (.own b el (L.map strV++junk)::Γ) w) :
  Calls prog 287 ⟨[.slice (some ⟨b,0,none⟩) L.length k, .int .i64 0, .int .i64 (L.length:Int), .int .i64 m]⟩ w fun x w'=>∃ S:Xdg L,x = .returned (.tuple ⟨[]⟩)∧Hold w0 F (.own b el (S.1.map strV++junk)::Γ) w':=by
 refine Xbu (v:=fun _=>.tuple ⟨[]⟩) (B:=fun S:Xdg L=>.own b el (S.1.map strV++junk)::Γ) func287 rfl ntmps287 rfl rfl _ ho ?_
 refine wz4 ?_
 refine Xaj (fun (_:Nat)=>[(0, .slice (some ⟨b,0,none⟩) L.length k),(1, .int .i64 0),(2, .int .i64 (L.length:Int)),(3, .int .i64 m)])
  (fun _=>.own b el (L.map strV++junk)::Γ) (fun _=>True) (fun _=>0) 0 trivial iI ?_
 rintro _ _
 refine wA ?_
 refine JC.test (fun h1=>?_) (fun h1=>?_)
 ·refine wz14 ?_
  refine Xax (v:=fun _=>.tuple ⟨[]⟩) (B:=fun S:Xdg L=>.own b el (S.1.map strV++junk)::Γ) rfl (fun w1 hw=>Xm6 (by omega) hw) ?_
  intro S
  refine wz5 ?_
  first | exact Xem S rfl (fun w ho=>ho) | exact CT.done S rfl (fun w ho=>ho)
 ·exfalso; omega
theorem Xs0 (n:Nat) (hn:n < 256):Gives prog 190 [.int .u64 (n:Int)] w F (fun y:Int=>.int .i64 y) (fun _=>[]):=by
 refine Xaa func190 rfl ntmps190 rfl rfl [] (.start w F) ?_
 refine wz10 ?_
 refine JC.test (fun h1=>by omega) (fun _=>?_)
 refine wA ?_
 refine JC.test (fun h1=>by omega) (fun _=>?_)
 refine wA ?_
 refine JC.test (fun h1=>by omega) (fun _=>?_)
 refine wz14 ?_
 refine Wf Xbm rfl ?_
 refine JO.reslot 21 (.int .u8 ((n:Nat):Int)) (by congr 1; simp [IntKind.wrap,IntKind.bits,IntKind.signed]; omega) ?_
 refine wz13 ?_
 refine Wf (OpV.indexStr (k:=n) (Nat.lt_of_lt_of_le hn (Nat.le_of_eq (by kernel_rfl)))) rfl ?_
 refine wz13 ?_
 refine Wf Xbm rfl ?_
 refine wz13 ?_
 refine Wf Xc1 rfl ?_
 refine wz10 ?_
 exact Xab (Y:=Int) _ rfl
theorem Xrr (n:Nat) (hn:n < 256):Gives prog 122 [.int .u64 (n:Int)] w F (fun y:Int=>.int .i64 y) (fun _=>[]):=by
 refine Xaa func122 rfl ntmps122 rfl rfl [] (.start w F) ?_
 refine wz7 ?_
 refine JR.call (v:=fun y:Int=>.int .i64 y) (B:=fun _=>[]) rfl (fun w1 hw=>Xs0 w1 _ n hn) ?_
 intro m
 dsimp only [List.nil_append]
 refine wz10 ?_
 exact Xab (Y:=Int) m rfl
theorem Xyg {w0 w:World} {F:Nat→Prop} {Γ:List Fact} {b k:Nat} {el:TypeId} {L:List ByteArray} {junk:List Value} (hl:L.length≤12) (ho:Hold w0 F (.own b el (L.map strV++junk)::Γ) w) :
  Calls prog 236 ⟨[.slice (some ⟨b,0,none⟩) L.length k]⟩ w fun x w'=>∃ S:Xdg L,x = .returned (.tuple ⟨[]⟩)∧Hold w0 F (.own b el (S.1.map strV++junk)::Γ) w':=by
 refine Xbu (v:=fun _=>.tuple ⟨[]⟩) (B:=fun S:Xdg L=>.own b el (S.1.map strV++junk)::Γ) func236 rfl ntmps236 rfl rfl _ ho ?_
 refine wz4 ?_
 refine Wf Xbm rfl ?_
 refine JO.reslot 8 (.int .u64 ((L.length:Nat):Int)) (by congr 1; simp [IntKind.wrap,IntKind.bits,IntKind.signed]; omega) ?_
 refine wz13 ?_
 refine JR.call (v:=fun y:Int=>.int .i64 y) (B:=fun _=>[]) rfl (fun w1 hw=>Xrr w1 _ L.length (by omega)) ?_
 intro m
 dsimp only [List.nil_append]
 refine wz13 ?_
 refine Xax (v:=fun _=>.tuple ⟨[]⟩) (B:=fun S:Xdg L=>.own b el (S.1.map strV++junk)::Γ) rfl (fun w1 hw=>X0w m hl hw) ?_
 intro S
 refine wz10 ?_
 exact Xem S rfl (fun w ho=>ho)
instance:MKey prog 9 strV:=MKey.str (by kernel_rfl)
abbrev Cts:=List (ByteArray × Int)
def ctsM (M:Cts):List (ByteArray × Value):=M.map fun p=>(p.1, .int .i64 p.2)
def getI (M:Cts) (k:ByteArray):Int:=match M.find? (fun p=>decide (p.1=k)) with | some p=>p.2 | none=>0
def updI (M:Cts) (k:ByteArray) (v:Int):Cts :=
 match M.findIdx? (fun p=>decide (p.1=k)) with
 | some i=>M.modify i fun _=>(k,v)
 | none=>M++[(k,v)]
theorem Xfs (M:Cts):(ctsM M).map (·.1)=M.map (·.1):=by simp [ctsM,Function.comp_def]
theorem Xkq (M:Cts):(ctsM M).length=M.length:=by simp [ctsM]
theorem Xh3 (M:Cts) (k:ByteArray):(Xa4 (ctsM M) k).getD (.int .i64 0) = .int .i64 (getI M k):=by
 unfold Xa4 ctsM getI
 rw [List.find?_map]
 simp only [Function.comp_def]
 cases M.find? (fun p=>decide (p.1=k)) <;> rfl
theorem Xvg (M:Cts) (k:ByteArray) (v:Int):upd (ctsM M) k (.int .i64 v)=ctsM (updI M k v):=by
 unfold upd plc updI ctsM
 rw [List.findIdx?_map]
 simp only [Function.comp_def]
 cases M.findIdx? (fun p=>decide (p.1=k)) with
 | none=>simp
 | some i =>
  simp only
  apply List.ext_getElem?
  intro j
  simp only [List.getElem?_modify,List.getElem?_map]
  by_cases h:i=j
  ·subst h; cases M[i]? <;> simp
  ·simp [h]
theorem Xhc (M:Cts) (k:ByteArray) (v:Int):(updI M k v).map (·.1)=addK (M.map (·.1)) k:=by
 unfold updI addK
 cases h:M.findIdx? (fun p=>decide (p.1=k)) with
 | none =>
  have:k∉M.map (·.1):=by
   intro hk
   obtain ⟨p,hp,rfl⟩:=List.mem_map.1 hk
   have:=List.findIdx?_eq_none_iff.1 h p hp
   simp at this
  rw [if_neg this]; simp
 | some i =>
  obtain ⟨h1,h2,h3⟩:=List.findIdx?_eq_some_iff_getElem.1 h
  have hk:M[i].1=k:=by simpa using h2
  rw [if_pos (List.mem_map.2 ⟨M[i],List.getElem_mem h1,hk⟩)]
  apply List.ext_getElem?
  intro j
  simp only [List.getElem?_map,List.getElem?_modify]
  by_cases hj:i=j
  ·subst hj; rw [List.getElem?_eq_getElem h1]; simp [hk]
  ·simp [hj]
theorem Xh4 {M:Cts} (h:(M.map (·.1)).Nodup) (k:ByteArray) (v:Int):((updI M k v).map (·.1)).Nodup:=by rw [Xhc]; exact Xch h k
def addS (t:Int) (M:Cts) (c:Ctr_):Cts:=updI M c.key (IntKind.i64.wrap (getI M c.key+IntKind.i64.wrap (t * c.n)))
theorem Xb8 (t:Int):∀ (L:List Ctr_) {M:Cts},(M.map (·.1)).Nodup→((L.foldl (addS t) M).map (·.1)).Nodup
 | [],_,h=>h
 | c::L,M,h=>Xb8 t L (Xh4 h _ _)
theorem Xjg {w0 w:World} {F:Nat→Prop} {Γ:List Fact} {b:Nat} (M:Cts) (t:Int) (L:List Ctr_) (a:Option Addr) (k:Nat) (hn:(M.map (·.1)).Nodup) (hl:L.length < 9223372036854775807) (ho:Hold w0 F (.omap b (ents strV (ctsM M)) (ctsM M).length::.st (sl a k L)::Γ) w) :
  Calls prog 110 ⟨[.map (some b), .slice a L.length k, .int .i64 t]⟩ w fun x w'=>∃ _:Unit,x = .returned (.tuple ⟨[]⟩)∧Hold w0 F (.omap b (ents strV (ctsM (L.foldl (addS t) M))) (ctsM (L.foldl (addS t) M)).length::.st (sl a k L)::Γ) w':=by
 refine Xbu (v:=fun _:Unit=>.tuple ⟨[]⟩) (B:=fun _=>.omap b (ents strV (ctsM (L.foldl (addS t) M))) (ctsM (L.foldl (addS t) M)).length::.st (sl a k L)::Γ) func110 rfl ntmps110 rfl rfl _ ho ?_
 refine wz4 ?_
 refine Xdt (fun (i:Nat) (N:Cts)=>[(0, .map (some b)),(2, .int .i64 t),(8, .slice a L.length k),(9, .int .i64 (L.length:Int)),(10, .int .i64 (i:Int))])
  (fun i N=>.omap b (ents strV (ctsM N)) (ctsM N).length::.st (sl a k L)::Γ) (fun i N=>i≤L.length∧N=(L.take i).foldl (addS t) M) (fun i _=>L.length - i) 0 M ⟨Nat.zero_le _,rfl⟩ iI ?_
 rintro i N ⟨hi,hN⟩
 have hnd:=Xb8 t (L.take i) hn
 rw [← hN] at hnd
 refine wz11 ?_
 refine JC.test (fun hlt=>?_) (fun hge=>?_)
 ·have hlt':i < L.length:=by omega
  have hnx:(L.take (i+1)).foldl (addS t) M=addS t ((L.take i).foldl (addS t) M) L[i]:=by rw [List.take_succ_eq_append_getElem hlt',List.foldl_append]; rfl
  rw [← hN] at hnx
  obtain ⟨c,hc⟩:∃ c,c=L[i]:=⟨_,rfl⟩
  rw [← hc] at hnx
  refine wz14 ?_
  refine Xka rfl hlt' ?_
  intro b3 o3
  rw [← hc]
  (repeat (refine wE ?_; intro _)); refine wA ?_
  refine Wf (Xay (M:=ctsM N) (v:=.int .i64 (getI N c.key)) c.key (by rw [Xfs]; exact hnd) (Xh3 _ _)) rfl ?_
  refine wz6 ?_
  refine Wf Xx3 rfl ?_
  refine wz13 ?_
  refine Wf Xc1 rfl ?_
  refine wz13 ?_
  refine Xbo (M:=ctsM N) (k:=c.key) (.inl rfl) (by rw [Xfs]; exact hnd) ?_
  rw [Xvg]
  have e:updI N c.key (IntKind.i64.wrap (getI N c.key+IntKind.i64.wrap (t * c.n)))=(L.take (i+1)).foldl (addS t) M:=hnx.symm
  rw [e]
  refine wz2 ?_
  exact ⟨i+1,_,⟨by omega,rfl⟩,by omega,iI⟩
 ·obtain rfl:i=L.length:=by omega
  rw [List.take_length] at hN
  rw [← hN]
  refine wz3 ?_
  exact Xem () rfl (fun w ho=>ho)
end
def Xs1:Go.Shelf.Ren:=⟨fun | 6=>147 | 14=>220 | 15=>122 | 20=>270 | 21=>271 | 22=>272 | 23=>273 | 24=>274 | 25=>275 | 26=>276 | 27=>277 | 28=>189 | 29=>190 | 46=>310 | 47=>243 | 48=>244 | 49=>311 | 50=>312 | 57=>327 | n=>n,fun | 22=>29 | 24=>72 | 25=>189 | 39=>175 | 45=>225 | 46=>226 | 50=>230 | 53=>195 | 55=>192 | 66=>274 | 70=>278 | 76=>317 | 77=>318 | n=>n,fun | n=>n⟩
open Go.Shelf Go.Proofs in
theorem Xzs:SlLaysF0.n6 prog Xs1 where
 mixed:=by kernel_rfl
 f6:=⟨ "slices.SortFunc[[]anabranch/api.ID,anabranch/api.ID]", by decide,func147.trans (congrArg some (by kernel_rfl))⟩
 f14:=⟨ "slices.pdqsortCmpFunc[anabranch/api.ID]", by decide,func220.trans (congrArg some (by kernel_rfl))⟩
 f15:=func122.trans (congrArg some (by kernel_rfl))
 f20:=⟨ "slices.insertionSortCmpFunc[anabranch/api.ID]", by decide,func270.trans (congrArg some (by kernel_rfl))⟩
 f21:=⟨ "slices.heapSortCmpFunc[anabranch/api.ID]", by decide,func271.trans (congrArg some (by kernel_rfl))⟩
 f22:=⟨ "slices.breakPatternsCmpFunc[anabranch/api.ID]", by decide,func272.trans (congrArg some (by kernel_rfl))⟩
 f23:=⟨ "slices.choosePivotCmpFunc[anabranch/api.ID]", by decide,func273.trans (congrArg some (by kernel_rfl))⟩
 f24:=⟨ "slices.reverseRangeCmpFunc[anabranch/api.ID]", by decide,func274.trans (congrArg some (by kernel_rfl))⟩
 f25:=⟨ "slices.partialInsertionSortCmpFunc[anabranch/api.ID]", by decide,func275.trans (congrArg some (by kernel_rfl))⟩
 f26:=⟨ "slices.partitionEqualCmpFunc[anabranch/api.ID]", by decide,func276.trans (congrArg some (by kernel_rfl))⟩
 f27:=⟨ "slices.partitionCmpFunc[anabranch/api.ID]", by decide,func277.trans (congrArg some (by kernel_rfl))⟩
 f28:=func189.trans (congrArg some (by kernel_rfl))
 f29:=func190.trans (congrArg some (by kernel_rfl))
 f46:=⟨ "slices.siftDownCmpFunc[anabranch/api.ID]", by decide,func310.trans (congrArg some (by kernel_rfl))⟩
 f47:=func243.trans (congrArg some (by kernel_rfl))
 f48:=func244.trans (congrArg some (by kernel_rfl))
 f49:=⟨ "slices.medianAdjacentCmpFunc[anabranch/api.ID]", by decide,func311.trans (congrArg some (by kernel_rfl))⟩
 f50:=⟨ "slices.medianCmpFunc[anabranch/api.ID]", by decide,func312.trans (congrArg some (by kernel_rfl))⟩
 f57:=⟨ "slices.order2CmpFunc[anabranch/api.ID]", by decide,func327.trans (congrArg some (by kernel_rfl))⟩
 t0:=underlying0
 a0:=Tryz.isAgg0
 z0:=Tryz.sizeOf0
 v0:=Tryz.zeroValue0
 t3:=underlying3
 a3:=Tryz.isAgg3
 z3:=Tryz.sizeOf3
 v3:=Tryz.zeroValue3
 t4:=underlying4
 a4:=Tryz.isAgg4
 z4:=Tryz.sizeOf4
 v4:=Tryz.zeroValue4
 t5:=underlying5
 a5:=Tryz.isAgg5
 z5:=Tryz.sizeOf5
 v5:=Tryz.zeroValue5
 t9:=underlying9
 a9:=Tryz.isAgg9
 z9:=Tryz.sizeOf9
 v9:=Tryz.zeroValue9
 t22:=underlying29
 a22:=Tryz.isAgg29
 z22:=Tryz.sizeOf29
 v22:=Tryz.zeroValue29
 t25:=underlying189
 a25:=Tryz.isAgg189
 z25:=Tryz.sizeOf189
 v25:=Tryz.zeroValue189
 t39:=underlying175
 a39:=Tryz.isAgg175
 z39:=Tryz.sizeOf175
 v39:=Tryz.zeroValue175
 t45:=underlying225
 a45:=Tryz.isAgg225
 z45:=Tryz.sizeOf225
 v45:=Tryz.zeroValue225
 t46:=underlying226
 a46:=Tryz.isAgg226
 z46:=Tryz.sizeOf226
 v46:=Tryz.zeroValue226
 t50:=underlying230
 a50:=Tryz.isAgg230
 z50:=Tryz.sizeOf230
 v50:=Tryz.zeroValue230
 t53:=underlying195
 a53:=Tryz.isAgg195
 z53:=Tryz.sizeOf195
 v53:=Tryz.zeroValue195
 t55:=underlying192
 a55:=Tryz.isAgg192
 z55:=Tryz.sizeOf192
 v55:=Tryz.zeroValue192
 t66:=underlying274
 a66:=Tryz.isAgg274
 z66:=Tryz.sizeOf274
 v66:=Tryz.zeroValue274
 t70:=underlying278
 a70:=Tryz.isAgg278
 z70:=Tryz.sizeOf278
 v70:=Tryz.zeroValue278
 t76:=underlying317
 a76:=Tryz.isAgg317
 z76:=Tryz.sizeOf317
 v76:=Tryz.zeroValue317
 t77:=underlying318
 a77:=Tryz.isAgg318
 z77:=Tryz.sizeOf318
 v77:=Tryz.zeroValue318
section
attribute [local irreducible] JC JO JR JQ andThen inBlock OpV Gives Xae JM JS
section
attribute [local irreducible] ents
def Xdw (L:List ID):List ID:=L.foldl addK []
theorem Xi2 (L S:List ID) (h:S.Nodup):(L.foldl addK S).Nodup:=by
 induction L generalizing S with
 | nil=>exact h
 | cons a L ih=>exact ih _ (Xch h a)
theorem Xli (L S:List ID) (x:ID):x∈L.foldl addK S↔x∈S∨x∈L:=by
 induction L generalizing S with
 | nil=>simp
 | cons a L ih=>rw [List.foldl_cons,ih,Xdv]; simp [or_assoc]
theorem Xcd (L:List ID):(Xdw L).Nodup:=Xi2 L [] List.nodup_nil
theorem Xev (L:List ID) (x:ID):x∈Xdw L↔x∈L:=by simp [Xdw,Xli]
theorem Xot:Xdw []=[]:=rfl
theorem Xma (L:List ID) (x:ID):Xdw (L++[x])=addK (Xdw L) x:=by simp [Xdw]
theorem Xft (L:List ID):(Xdw L).length≤L.length:=by
 have:∀ (L S:List ID),(L.foldl addK S).length≤S.length+L.length:=by
  intro L
  induction L with
  | nil=>simp
  | cons a L ih =>
   intro S
   have h1:=ih (addK S a)
   have h2:(addK S a).length≤S.length+1:=by unfold addK; split <;> simp
   simp only [List.foldl_cons,List.length_cons]; omega
 simpa [Xdw] using this L []
theorem Xzt (a:Option Addr) (c:Nat) (L:List ID) (h:(sl a c L).holds F w) :
  Gives prog 90 [.slice a L.length c] w F (fun b:Nat=>.map (some b)) (fun b=>[.omap b (ents idV (sety (Xdw L))) (Xdw L).length]):=by
 have hL:L.length < 9223372036854775807:=by have:=h.2.2.1; simp only [lim] at this; omega
 refine Xaa func90 rfl ntmps90 rfl rfl [.st (sl a c L)] (.start1 h) ?_
 refine wz10 ?_
 refine Xhu idV rfl ?_
 intro m
 refine wz4 ?_
 refine Xaj (fun k:Nat=>[(3, .map (some m)),(7, .slice a L.length c),(8, .int .i64 (L.length:Int)),(9, .int .i64 (k:Int))])
  (fun k=>[.omap m (ents idV (sety (Xdw (L.take k)))) (Xdw (L.take k)).length, .st (sl a c L)])
  (fun k=>k≤L.length) (fun k=>L.length - k) 0 (Nat.zero_le _) (by simp only [List.take_zero,Xot]; exact iI) ?_
 intro k hk
 refine wz11 ?_
 refine JC.test (fun hlt=>?_) (fun hge=>?_)
 ·have hlt':k < L.length:=by omega
  refine wz14 ?_
  refine Xbx rfl hlt' ?_
  intro b o
  (repeat (refine wE ?_; intro _)); refine wA ?_
  refine Xg2 L[k] (Xcd _) ?_
  refine wz2 ?_
  refine ⟨k+1,by omega,by omega,?_⟩
  rw [List.take_succ_eq_append_getElem hlt',Xma]
  exact iI
 ·refine wz3 ?_
  refine CT.done m rfl (fun w ho=>?_)
  rw [List.take_of_length_le (by omega)] at ho
  exact ho.ent
theorem X0x:Go.Sort.SWO (Go.Proofs.ltOf Xm1) where
 irrefl x:=Xkc x
 trans x y z h1 h2:=Xl6 h1 h2
 ntrans x y z h1 h2:=Xhz h2 h1
theorem Xou {w0 w:World} {F:Nat→Prop} {Γ:List Fact} {a:Option Addr} {c el:Nat} {L:List ID} (ho:Hold w0 F (.res (buf a c el L)::Γ) w) :
  Calls prog 147 ⟨[.slice a L.length c, .func (.func 148) ⟨[]⟩ ⟨[]⟩]⟩ w fun x w'=>∃ y:Unit,x = .returned (.tuple ⟨[]⟩)∧Hold w0 F (.res (buf a c el (Xcq L))::Γ) w':=by
 refine Xve ho (fun p cap w=>Go.Proofs.AnyF.slices_SortFunc_none Xzs p cap _ w) (fun b cap d hH hb hs=>?_)
 exact Go.Proofs.AnyQ.slices_SortFunc_total Xzs 32 Tryz.isAgg72 Tryz.sizeOf72 idc Xbw (fun x=>One.ok (cs:=idc x)) Xm1 X0x 148 #[] b 0 cap d w
  (Body.ok (P:=prog) (f:=148)) (fun m os dk _ x y=>X0u (Go.Proofs.sortWorldK idc 32 w b 0 m dk os) x y) hH hb hs (fun x y h1 h2=>Xhy h1 h2)
theorem Xcl {S:List Nat} {n:Nat} (h:S.Nodup) (hlt:∀ i∈S,i < n):S.length≤n:=by
 have hp:((List.range n).filter (fun i=>decide (i∈S))).Perm S:=by
  refine (List.perm_ext_iff_of_nodup (List.nodup_range.filter _) h).2 fun i=>?_
  simp only [List.mem_filter,List.mem_range,decide_eq_true_eq]
  exact ⟨fun h=>h.2,fun hi=>⟨hlt i hi,hi⟩⟩
 have:=List.length_filter_le (fun i=>decide (i∈S)) (List.range n)
 rw [hp.length_eq] at this
 simpa using this
theorem Xh5 {S:List Nat} {n:Nat} (h:S.Nodup) (hlt:∀ i∈S,i < n) (hall:∀ i,i < n→i∈S):S.Perm (List.range n):=by
 refine (List.perm_ext_iff_of_nodup h List.nodup_range).2 fun i=>?_
 rw [List.mem_range]
 exact ⟨hlt i,hall i⟩
theorem Xkr (L:List ID):(List.range L.length).filterMap (L[·]?)=L:=by
 induction L with
 | nil=>rfl
 | cons a L ih =>
  rw [List.length_cons,List.range_succ_eq_map,List.filterMap_cons]
  simp only [List.getElem?_cons_zero,List.filterMap_map]
  congr 1
theorem Xrs (b:Nat) (L:List ID) (hnd:L.Nodup) (hl:L.length≤34359738368) (h:(rmap b (ents idV (sety L)) L.length).holds F w) :
  GivesBuf prog 91 [.map (some b)] w F 72 (Xcq L):=by
 refine Xaa func91 rfl ntmps91 rfl rfl [.st (rmap b (ents idV (sety L)) L.length)] (.start1 h) ?_
 refine JC.buf_nil (α:=ID) 72 ?_
 refine wz10 ?_
 refine Xj2 rfl ?_
 intro r
 refine wz4 ?_
 refine Xej (fun (S:List Nat) (out:List ID) p q=>[(3, .slice p out.length q),(6, .pointer (some ⟨r,0,none⟩))])
  (fun S out p q=>[.res (buf p q 72 out), .obj r (.mapIter (some b) L.length S.toArray L.length), .st (rmap b (ents idV (sety L)) L.length)])
  (fun S out p q=>S.Nodup∧(∀ i∈S,i < L.length)∧out=S.filterMap (L[·]?)∧out.length=S.length) (fun S _ _ _=>L.length - S.length) [] [] none 0 ⟨List.nodup_nil,by simp,rfl,rfl⟩ iI ?_
 intro S out p q ⟨hS1,hS2,hout,hlen⟩
 have hSl:S.length≤L.length:=Xcl hS1 hS2
 refine wz14 ?_
 refine Xmy rfl hS2 (fun hall=>?_) (fun j hj hjS=>?_)
 ·refine wA ?_
  refine Xax (v:=fun _:Unit=>.tuple ⟨[]⟩) rfl (fun w1 hw=>Xou hw) ?_
  intro _
  refine wz10 ?_
  have hp:out.Perm L:=by
   rw [hout]
   have h2:=(Xh5 hS1 hS2 hall).filterMap (L[·]?)
   rwa [Xkr] at h2
  refine CT.done (p,q) ?_ (fun w ho=>?_)
  ·simp only [Xaf,hp.length_eq,Xfp]
  ·rw [← Xst hp]; exact ho.ent
 ·refine wA ?_
  refine Wf (Xhv hj) rfl ?_
  (repeat (refine wE ?_; intro _)); refine wA ?_
  have hlt:S.length < L.length:=by
   have:=Xcl (S:=S++[j]) (n:=L.length) (List.nodup_append.2 ⟨hS1,by simp,fun x hx y hy=>by simp at hy; subst hy; exact fun e=>hjS (e ▸ hx)⟩) (fun i hi=>by
    rcases List.mem_append.1 hi with hi | hi
    ·exact hS2 i hi
    ·simp at hi; subst hi; exact hj)
   simp at this; omega
  refine Xap rfl (by exact ⟨rfl,rfl,by decide⟩) (by omega) ?_
  intro a2 c2
  refine wz2 ?_
  refine ⟨S++[j],out++[L[j]],a2,c2,⟨List.nodup_append.2 ⟨hS1,by simp,fun x hx y hy=>by simp at hy; subst hy; exact fun e=>hjS (e ▸ hx)⟩,fun i hi=>?_,?_,by simp [hlen]⟩,by simp; omega,iI⟩
  ·rcases List.mem_append.1 hi with hi | hi
   ·exact hS2 i hi
   ·simp at hi; subst hi; exact hj
  ·simp [hout,hj]
def Xdp (b:List ID) (want:Bool) (a:List ID):List ID:=a.filter (fun x=>decide (x∈b) == want)
theorem Xqi (b:List ID) (want:Bool):Xdp b want []=[]:=rfl
theorem Xip (b:List ID) (want:Bool) (L:List ID) (j:Nat) (h:j < L.length):Xdp b want (L.take (j+1))=if decide (L[j]∈b)=want then Xdp b want (L.take j)++[L[j]] else Xdp b want (L.take j):=by
 rw [List.take_succ_eq_append_getElem h]
 simp only [Xdp,List.filter_append,List.filter_cons,List.filter_nil,beq_iff_eq]
 split <;> simp
theorem Xlj (b:List ID) (want:Bool) (L:List ID):(Xdp b want L).length≤L.length:=List.length_filter_le _ _
def Xbz (a b:List ID) (want:Bool):List ID:=Xcq (Xdw (Xdp b want a))
theorem Xrt (a b:Option Addr) (c k:Nat) (L M:List ID) (want:Bool) (h:(sl a c L).holds F w) (h':(sl b k M).holds F w) (hl:L.length≤34359738368) :
  GivesBuf prog 157 [.slice a L.length c, .slice b M.length k, .bool want] w F 72 (Xbz L M want):=by
 refine Xaa func157 rfl ntmps157 rfl rfl [.st (sl a c L), .st (sl b k M)] (.start2 h h') ?_
 refine wz10 ?_
 refine JR.call1 rfl (fun w1 hw=>Xzt w1 _ b k M hw.get) ?_
 intro m
 refine wz13 ?_
 refine Xhu idV rfl ?_
 intro u
 refine wz4 ?_
 refine Xaj (fun j:Nat=>[(2, .bool want),(7, .map (some m)),(8, .map (some u)),(14, .slice a L.length c),(15, .int .i64 (L.length:Int)),(16, .int .i64 (j:Int))])
  (fun j=>[.omap u (ents idV (sety (Xdw (Xdp M want (L.take j))))) (Xdw (Xdp M want (L.take j))).length, .omap m (ents idV (sety (Xdw M))) (Xdw M).length, .st (sl a c L)])
  (fun j=>j≤L.length) (fun j=>L.length - j) 0 (Nat.zero_le _) (by simp only [List.take_zero,Xqi,Xot]; exact iI) ?_
 intro j hj
 refine wz11 ?_
 refine JC.test (fun hlt=>?_) (fun hge=>?_)
 ·have hlt':j < L.length:=by omega
  refine wz14 ?_
  refine Xbx rfl hlt' ?_
  intro b1 o1
  (repeat (refine wE ?_; intro _)); refine wA ?_
  refine Wf (Xf8 L[j] (Xcd _)) rfl ?_
  refine wA ?_
  refine JC.test (fun hy=>?_) (fun hn=>?_)
  ·refine wz9 ?_
   refine Xg2 L[j] (Xcd _) ?_
   refine wz2 ?_
   refine ⟨j+1,by omega,by omega,?_⟩
   have:decide (L[j]∈M)=want:=by simpa [Xev] using hy
   rw [Xip M want L j hlt',if_pos this,Xma]
   exact iI
  ·refine wz2 ?_
   refine ⟨j+1,by omega,by omega,?_⟩
   have:¬ decide (L[j]∈M)=want:=by simpa [Xev] using hn
   rw [Xip M want L j hlt',if_neg this]
   exact iI
 ·refine JC.more (fun w ho=>ho.pubMap) ?_
  refine wz3 ?_
  refine JR.callBuf rfl (fun w1 hw=>Xrs w1 _ u (Xdw (Xdp M want (L.take j))) (Xcd _) (Nat.le_trans (Xft _) (Nat.le_trans (Xlj _ _ _) (Nat.le_trans (List.length_take_le' _ _) hl))) hw.get) ?_
  intro a2 c2
  refine wz10 ?_
  have:L.take j=L:=List.take_of_length_le (by omega)
  rw [this]
  exact CT.done (a2,c2) rfl (fun w ho=>by unfold Xbz; exact ho.ent)
end
theorem Xfd (K:List ByteArray):∃ S:List ByteArray,S.Perm K∧S.Pairwise (fun a b=>Xam b a=false):=by
 refine ⟨K.mergeSort (fun a b=>!Xam b a),List.mergeSort_perm _ _,?_⟩
 have:=List.pairwise_mergeSort (le:=fun a b=>!Xam b a) (fun a b c h1 h2=>?_) (fun a b=>?_) K
 ·exact this.imp fun h=>by simpa using h
 ·simp only [Bool.not_eq_true'] at *
  exact Xkj h1 h2
 ·simp only [Bool.or_eq_true,Bool.not_eq_true']
  cases h:Xam b a with
  | false=>exact .inl rfl
  | true=>exact .inr (Xd6 h)
noncomputable def sortK (K:List ByteArray):List ByteArray:=Classical.choose (Xfd K)
theorem Xew (K:List ByteArray):(sortK K).Perm K:=(Classical.choose_spec (Xfd K)).1
theorem Xov (K:List ByteArray):(sortK K).Pairwise (fun a b=>Xam b a=false):=(Classical.choose_spec (Xfd K)).2
theorem Xyh {K S:List ByteArray} (hp:S.Perm K) (ho:S.Pairwise (fun a b=>Xam b a=false)):S=sortK K:=by
 refine List.Perm.eq_of_pairwise (le:=fun a b=>Xam b a=false) (fun a b _ _ h1 h2=>?_) ho (Xov K) (hp.trans (Xew K).symm)
 by_cases e:a=b
 ·exact e
 ·rcases Xcb e with h | h
  ·rw [h] at h2; cases h2
  ·rw [h] at h1; cases h1
def one1 (M:Cts) (k:ByteArray):Option Ctr_:=if getI M k≠0 then some ⟨k,getI M k⟩ else none
noncomputable def ctsL (M:Cts):List Ctr_:=(sortK (M.map (·.1))).filterMap (one1 M)
theorem Xvh (k:ByteArray) (n:Int) :
  GivesV prog 176 [.string k, .int .i64 n] w F (.tuple ⟨[.agg ⟨[.string k, .int .i64 n]⟩, .bool (decide (n≠0))]⟩):=by
 refine Xaa func176 rfl ntmps176 rfl rfl [] (.start w F) ?_
 (repeat (refine wE ?_; intro _)); refine wA ?_
 refine Wf (OpV.build [.string k, .int .i64 n] (by kernel_rfl)) rfl ?_
 refine wA ?_
 exact Xab () rfl
theorem Xni:GivesV prog 314 [.slice none 0 0, .int .i64 0, .int .i64 0] w F (.tuple ⟨[]⟩):=by
 refine Xaa func314 rfl ntmps314 rfl rfl [] (.start w F) ?_
 refine wA ?_
 refine Xaj (fun (_:Nat)=>[(2, .int .i64 0),(6, .int .i64 1)]) (fun _=>[]) (fun _=>True) (fun _=>0) 0 trivial iI ?_
 rintro _ _
 refine wA ?_
 exact Xem () rfl (fun w ho=>ho)
theorem X0y (m:Int):GivesV prog 287 [.slice none 0 0, .int .i64 0, .int .i64 0, .int .i64 m] w F (.tuple ⟨[]⟩):=by
 refine Xaa func287 rfl ntmps287 rfl rfl [] (.start w F) ?_
 refine wz4 ?_
 refine Xaj (fun (_:Nat)=>[(0, .slice none 0 0),(1, .int .i64 0),(2, .int .i64 0)]) (fun _=>[]) (fun _=>True) (fun _=>0) 0 trivial iI ?_
 rintro _ _
 refine wA ?_
 refine JR.callV rfl (fun w1 hw=>Xni w1 _) ?_
 refine wz5 ?_
 exact CT.done () rfl (fun w ho=>ho)
theorem Xvi:GivesV prog 236 [.slice none 0 0] w F (.tuple ⟨[]⟩):=by
 refine Xaa func236 rfl ntmps236 rfl rfl [] (.start w F) ?_
 refine wz4 ?_
 refine Wf Xbm rfl ?_
 refine JO.reslot 8 (.int .u64 ((0:Nat):Int)) rfl ?_
 refine wz13 ?_
 refine JR.call (v:=fun y:Int=>.int .i64 y) (B:=fun _=>[]) rfl (fun w1 hw=>Xrr w1 _ 0 (by omega)) ?_
 intro m
 dsimp only [List.nil_append]
 refine wz13 ?_
 refine JR.callV rfl (fun w1 hw=>X0y w1 _ m) ?_
 refine wz10 ?_
 exact Xem () rfl (fun w ho=>ho)
theorem Xlk (M:Cts):(List.range (ctsM M).length).filterMap (fun i=>(M[i]?).map (·.1))=M.map (·.1):=by
 rw [Xkq]
 induction M with
 | nil=>rfl
 | cons a M ih =>
  rw [List.length_cons,List.range_succ_eq_map,List.filterMap_cons]
  simp only [List.getElem?_cons_zero,Option.map_some,List.filterMap_map,List.map_cons]
  congr 1
theorem Xs2 (b:Nat) (M:Cts) (hn:(M.map (·.1)).Nodup) (hl:M.length≤12) (h:(rmap b (ents strV (ctsM M)) (ctsM M).length).holds F w) :
  GivesBuf prog 175 [.map (some b), .func (.func 176) ⟨[]⟩ ⟨[]⟩] w F 97 (ctsL M):=by
 have hkl:=Xkq M
 refine Xaa func175 rfl ntmps175 rfl rfl [.st (rmap b (ents strV (ctsM M)) (ctsM M).length)] (.start1 h) ?_
 refine JC.buf_nil (α:=ByteArray) 9 ?_
 refine wz10 ?_
 refine JR.range (M:=ctsM M) rfl ?_
 intro r
 refine wz4 ?_
 refine Xej (fun (S:List Nat) (out:List ByteArray) p q=>[(0, .map (some b)),(1, .func (.func 176) ⟨[]⟩ ⟨[]⟩),(5, .slice p out.length q),(13, .pointer (some ⟨r,0,none⟩))])
  (fun S out p q=>[.res (buf p q 9 out), .obj r (.mapIter (some b) (ctsM M).length S.toArray (ctsM M).length), .st (rmap b (ents strV (ctsM M)) (ctsM M).length)])
  (fun S out p q=>S.Nodup∧(∀ i∈S,i < (ctsM M).length)∧out=S.filterMap (fun i=>(M[i]?).map (·.1))∧out.length=S.length∧(out=[]→p=none∧q=0)) (fun S _ _ _=>(ctsM M).length - S.length) [] [] none 0 ⟨List.nodup_nil,by simp,rfl,rfl,fun _=>⟨rfl,rfl⟩⟩ iI ?_
 intro S out p q ⟨hS1,hS2,hout,hlen,hne⟩
 have hSl:S.length≤(ctsM M).length:=Xcl hS1 hS2
 refine wz14 ?_
 refine JR.next (M:=ctsM M) rfl hS2 (fun hall=>?_) (fun j hj hjS=>?_)
 ·have hp:out.Perm (M.map (·.1)):=by
   rw [hout]
   have h2:=(Xh5 hS1 hS2 hall).filterMap (fun i=>(M[i]?).map (·.1))
   rwa [Xlk] at h2
  have hol:out.length=M.length:=by rw [hp.length_eq,List.length_map]
  repeat (first|refine Wd ?_|refine We rfl ?_|refine Wf (by first|exact Va|exact Vb|exact Vc|exact Vd|exact Ve|exact Vf|exact Vg|exact Vh|exact Vi|exact Vj|exact Vk (by omega)|exact Vl|exact Vm|exact Vn|exact Vo|exact Vp|exact Vq|exact Vr|exact Vs (by omega)|exact Vt (by omega)|exact Vu (by omega)|exact Vv (by omega)|exact Vw|exact Vx|exact Vy|exact Vz|exact VA|exact VB|exact VC|exact VD|exact VE|exact VF) rfl ?_|(refine Wg rfl ?_; intro _)|(refine Wh rfl ?_; intro _)|refine Wi ?_|refine Wv rfl rfl ?_)
  repeat (first|refine Wa ?_|refine Wb ?_|refine Wj ?_|refine Wk ?_|refine Wl ?_|refine Wm ?_|refine Wn ?_|refine Wo ?_|refine Wp ?_|refine Wq rfl ?_|refine Wr ?_)
  refine Xfi (fun p2:Option Addr × Nat=>[(0, .map (some b)),(1, .func (.func 176) ⟨[]⟩ ⟨[]⟩),(5, .slice p2.1 (sortK (M.map (·.1))).length p2.2)])
   (fun p2=>[.st (sl p2.1 p2.2 (sortK (M.map (·.1)))), .st (rmap b (ents strV (ctsM M)) (ctsM M).length)]) ?_ ?_
  ·by_cases h0:out=[]
   ·obtain ⟨rfl,rfl⟩:=hne h0
    subst h0
    have hS0:sortK (M.map (·.1))=[]:=((Xew _).trans hp.symm).eq_nil
    rw [hS0]
    refine wz14 ?_
    refine JR.callV rfl (fun w1 hw=>Xvi w1 _) ?_
    refine JO.more (fun w1 ho=>ho.add (A:=sl (α:=ByteArray) none 0 []) Xau) ?_
    refine wz10 ?_
    exact ⟨rfl,(none,0),iI⟩
   ·refine Xp7 h0 (fun b0 junk e1 e2 e3 e4=>?_)
    subst e1
    refine wz14 ?_
    refine Xax (v:=fun _=>.tuple ⟨[]⟩) (B:=fun T:Xdg out=>.own b0 9 (T.1.map strV++junk)::.obj r (.mapIter (some b) (ctsM M).length S.toArray (ctsM M).length)::.st (rmap b (ents strV (ctsM M)) (ctsM M).length)::[]) rfl (fun w1 hw=>Xyg (by omega) hw) ?_
    intro T
    have eT:T.1=sortK (M.map (·.1)):=Xyh (T.2.1.trans hp) T.2.2
    have eL:out.length=(sortK (M.map (·.1))).length:=by rw [← eT,T.2.1.length_eq]
    refine JO.more (fun w1 ho=>ho.pubStrs (k:=q) (by rw [T.2.1.length_eq]; exact e2) e3 (by rw [T.2.1.length_eq]; exact e4)) ?_
    rw [eT]
    refine JO.reslot 5 (.slice (some ⟨b0,0,none⟩) (sortK (M.map (·.1))).length q) (by rw [eL]) ?_
    refine wz10 ?_
    exact ⟨rfl,(some ⟨b0,0,none⟩,q),iI⟩
  rintro ⟨p2,q2⟩
  dsimp only
  generalize hK:sortK (M.map (·.1))=K
  have hKl:K.length≤12:=by rw [← hK,(Xew _).length_eq,List.length_map]; exact hl
  have hgoal:ctsL M=K.filterMap (one1 M):=by rw [ctsL,hK]
  rw [hgoal]
  have hnM:((ctsM M).map (·.1)).Nodup:=by rw [Xfs]; exact hn
  refine wz4 ?_
  refine JC.buf_nil (α:=Ctr_) 97 ?_
  refine Xej (fun (i:Nat) (o2:List Ctr_) p3 q3=>[(0, .map (some b)),(1, .func (.func 176) ⟨[]⟩ ⟨[]⟩),(7, .slice p3 o2.length q3),(24, .slice p2 K.length q2),(25, .int .i64 (K.length:Int)),(26, .int .i64 (i:Int))])
   (fun i o2 p3 q3=>[.res (buf p3 q3 97 o2), .st (sl p2 q2 K), .st (rmap b (ents strV (ctsM M)) (ctsM M).length)])
   (fun i o2 _ _=>i≤K.length∧o2=(K.take i).filterMap (one1 M)∧o2.length≤i) (fun i _ _ _=>K.length - i) 0 [] none 0 ⟨Nat.zero_le _,by simp,by simp⟩ iI ?_
  rintro i o2 p3 q3 ⟨hi,ho2,hol2⟩
  refine wz11 ?_
  refine JC.test (fun hlt=>?_) (fun hge=>?_)
  ·have hlt':i < K.length:=by omega
   have hnx:(K.take (i+1)).filterMap (one1 M)=o2++(one1 M K[i]).toList:=by rw [List.take_succ_eq_append_getElem hlt',List.filterMap_append,ho2]; simp [List.filterMap_cons]; cases one1 M K[i] <;> rfl
   obtain ⟨key,hkey⟩:∃ key,key=K[i]:=⟨_,rfl⟩
   rw [← hkey] at hnx
   refine wz14 ?_
   refine JR.indexStr rfl hlt' ?_
   intro b3 o3
   rw [← hkey]
   refine wz9 ?_
   refine Wf (Xay (M:=ctsM M) (v:=.int .i64 (getI M key)) key hnM (Xh3 _ _)) rfl ?_
   refine wz13 ?_
   refine JR.callV rfl (fun w1 hw=>Xvh w1 _ key (getI M key)) ?_
   (repeat (refine wE ?_; intro _)); refine wA ?_
   refine JC.test (fun hx=>?_) (fun hx=>?_)
   ·have e1:one1 M key=some ⟨key,getI M key⟩:=if_pos hx
    rw [e1] at hnx
    (repeat (refine wE ?_; intro _)); refine wA ?_
    refine Xap (u:=(⟨key,getI M key⟩:Ctr_)) rfl (by exact ⟨rfl,rfl,by decide⟩) (by omega) ?_
    intro p4 q4
    refine wz2 ?_
    exact ⟨i+1,o2++[⟨key,getI M key⟩],p4,q4,⟨by omega,hnx.symm,by simp; omega⟩,by omega,iI⟩
   ·have e1:one1 M key=none:=if_neg hx
    rw [e1] at hnx
    refine wz2 ?_
    exact ⟨i+1,o2,p3,q3,⟨by omega,by rw [hnx]; simp,by omega⟩,by omega,iI⟩
  ·obtain rfl:i=K.length:=by omega
   rw [List.take_length] at ho2
   rw [← ho2]
   refine wz3 ?_
   exact Xab (p3,q3) rfl
 ·have hjM:j < M.length:=by omega
  have hkj:(ctsM M)[j].1=M[j].1:=by simp [ctsM]
  refine wA ?_
  refine Wf (OpV.entry (M:=ctsM M) hj) rfl ?_
  (repeat (refine wE ?_; intro _)); refine wA ?_
  have hlt:S.length < (ctsM M).length:=by
   have:=Xcl (S:=S++[j]) (n:=(ctsM M).length) (List.nodup_append.2 ⟨hS1,by simp,fun x hx y hy=>by simp at hy; subst hy; exact fun e=>hjS (e ▸ hx)⟩) (fun i hi=>by
    rcases List.mem_append.1 hi with hi | hi
    ·exact hS2 i hi
    ·simp at hi; subst hi; exact hj)
   simp at this; omega
  refine Xap (u:=(ctsM M)[j].1) rfl (by exact ⟨rfl,rfl,by decide⟩) (by omega) ?_
  intro a2 c2
  refine wz2 ?_
  refine ⟨S++[j],out++[(ctsM M)[j].1],a2,c2,⟨List.nodup_append.2 ⟨hS1,by simp,fun x hx y hy=>by simp at hy; subst hy; exact fun e=>hjS (e ▸ hx)⟩,fun i hi=>?_,?_,by simp [hlen],by simp⟩,by simp; omega,iI⟩
  ·rcases List.mem_append.1 hi with hi | hi
   ·exact hS2 i hi
   ·simp at hi; subst hi; exact hj
  ·rw [hkj,hout,List.filterMap_append]; simp [hjM]
theorem Xow (b:Nat) (M:Cts) (hn:(M.map (·.1)).Nodup) (hl:M.length≤12) (h:(rmap b (ents strV (ctsM M)) (ctsM M).length).holds F w) :
  GivesBuf prog 111 [.map (some b)] w F 97 (ctsL M):=by
 refine Xaa func111 rfl ntmps111 rfl rfl [.st (rmap b (ents strV (ctsM M)) (ctsM M).length)] (.start1 h) ?_
 refine wz10 ?_
 refine JR.callBuf rfl (fun w1 hw=>Xs2 w1 _ b M hn hl hw.get) ?_
 intro p q
 refine wz10 ?_
 exact Xab (p,q) rfl
theorem Xvj (M:Cts) (k:ByteArray) (v:Int):(updI M k v).length≤M.length+1:=by
 unfold updI
 split
 ·rw [List.length_modify]; omega
 ·rw [List.length_append,List.length_singleton]; exact Nat.le_refl _
theorem Xvk (t:Int):∀ (L:List Ctr_) (M:Cts),(L.foldl (addS t) M).length≤M.length+L.length
 | [],M=>by simp
 | c::L,M=>by
  have h1:=Xvk t L (addS t M c)
  have h2:=Xvj M c.key (IntKind.i64.wrap (getI M c.key+IntKind.i64.wrap (t * c.n)))
  have h3:addS t M c=updI M c.key (IntKind.i64.wrap (getI M c.key+IntKind.i64.wrap (t * c.n))):=rfl
  rw [List.foldl_cons,List.length_cons]
  rw [h3] at h1 ⊢
  omega
noncomputable def incT (L:List Ctr_) (key:ByteArray) (n:Int):List Ctr_ :=
 if Xcy L && Xc4 key then ctsL (updI (L.foldl (addS 1) []) key (IntKind.i64.wrap (getI (L.foldl (addS 1) []) key+n))) else []
theorem X0z (a:Option Addr) (k:Nat) (L:List Ctr_) (key:ByteArray) (n:Int) (h:(sl a k L).holds F w) (hs:∀ c∈L,c.key.size < 4611686018427387904) (hk:key.size < 4611686018427387904) (hl:L.length≤11) :
  GivesBuf prog 49 [.slice a L.length k, .string key, .int .i64 n] w F 97 (incT L key n):=by
 refine Xaa func49 rfl ntmps49 rfl rfl [.st (sl a k L)] (.start1 h) ?_
 refine wz10 ?_
 refine JR.callV rfl (fun w1 hw=>Xkg w1 _ a k L hw.get hs) ?_
 cases hm:Xcy L with
 | false =>
  have e:incT L key n=[]:=if_neg (by rw [hm]; exact Bool.false_ne_true)
  rw [e]
  refine wz8 ?_
  exact CT.done (none,0) rfl (fun w ho=>ho.bufNil)
 | true =>
 refine wz7 ?_
 refine JR.callV rfl (fun w1 hw=>Xdo w1 _ key hk) ?_
 cases hko:Xc4 key with
 | false =>
  have e:incT L key n=[]:=if_neg (by rw [hm,hko]; exact Bool.false_ne_true)
  rw [e]
  refine wz8 ?_
  exact CT.done (none,0) rfl (fun w ho=>ho.bufNil)
 | true =>
 have e:incT L key n=ctsL (updI (L.foldl (addS 1) []) key (IntKind.i64.wrap (getI (L.foldl (addS 1) []) key+n))):=if_pos (by rw [hm,hko]; rfl)
 rw [e]
 refine wz7 ?_
 refine JR.makeMap strV rfl ?_
 intro b
 refine wz10 ?_
 refine Xax (v:=fun _:Unit=>.tuple ⟨[]⟩) (B:=fun _=>.omap b (ents strV (ctsM (L.foldl (addS 1) []))) (ctsM (L.foldl (addS 1) [])).length::.st (sl a k L)::[]) rfl (fun w1 hw=>Xjg [] 1 L a k (by simp) (by omega) hw) ?_
 rintro ⟨⟩
 have hN:=Xb8 1 L (M:=[]) (by simp)
 have hNl:=Xvk 1 L []
 generalize L.foldl (addS 1) []=N at hN hNl
 rw [List.length_nil] at hNl
 refine wz10 ?_
 refine Wf (Xay (M:=ctsM N) (v:=.int .i64 (getI N key)) key (by rw [Xfs]; exact hN) (Xh3 _ _)) rfl ?_
 refine wz6 ?_
 refine Wf Xc1 rfl ?_
 refine wz13 ?_
 refine Xbo (M:=ctsM N) (k:=key) (.inl rfl) (by rw [Xfs]; exact hN) ?_
 rw [Xvg]
 have hU:=Xh4 hN key (IntKind.i64.wrap (getI N key+n))
 have hUl:=Xvj N key (IntKind.i64.wrap (getI N key+n))
 generalize updI N key (IntKind.i64.wrap (getI N key+n))=U at hU hUl
 refine JO.more (fun w1 ho=>ho.pubMap) ?_
 refine wz10 ?_
 refine JR.callBuf rfl (fun w1 hw=>Xow w1 _ b U hU (by omega) hw.get) ?_
 intro p q
 refine wz10 ?_
 exact Xab (p,q) rfl
theorem Xcm (t:Int) {K:List ByteArray}:∀ (L:List Ctr_) {M:Cts},(∀ k∈M.map (·.1),k∈K)→(∀ c∈L,c.key∈K)→∀ k∈(L.foldl (addS t) M).map (·.1),k∈K
 | [],_,h,_=>h
 | c::L,M,h,hL=>by
  rw [List.foldl_cons]
  refine Xcm t L (fun k hk=>?_) (fun x hx=>hL x (List.mem_cons_of_mem _ hx))
  unfold addS at hk
  rw [Xhc,Xdv] at hk
  rcases hk with hk | rfl
  ·exact h k hk
  ·exact hL c (List.mem_cons_self ..)
theorem Xox {S K:List ByteArray} (hn:S.Nodup) (h:∀ k∈S,k∈K):S.length≤K.length:=by
 induction S generalizing K with
 | nil=>exact Nat.zero_le _
 | cons a S ih =>
  rw [List.nodup_cons] at hn
  have ha:=h a (List.mem_cons_self ..)
  have h1:=ih (K:=K.filter (fun k=>decide (k≠a))) hn.2 (fun k hk=>List.mem_filter.2 ⟨h k (List.mem_cons_of_mem _ hk),decide_eq_true (by rintro rfl; exact hn.1 hk)⟩)
  have h2:(K.filter (fun k=>decide (k≠a))).length < K.length:=List.length_filter_lt_length_iff_exists.2 ⟨a,ha,by simp⟩
  rw [List.length_cons]; omega
noncomputable def mergeT (base a b:List Ctr_):List Ctr_ :=
 if Xcy base && Xcy a && Xcy b then ctsL (base.foldl (addS (-1)) (b.foldl (addS 1) (a.foldl (addS 1) []))) else []
theorem Xvl (p1 p2 p3:Option Addr) (k1 k2 k3:Nat) (base L N:List Ctr_) (K:List ByteArray) (h1:(sl p1 k1 base).holds F w) (h2:(sl p2 k2 L).holds F w) (h3:(sl p3 k3 N).holds F w)
  (hK:K.length≤12) (hb:∀ c∈base,c.key∈K) (hL:∀ c∈L,c.key∈K) (hN:∀ c∈N,c.key∈K) (hs:∀ k∈K,k.size < 4611686018427387904) :
  GivesBuf prog 231 [.slice p1 base.length k1, .slice p2 L.length k2, .slice p3 N.length k3] w F 97 (mergeT base L N):=by
 have l1:base.length < 9223372036854775807:=by have:=h1.2.2.1; simp only [lim] at this; omega
 have l2:L.length < 9223372036854775807:=by have:=h2.2.2.1; simp only [lim] at this; omega
 have l3:N.length < 9223372036854775807:=by have:=h3.2.2.1; simp only [lim] at this; omega
 refine Xaa func231 rfl ntmps231 rfl rfl [.st (sl p1 k1 base), .st (sl p2 k2 L), .st (sl p3 k3 N)] (.start3 h1 h2 h3) ?_
 refine wz10 ?_
 refine JR.callV rfl (fun w1 hw=>Xkg w1 _ p1 k1 base hw.get (fun c hc=>hs _ (hb c hc))) ?_
 cases m1:Xcy base with
 | false =>
  rw [show mergeT base L N=[] from if_neg (by rw [m1]; exact Bool.false_ne_true)]
  refine wz8 ?_
  exact CT.done (none,0) rfl (fun w ho=>ho.bufNil)
 | true =>
 refine wz7 ?_
 refine JR.callV rfl (fun w1 hw=>Xkg w1 _ p2 k2 L hw.get (fun c hc=>hs _ (hL c hc))) ?_
 cases m2:Xcy L with
 | false =>
  rw [show mergeT base L N=[] from if_neg (by rw [m1,m2]; exact Bool.false_ne_true)]
  refine wz8 ?_
  exact CT.done (none,0) rfl (fun w ho=>ho.bufNil)
 | true =>
 refine wz7 ?_
 refine JR.callV rfl (fun w1 hw=>Xkg w1 _ p3 k3 N hw.get (fun c hc=>hs _ (hN c hc))) ?_
 cases m3:Xcy N with
 | false =>
  rw [show mergeT base L N=[] from if_neg (by rw [m1,m2,m3]; exact Bool.false_ne_true)]
  refine wz8 ?_
  exact CT.done (none,0) rfl (fun w ho=>ho.bufNil)
 | true =>
 rw [show mergeT base L N=ctsL (base.foldl (addS (-1)) (N.foldl (addS 1) (L.foldl (addS 1) []))) from if_pos (by rw [m1,m2,m3]; rfl)]
 have n1:=Xb8 1 L (M:=[]) (by simp)
 have n2:=Xb8 1 N n1
 have n3:=Xb8 (-1) base n2
 have s3:=Xcm (-1) base (Xcm 1 N (Xcm 1 L (M:=[]) (K:=K) (by simp) hL) hN) hb
 have hl3:=Xox n3 s3
 rw [List.length_map] at hl3
 refine wz7 ?_
 refine JR.makeMap strV rfl ?_
 intro b
 refine wz10 ?_
 refine JR.more (Γ':=.omap b (ents strV (ctsM [])) (ctsM []).length::.st (sl p2 k2 L)::.st (sl p1 k1 base)::.st (sl p3 k3 N)::[]) (fun w1 ho=>(ho.ent:Hold _ _ (.omap b (ents strV ([]:List (ByteArray × Value))) ([]:List (ByteArray × Value)).length::.st (sl p2 k2 L)::.st (sl p1 k1 base)::.st (sl p3 k3 N)::[]) w1)) ?_
 refine Xax (v:=fun _:Unit=>.tuple ⟨[]⟩) (B:=fun _=>.omap b (ents strV (ctsM (L.foldl (addS 1) []))) (ctsM (L.foldl (addS 1) [])).length::.st (sl p2 k2 L)::.st (sl p1 k1 base)::.st (sl p3 k3 N)::[]) rfl (fun w1 hw=>Xjg [] 1 L p2 k2 (by simp) l2 hw) ?_
 rintro ⟨⟩
 generalize L.foldl (addS 1) []=A at n1 n2 n3 s3 hl3
 refine wz10 ?_
 refine JR.more (Γ':=.omap b (ents strV (ctsM A)) (ctsM A).length::.st (sl p3 k3 N)::.st (sl p1 k1 base)::[]) (fun w1 ho=>ho.ent) ?_
 refine Xax (v:=fun _:Unit=>.tuple ⟨[]⟩) (B:=fun _=>.omap b (ents strV (ctsM (N.foldl (addS 1) A))) (ctsM (N.foldl (addS 1) A)).length::.st (sl p3 k3 N)::.st (sl p1 k1 base)::[]) rfl (fun w1 hw=>Xjg A 1 N p3 k3 n1 l3 hw) ?_
 rintro ⟨⟩
 generalize N.foldl (addS 1) A=A2 at n2 n3 s3 hl3
 refine wz10 ?_
 refine JR.more (Γ':=.omap b (ents strV (ctsM A2)) (ctsM A2).length::.st (sl p1 k1 base)::[]) (fun w1 ho=>ho.ent) ?_
 refine Xax (v:=fun _:Unit=>.tuple ⟨[]⟩) (B:=fun _=>.omap b (ents strV (ctsM (base.foldl (addS (-1)) A2))) (ctsM (base.foldl (addS (-1)) A2)).length::.st (sl p1 k1 base)::[]) rfl (fun w1 hw=>Xjg A2 (-1) base p1 k1 n2 l1 hw) ?_
 rintro ⟨⟩
 generalize base.foldl (addS (-1)) A2=A3 at n3 s3 hl3
 refine JO.more (fun w1 ho=>ho.pubMap) ?_
 refine wz10 ?_
 refine JR.callBuf rfl (fun w1 hw=>Xow w1 _ b A3 n3 (by omega) hw.get) ?_
 intro p q
 refine wz10 ?_
 exact Xab (p,q) rfl
theorem Xd3 {L:List Ctr_}:Xcy L=true↔(∀ c∈L,Xc4 c.key=true∧c.n≠0)∧L.Pairwise (fun a b=>Xam a.key b.key=true):=by
 unfold Xcy Xgq
 rw [List.all_eq_true]
 constructor
 ·intro h
  have h1:∀ i (hi:i < L.length),Xc4 L[i].key=true∧L[i].n≠0:=fun i hi=>by
   have:=h i (List.mem_range.2 hi)
   rw [Xjd hi] at this
   simp only [Bool.and_eq_true,decide_eq_true_eq] at this
   exact this.1
  have h2:∀ i (hi:i+1 < L.length),Xam L[i].key L[i+1].key=true:=fun i hi=>by
   have:=h (i+1) (List.mem_range.2 hi)
   rw [Xjd hi] at this
   simp only [Nat.add_sub_cancel,Bool.and_eq_true,Bool.or_eq_true,decide_eq_true_eq] at this
   exact this.2.resolve_left (by omega)
  refine ⟨fun p hp=>?_,List.pairwise_iff_getElem.2 fun i j hi hj hij=>?_⟩
  ·obtain ⟨i,hi,rfl⟩:=List.getElem_of_mem hp; exact h1 i hi
  ·induction j with
   | zero=>omega
   | succ j ih =>
    rcases Nat.lt_or_ge i j with hl | hl
    ·exact Xbr (ih (by omega) hl) (h2 j hj)
    ·obtain rfl:i=j:=by omega
     exact h2 i hj
 ·rintro ⟨h1,h2⟩ i hi
  have hi':=List.mem_range.1 hi
  have h3:=h1 _ (List.getElem_mem hi')
  rw [Xjd hi',h3.1,decide_eq_true h3.2,Bool.true_and,Bool.true_and,Bool.or_eq_true,decide_eq_true_eq]
  rcases Nat.eq_zero_or_pos i with e | e
  ·exact .inl e
  ·exact .inr (List.pairwise_iff_getElem.1 h2 (i - 1) i (by omega) hi' (by omega))
theorem Xnj {M:Cts} {c:Ctr_} (h:c∈ctsL M):c.key∈M.map (·.1)∧c.n≠0:=by
 unfold ctsL at h
 obtain ⟨k,hk,ho⟩:=List.mem_filterMap.1 h
 unfold one1 at ho
 split at ho
 ·rename_i hn
  injection ho with ho
  subst ho
  exact ⟨(Xew _).mem_iff.1 hk,hn⟩
 ·cases ho
theorem X00 {M:Cts} (hn:(M.map (·.1)).Nodup):(ctsL M).Pairwise (fun a b=>Xam a.key b.key=true):=by
 unfold ctsL
 have h2:(sortK (M.map (·.1))).Nodup:=(Xew _).nodup_iff.2 hn
 have h3:(sortK (M.map (·.1))).Pairwise (fun a b=>Xam a b=true):=(Xov _).imp₂ (fun {a b} hab hne=>by
  rcases Xcb hne with x | x
  ·exact x
  ·rw [x] at hab; cases hab) h2
 rw [List.pairwise_filterMap]
 refine h3.imp fun {a b} hab x hx y hy=>?_
 unfold one1 at hx hy
 split at hx
 ·split at hy
  ·simp only [Option.some.injEq] at hx hy
   subst hx hy
   exact hab
  ·cases hy
 ·cases hx
theorem Xmb {M:Cts} (hn:(M.map (·.1)).Nodup) (hk:∀ k∈M.map (·.1),Xc4 k=true):Xcy (ctsL M)=true :=
 Xd3.2 ⟨fun c hc=>⟨hk _ (Xnj hc).1,(Xnj hc).2⟩,X00 hn⟩
theorem Xyi {L:List Ctr_} {key:ByteArray} {n:Int} {c:Ctr_} (h:c∈incT L key n):(∃ d∈L,d.key=c.key)∨c.key=key:=by
 unfold incT at h
 split at h
 ·have h1:=(Xnj h).1
  rw [Xhc] at h1
  rcases Xdv.1 h1 with h1 | h1
  ·have h2:=Xcm 1 (K:=L.map (·.key)) L (M:=[]) (by simp) (fun d hd=>List.mem_map.2 ⟨d,hd,rfl⟩) _ h1
   obtain ⟨d,hd,e⟩:=List.mem_map.1 h2
   exact .inl ⟨d,hd,e⟩
  ·exact .inr h1
 ·cases h
theorem X01 (L:List Ctr_) (key:ByteArray) (n:Int):Xcy (incT L key n)=true:=by
 unfold incT
 split
 ·rename_i h
  rw [Bool.and_eq_true] at h
  refine Xmb (Xh4 (Xb8 1 L (by simp)) _ _) fun k hk=>?_
  rw [Xhc] at hk
  rcases Xdv.1 hk with hk | rfl
  ·have h2:=Xcm 1 (K:=L.map (·.key)) L (M:=[]) (by simp) (fun d hd=>List.mem_map.2 ⟨d,hd,rfl⟩) _ hk
   obtain ⟨d,hd,rfl⟩:=List.mem_map.1 h2
   exact ((Xd3.1 h.1).1 d hd).1
  ·exact h.2
 ·rfl
theorem Xs3 {B L N:List Ctr_} {c:Ctr_} (h:c∈mergeT B L N):∃ d,(d∈B∨d∈L∨d∈N)∧d.key=c.key:=by
 unfold mergeT at h
 split at h
 ·have h1:=(Xnj h).1
  have hs:=Xcm (-1) (K:=(B++(L++N)).map (·.key)) B (Xcm 1 N (Xcm 1 L (M:=[]) (by simp) (fun d hd=>List.mem_map.2 ⟨d,by simp [hd],rfl⟩)) (fun d hd=>List.mem_map.2 ⟨d,by simp [hd],rfl⟩)) (fun d hd=>List.mem_map.2 ⟨d,by simp [hd],rfl⟩) _ h1
  obtain ⟨d,hd,e⟩:=List.mem_map.1 hs
  refine ⟨d,?_,e⟩
  rcases List.mem_append.1 hd with hd | hd
  ·exact .inl hd
  ·exact .inr (List.mem_append.1 hd)
 ·cases h
theorem Xs4 (B L N:List Ctr_):Xcy (mergeT B L N)=true:=by
 by_cases h:(Xcy B && Xcy L && Xcy N)=true
 ·have h0:=h
  simp only [Bool.and_eq_true] at h
  unfold mergeT
  rw [if_pos h0]
  refine Xmb (Xb8 (-1) B (Xb8 1 N (Xb8 1 L (by simp)))) fun k hk=>?_
  have hs:=Xcm (-1) (K:=(B++(L++N)).map (·.key)) B (Xcm 1 N (Xcm 1 L (M:=[]) (by simp) (fun d hd=>List.mem_map.2 ⟨d,by simp [hd],rfl⟩)) (fun d hd=>List.mem_map.2 ⟨d,by simp [hd],rfl⟩)) (fun d hd=>List.mem_map.2 ⟨d,by simp [hd],rfl⟩) _ hk
  obtain ⟨d,hd,rfl⟩:=List.mem_map.1 hs
  rcases List.mem_append.1 hd with hd | hd
  ·exact ((Xd3.1 h.1.1).1 d hd).1
  ·rcases List.mem_append.1 hd with hd | hd
   ·exact ((Xd3.1 h.1.2).1 d hd).1
   ·exact ((Xd3.1 h.2).1 d hd).1
 ·unfold mergeT
  rw [if_neg h]; rfl
structure State_ where
 c:List Ctr_
 r:List Reg_
 p:List Pair_
def st0:State_:=⟨[],[],[]⟩
def Xex (s:State_):Bool:=Xcy s.c && Xc6 s.r && Xbn s.p
def Xs5 (e:Ev_):Bool:=decide (0≤e.node) && decide (e.node < 8) && decide (0 < e.seq) && decide (e.seq≤1048576)
noncomputable def stDone (s:State_) (o:Op_) (ev:Ev_) (gen:Int):State_ :=
 if o.kind=0 then ⟨incT s.c o.key o.n,s.r,s.p⟩
 else if o.kind=1 then ⟨s.c,Xcs s.r ⟨o.key,o.elem,gen,ev⟩,s.p⟩
 else if o.kind=2 then ⟨s.c,s.r,addP s.p ⟨o.key,o.elem,ev⟩⟩
 else ⟨s.c,s.r,delP s.p o.key o.elem⟩
def doOk (s:State_) (o:Op_) (ev:Ev_) (gen:Int):Bool:=Xex s && Xes o && Xs5 ev && decide (1≤gen)
noncomputable def stDo (s:State_) (o:Op_) (ev:Ev_) (gen:Int):State_ × Int:=if doOk s o ev gen then (stDone s o ev gen,0) else (st0,1)
noncomputable def stMerge (b x y:State_):State_ × Int:=if Xex b && Xex x && Xex y then (⟨mergeT b.c x.c y.c,Xcj x.r y.r,Xea b.p x.p y.p⟩,0) else (st0,1)
theorem Xyj (s:State_) (o:Op_) (ev:Ev_) (gen:Int):Xex (stDo s o ev gen).1=true:=by
 unfold stDo
 split
 ·rename_i h
  simp only [doOk,Bool.and_eq_true] at h
  have hs:=h.1.1.1
  simp only [Xex,Bool.and_eq_true] at hs
  unfold stDone
  split
  ·simp only [Xex,X01,hs,Bool.and_self]
  ·split
   ·simp only [Xex,Xsx,hs,Bool.and_self]
   ·split
    ·simp only [Xex,Xqg,hs,Bool.and_self]
    ·simp only [Xex,Xqh,hs,Bool.and_self]
 ·rfl
theorem Xqj (b x y:State_):Xex (stMerge b x y).1=true:=by
 unfold stMerge
 split
 ·simp only [Xex,Xs4,Xoo,Xnh,Bool.and_self]
 ·rfl
structure Held (K:List ByteArray) (R:List Reg_) (Q:List Pair_) (s:State_):Prop where
 may:Xex s=true
 c:∀ c∈s.c,c.key∈K
 r:∀ r∈s.r,r∈R
 p:∀ p∈s.p,p∈Q
theorem Xzu (K:List ByteArray) (R:List Reg_) (Q:List Pair_):Held K R Q st0:=⟨rfl,by simp [st0],by simp [st0],by simp [st0]⟩
theorem Held.doS {K:List ByteArray} {R:List Reg_} {Q:List Pair_} {s:State_} (h:Held K R Q s) {o:Op_} {ev:Ev_} {gen:Int} (h1:o.key∈K) (h2:(⟨o.key,o.elem,gen,ev⟩:Reg_)∈R) (h3:(⟨o.key,o.elem,ev⟩:Pair_)∈Q):Held K R Q (stDo s o ev gen).1:=by
 refine ⟨Xyj _ _ _ _,?_,?_,?_⟩ <;> unfold stDo <;> split <;> (try (intro x hx; cases hx)) <;> unfold stDone
 ·split
  ·intro x hx
   rcases Xyi hx with ⟨d,hd,e⟩ | e
   ·rw [← e]; exact h.c d hd
   ·rw [e]; exact h1
  ·split
   ·exact h.c
   ·split <;> exact h.c
 ·split
  ·exact h.r
  ·split
   ·intro x hx
    simp only [Xcs] at hx
    split at hx
    ·rcases Xg9 _ hx with hx | hx
     ·exact h.r x hx
     ·simp at hx; subst hx; exact h2
    ·cases hx
   ·split <;> exact h.r
 ·split
  ·exact h.p
  ·split
   ·exact h.p
   ·split
    ·intro x hx
     simp only [addP] at hx
     split at hx
     ·rcases Xdv.1 (Xko.1 hx) with hx | hx
      ·exact h.p x hx
      ·subst hx; exact h3
     ·cases hx
    ·intro x hx
     simp only [delP] at hx
     split at hx
     ·exact h.p x (List.mem_filter.1 hx).1
     ·cases hx
theorem Held.merge {K:List ByteArray} {R:List Reg_} {Q:List Pair_} {b x y:State_} (hb:Held K R Q b) (hx:Held K R Q x) (hy:Held K R Q y):Held K R Q (stMerge b x y).1:=by
 refine ⟨Xqj _ _ _,?_,?_,?_⟩ <;> unfold stMerge <;> split <;> (try (intro z hz; cases hz; done))
 ·intro z hz
  obtain ⟨d,hd,e⟩:=Xs3 hz
  rw [← e]
  rcases hd with hd | hd | hd
  ·exact hb.c d hd
  ·exact hx.c d hd
  ·exact hy.c d hd
 ·intro z hz
  simp only [Xcj] at hz
  split at hz
  ·rcases Xg9 _ hz with hz | hz
   ·exact hx.r z hz
   ·exact hy.r z hz
  ·cases hz
 ·intro z hz
  simp only [Xea] at hz
  split at hz
  ·rcases List.mem_append.1 (Xkp (Xko.1 hz)) with hz | hz
   ·exact hx.p z hz
   ·exact hy.p z hz
  ·cases hz
theorem Xh6 {α:Type} {S K:List α} (hn:S.Nodup) (h:∀ k∈S,k∈K):S.length≤K.length:=hn.length_le_of_subset h
theorem Held.lens {K:List ByteArray} {R:List Reg_} {Q:List Pair_} {s:State_} (h:Held K R Q s):s.c.length≤K.length∧s.r.length≤R.length∧s.p.length≤Q.length:=by
 have hm:=h.may
 simp only [Xex,Bool.and_eq_true] at hm
 refine ⟨?_,?_,?_⟩
 ·have h1:(s.c.map (·.key)).Nodup:=by
   rw [List.Nodup,List.pairwise_map]
   exact (Xd3.1 hm.1.1).2.imp fun {a b} hab e=>by rw [e,Xcx] at hab; cases hab
  have:=Xox h1 (K:=K) (fun k hk=>by obtain ⟨d,hd,rfl⟩:=List.mem_map.1 hk; exact h.c d hd)
  simpa using this
 ·exact Xh6 ((Xkm.1 (Xfb hm.1.2)).imp fun {a b} hab e=>by rw [e,Xcx] at hab; cases hab) h.r
 ·exact Xh6 (Xa1 hm.2) h.p
end
section
variable {F:Fence} {n:Nat} {P:Program}
theorem Xhd {α:Type} {g:Operand} {ps:Array Tmp} {assign body:Code} {Q:Exit→Act→World→Prop} {a:Act} {w:World}
  (hro:F.round=none) (h1:1≤n) {gf:Nat} {lb:Array Value} (hg:a.eval g = .func (.func gf) #[] lb) (hFg:F.fn gf) (eg:∀ args w,(callFunc gf args).run P w = .ok (.enter gf args) w)
  {encs:α→Array Value} {xs:List α} {bx:Nat} {t:TypeId} {vx:Value}
  (hseq:∀ (l:Nat) (J:List α→World→Prop),(∀ s W v,J s W→Boxed W bx t v→∀ v',J s (W.setCell ⟨bx,0,none⟩ v')) →
   (∀ pre x W v,pre++[x] <+: xs→J pre W→Boxed W bx t v→YieldAt F (n - 1 - 1) P l (encs x) W fun e W'=>e = .returned (.bool true)∧J (pre++[x]) W'∧Boxed W' bx t v) →
   ∀ W,Boxed W bx t vx→J [] W→CallsIn F (n - 1) P gf (#[.func (.yield l) #[] #[]]++lb) W fun e W'=>(∃ v,e = .returned v)∧J xs W')
  (hps:∀ x,(encs x).size=ps.size) (hbx:Boxed w bx t vx)
  (I:List α→World→Prop) (hIp:∀ s W k o o',I s W→w.heap.size≤k→W.heap[k]? = some o→o.isCells=false→I s (W.putObj k o')) (hIa:∀ s W o,I s W→w.heap.size≤W.heap.size→I s (W.alloc o))
  (hIx:∀ s W v,I s W→Boxed W bx t v→∀ v',I s (W.setCell ⟨bx,0,none⟩ v')) (h0:I [] w) (a₁:α→Act)
  (hassign:∀ (l:Nat) (x:α) (W:World) (K:Act→World→Prop),K (a₁ x) W →
   assign.wpIn (F.inRound l) (n - 1 - 1) P (Exit.then K (fun _ _ _=>False)) { tmps:=(ps.zip (encs x)).foldl (fun t (p,v)=>t.setIfInBounds p v) a.tmps,defers:=[] } W)
  (hbody:∀ (l:Nat) (pre:List α) (x:α) (W:World) (v:Value),pre++[x] <+: xs→I pre W→Boxed W bx t v→w.heap.size≤W.heap.size→body.wpIn (F.inRound l) (n - 1 - 1) P (ownPostK (fun _ W'=>Boxed W' bx t v) I (fun _ _ _=>False) (pre++[x]) W) (a₁ x) W)
  (hdone:∀ (D:Nat) (W:World),I xs W→w.heap.size≤D→W.heap[D]? = some (.deferred (some []))→Q .normal { a with defers:={ target:=.collected D,args:=#[] }::a.defers } W) :
  (Code.rangeFunc g ps assign body).wpIn F n P Q a w:=by
 refine wpIn_rangeFunc ?_
 intro fn hfn
 rw [hro]
 obtain ⟨rec,hrec⟩:∃ rec:LoopState→Option Code→Loop,rec=fun st pe=>{ state:=st,pending:=pe,fn,tmps:=a.tmps,params:=ps,assign,body,defers:=w.heap.size }:=⟨_,rfl⟩
 obtain ⟨W1,hW1⟩:∃ W1,(w.alloc (.deferred (some []))).alloc (.loop (rec .ready none))=W1:=⟨_,rfl⟩
 have hL1:W1.heap[w.heap.size+1]? = some (.loop (rec .ready none)):=by
  rw [← hW1]; have:=World.alloc_heap_new (w.alloc (.deferred (some []))) (.loop (rec .ready none)); rwa [World.size_alloc] at this
 have hK1:W1.heap[w.heap.size]? = some (.deferred (some [])):=by
  rw [← hW1]; exact (Below.heap_alloc _ _ _ (by simp)).trans (World.alloc_heap_new w _)
 have hI1:I [] W1:=by rw [← hW1]; exact hIa _ _ _ (hIa _ _ _ h0 (Nat.le_refl _)) (by simp)
 have hbx1:Boxed W1 bx t vx:=by rw [← hW1]; exact (hbx.alloc _).alloc _
 have hblt:bx < w.heap.size:=hbx.lt
 refine ⟨w.heap.size+1,[{ target:=.collected w.heap.size,args:=#[] }],W1,{ target:=.fn (.func gf) lb,args:=#[.func (.yield (w.heap.size+1)) #[] #[]] },W1,gf,
  #[.func (.yield (w.heap.size+1)) #[] #[]]++lb,W1,?_,?_,?_,?_,fun _=>h1,?_⟩
 ·rw [← hW1,hrec]; exact run_enterLoop_outer _ _ _ _ _
 ·simp only [resolve,hg]
  simp [go_sem]
 ·intro f' hf'; simp [Target.leads] at hf'; subst hf'; exact hFg
 ·simp [invoke,go_sem,eg]
 ·have bput:∀ (W:World) (k:Nat) (o o':Obj) (v:Value),Boxed W bx t v→w.heap.size≤k→Boxed (W.putObj k o') bx t v:=fun W k o o' v hb hk=>(World.putObj_heap_other (by omega)).trans hb
  refine (hseq (w.heap.size+1)
   (fun pre W=>I pre W∧W.heap[w.heap.size+1]? = some (.loop (rec .ready none))∧W.heap[w.heap.size]? = some (.deferred (some [])))
   ?_ ?_ W1 hbx1 ⟨hI1,hL1,hK1⟩).mono ?_
  ·rintro s W v ⟨hi,hl,hk⟩ hb v'
   exact ⟨hIx s W v hi hb v',(Below.heap_setCell W ⟨bx,0,none⟩ v' _ (by simp; omega)).trans hl,(Below.heap_setCell W ⟨bx,0,none⟩ v' _ (by simp; omega)).trans hk⟩
  ·rintro pre x W v hpre ⟨hi,hl,hk⟩ hb
   have hlt:w.heap.size+1 < W.heap.size:=(Array.getElem?_eq_some_iff.1 hl).1
   have hy:=run_yield (P:=P) (args:=encs x) hl (by rw [hrec]; exact hps x)
   rw [hrec] at hy
   refine ⟨fn,_,assign,body,hy,roundIn_of_wpIn hfn (hassign _ x W _ ⟨_,run_beginRound hl (by rw [hrec]),?_⟩)⟩
   have hl2:(W.putObj (w.heap.size+1) (.loop { rec .ready none with state:=.busy })).heap[w.heap.size+1]? = some (.loop { rec .ready none with state:=.busy }):=World.putObj_heap_same hlt
   have hk2:(W.putObj (w.heap.size+1) (.loop { rec .ready none with state:=.busy })).heap[w.heap.size]? = some (.deferred (some [])):=(World.putObj_heap_other (by omega)).trans hk
   have hb2:Boxed (W.putObj (w.heap.size+1) (.loop { rec .ready none with state:=.busy })) bx t v:=bput _ _ (.loop (rec .ready none)) _ _ hb (by omega)
   refine wpIn_mono (hbody _ pre x _ v hpre (hIp _ _ _ _ _ hi (by omega) hl rfl) hb2 (by simp; omega)) ?_
   rintro e a3 W3 hp
   cases e with
   | normal =>
    obtain ⟨hk3,hb3,hi3⟩:=hp
    have hl3:=hk3.same _ _ hl2 rfl
    have hend:=run_endRound (P:=P) none hl3
    rw [hrec] at hend
    have hl4:(W3.putObj (w.heap.size+1) (.loop (rec .ready none))).heap[w.heap.size+1]? = some (.loop (rec .ready none)):=World.putObj_heap_same (Array.getElem?_eq_some_iff.1 hl3).1
    refine ⟨_,_,hend,rfl,⟨hIp _ _ _ _ _ hi3 (by omega) hl3 rfl,?_,(World.putObj_heap_other (by omega)).trans (hk3.same _ _ hk2 rfl)⟩,bput _ _ (.loop (rec .ready none)) _ _ hb3 (by omega)⟩
    rw [hrec] at hl4 ⊢
    exact hl4
   | ret=>exact hp.2.elim
   | exit id=>exact hp.2.elim
   | goto t=>exact hp.2.elim
   | panic ch=>exact hp.elim
   | outgrown=>exact hp.elim
  ·rintro e W2 ⟨⟨v,rfl⟩,hi,hl,hk⟩
   exact ⟨none,_,by have:=run_endLoop (P:=P) hl (by rw [hrec]; simp); rw [hrec] at this; exact this,hdone _ _ (hIp _ _ _ _ _ hi (by omega) hl rfl) (Nat.le_refl _) ((World.putObj_heap_other (by omega)).trans hk)⟩
end
section
open Go Go.RowKit Go.Shelf Go.Proofs
attribute [local go_sem] Oper.semAt_some
def numF:Nat→Nat→List UInt8
 | 0,n=>[UInt8.ofNat n]
 | f+1,n=>if 127 < n then (UInt8.ofNat n ||| 128)::numF f (n / 128) else [UInt8.ofNat n]
def numL (n:Nat):List UInt8:=numF 9 n
theorem Xks:∀ (f n:Nat),(numF f n).length≤f+1
 | 0,_=>by simp [numF]
 | f+1,n=>by
  simp only [numF]
  split
  ·have:=Xks f (n / 128)
   simp only [List.length_cons]; omega
  ·simp
theorem Xb4 (n:Nat):(numL n).length≤10:=Xks 9 n
theorem Xvm {n:Nat} (h:n≤127):((UInt8.ofNat n).toNat:Int)=(n:Int):=by rw [UInt8.toNat_ofNat']; omega
theorem Xyk (n:Nat):((UInt8.ofNat n ||| 128).toNat:Int)=bits BinOp.or IntKind.u8 ((n:Int) % 256) 128:=by
 have h1:((n:Int) % 256)=((n % 256:Nat):Int):=by omega
 have h2:=u8_or_nat (n % 256) 128 (by omega) (by omega)
 rw [h1]
 refine Eq.trans ?_ h2.symm
 rw [UInt8.toNat_or,UInt8.toNat_ofNat']
 rfl
def Xzv (W:World) (bx:Nat):Nat:=match W.cell? ⟨bx,0,none⟩ with
 | some (.int _ k)=>k.toNat
 | _=>0
set_option maxRecDepth 100000 in
theorem Xs6 (l bx m:Nat) (hm:m < 18446744073709551616) (t:TypeId) (J:List UInt8→World→Prop)
  (hJ:∀ s W v,J s W→Boxed W bx t v→∀ v',J s (W.setCell ⟨bx,0,none⟩ v'))
  (hY:∀ pre x W v,pre++[x] <+: numL m→J pre W→Boxed W bx t v→YieldAt Fence.wide 2 prog l #[.int .u8 ((x:UInt8).toNat:Int)] W fun e W' =>
   e = .returned (.bool true)∧J (pre++[x]) W'∧Boxed W' bx t v)
  (W:World) (hB:Boxed W bx t (.int .u64 (m:Int))) (h0:J [] W) :
  CallsIn Fence.wide 3 prog 278 #[.func (.yield l) #[] #[], .pointer (some ⟨bx,0,none⟩)] W fun e W'=>(∃ v,e = .returned v)∧J (numL m) W':=by
 refine callsIn_of_wp func278 rfl trivial ?_ rfl
 simp only [ntmps278,List.size_toArray,List.length_cons,List.length_nil,Nat.reduceAdd,Nat.reduceSub,Array.replicate_succ,Array.replicate_zero,List.push_toArray,List.append_toArray,List.nil_append,List.cons_append]
 gi_wp2
 gi_loopw [] (fun wr=>∃ (pre:List UInt8) (f n:Nat),n < 128 ^ (f+1)∧n < 18446744073709551616∧Boxed wr bx t (.int .u64 (n:Int))∧numL m=pre++numF f n∧J pre wr) (fun wr=>Xzv wr bx)
 case atStart =>
  exact ⟨[],9,m,by omega,hm,hB,rfl,h0⟩
 case round =>
  obtain ⟨pre,f,n,hf,hn,hB,hL,hJs⟩:=hrel
  have hc:=hB.cell
  have hfz:=hB.frozen
  by_cases h127:127 < n
  ·have hgt:(127:Int) < (n:Int):=by omega
   obtain ⟨fn,tmps,assign,body,hy,hR⟩:=hY pre (UInt8.ofNat n ||| 128) wr _ (by
    cases f with
    | zero=>simp at hf; omega
    | succ f=>exact ⟨numF f (n / 128),by rw [hL,numF,if_pos h127]; simp⟩) hJs hB
   rw [Xyk] at hy
   gi_wp2
   refine hR.mono ?_
   rintro e W3 ⟨rfl,hJ3,hB3⟩
   have hc3:=hB3.cell
   have hfz3:=hB3.frozen
   gi_wp2
   have hdiv:((n:Int) / 128)=((n / 128:Nat):Int):=by omega
   go_roundw
   case rel =>
    rw [hdiv]
    cases f with
    | zero=>simp at hf; omega
    | succ f =>
     refine ⟨pre++[UInt8.ofNat n ||| 128],f,n / 128,?_,by omega,hB3.set _,?_,hJ _ _ _ hJ3 hB3 _⟩
     ·rw [Nat.pow_succ] at hf; omega
     ·rw [hL,numF,if_pos h127]; simp
   case measure =>
    rw [hdiv]
    simp only [Xzv,(hB3.set _).cell,hc,Int.toNat_natCast]
    omega
  ·have hgt:¬ (127:Int) < (n:Int):=by omega
   have hlast:numF f n=[UInt8.ofNat n]:=by
    cases f with
    | zero=>rfl
    | succ f=>rw [numF,if_neg h127]
   rw [hlast] at hL
   obtain ⟨fn,tmps,assign,body,hy,hR⟩:=hY pre (UInt8.ofNat n) wr _ ⟨[],by rw [hL]; simp⟩ hJs hB
   rw [Xvm (by omega)] at hy
   gi_wp2
   refine hR.mono ?_
   rintro e W3 ⟨rfl,hJ3,hB3⟩
   gi_wp2
   go_end0
   rw [hL]
   exact ⟨⟨_,rfl⟩,hJ3⟩
theorem Xvn (m:Nat) (w:World) :
  CallsIn Fence.wide 3 prog 222 #[.int .u64 (m:Int)] w fun e w'=>e = .returned (.func (.func 278) #[] #[.pointer (some ⟨w.heap.size,0,none⟩)])∧w'=w.alloc (.cells #[.int .u64 (m:Int)] 192):=by
 refine callsIn_of_wp func222 rfl trivial ?_ rfl
 simp only [ntmps222,List.size_toArray,List.length_cons,List.length_nil,Nat.reduceAdd,Nat.reduceSub,Array.replicate_succ,Array.replicate_zero,List.push_toArray,List.append_toArray,List.nil_append,List.cons_append]
 gi_wp2
 go_ret
 exact ⟨rfl,rfl⟩
theorem Xvo:(prog.info? 5).map (fun i=>(i.zero,i.size,i.bytes))=some (some (.int .u8 0),1,1):=by kernel_rfl
set_option maxRecDepth 100000 in
theorem X2m (m:Nat) (hm:m < 18446744073709551616) (w:World) :
  CallsIn Fence.wide 4 prog 150 #[.int .u64 (m:Int)] w fun e W'=>∃ v,e = .returned v∧W'.ownsRow w.heap.size 5 1 v (numL m).length ((numL m).map Xaq)∧Below w.heap.size w W':=by
 obtain ⟨i0,hi,hz0,hz1,hz2⟩:=info_parts Xvo
 refine callsIn_of_wp_marks func150 rfl trivial ?_ rfl
 simp only [ntmps150,List.size_toArray,List.length_cons,List.length_nil,Nat.reduceAdd,Nat.reduceSub,Array.replicate_succ,Array.replicate_zero,List.push_toArray,List.append_toArray,List.nil_append,List.cons_append]
 gi_wp2
 refine ⟨trivial,(Xvn m _).mono ?_⟩
 rintro e w' ⟨rfl,rfl⟩
 gi_wp2
 obtain ⟨w1,hw1⟩:∃ w1,(w.alloc (.cells #[.slice none 0 0] 47)).alloc (.cells #[.int .u64 (m:Int)] 192)=w1:=⟨_,rfl⟩
 have hsz:w1.heap.size=w.heap.size+2:=by rw [← hw1]; simp
 have bO:Boxed w1 w.heap.size 47 (.slice none 0 0):=by rw [← hw1]; exact (Boxed.new w _ _).alloc _
 have bN:Boxed w1 (w.heap.size+1) 192 (.int .u64 (m:Int)):=by
  rw [← hw1]
  have:=Boxed.new (w.alloc (.cells #[.slice none 0 0] 47)) 192 (.int .u64 (m:Int))
  rwa [World.size_alloc] at this
 have hB0:Below w.heap.size w w1:=by rw [← hw1]; exact ((Below.refl _ w).alloc (Nat.le_refl _) _).alloc (by simp) _
 rw [hw1]
 clear hw1
 refine Xhd rfl (by decide) (gf:=278) (lb:=#[.pointer (some ⟨w.heap.size+1,0,none⟩)]) rfl trivial (enters_of func278 (by kernel_rfl) rfl)
  (encs:=fun x:UInt8=>#[.int .u8 (x.toNat:Int)]) (xs:=numL m) (bx:=w.heap.size+1) (t:=192) (vx:=.int .u64 (m:Int))
  (fun l J hJ hY W hB h0=>Xs6 l _ m hm _ J hJ hY W hB h0) (fun _=>rfl) bN
  (fun pre W=>(∃ v,Boxed W w.heap.size 47 v∧W.ownsRow w.heap.size 5 1 v pre.length (pre.map Xaq))∧Below w.heap.size w W)
  ?hIp ?hIa ?hIx ⟨⟨_,bO,World.ownsRow_nil _ _ _ _⟩,hB0⟩
  (fun x=>{ tmps:=#[.int .u64 (m:Int),undef, .slice none 0 0, .pointer (some ⟨w.heap.size,0,none⟩), .int .u8 (x.toNat:Int), .int .u64 (m:Int), .func (.func 278) #[] #[.pointer (some ⟨w.heap.size+1,0,none⟩)], .int .u8 (x.toNat:Int),undef,undef,undef,undef,undef],defers:=[] }) ?assign ?body ?done
 case hIp =>
  rintro s W k o o' ⟨⟨v,hv,hr⟩,hB⟩ hk ho hc
  refine ⟨⟨v,hv.kept (grownBy_putObj' W k o') (fun e=>by injection e; omega),ownsRow_putObj hr o' ho hc⟩,?_⟩
  exact hB.grown (grownBy_putObj' W k o') (by have:=(Array.getElem?_eq_some_iff.1 ho).1; omega) (fun j e=>by cases e; omega)
 case hIa =>
  rintro s W o ⟨⟨v,hv,hr⟩,hB⟩ hk
  exact ⟨⟨v,hv.alloc _,hr.alloc _⟩,hB.alloc (by omega) _⟩
 case hIx =>
  rintro s W u ⟨⟨v,hv,hr⟩,hB⟩ hb u'
  exact ⟨⟨v,hv.kept (grownBy_setCell' W _ u') (fun e=>by injection e; omega),hr.kept (grownBy_setCell' W _ u') (.inr (hb.not_row (by decide) hr).symm)⟩,hB.setCell (p:=⟨w.heap.size+1,0,none⟩) (by simp) _⟩
 case assign =>
  intro l x W K hK
  gi_wp2
  exact hK
 case body =>
  rintro l pre x W u hpre ⟨⟨v,hv,hrow⟩,hB⟩ hbx hW
  have hc:=hv.cell
  have hpl:pre.length≤10:=by
   have h1:=List.IsPrefix.length_le hpre
   have h2:=Xb4 m
   simp at h1
   omega
  gi_wp2_with (gi_at_builtin; refine wpListIn_append_own _ rfl _ _ 47 rfl w.heap.size 5 i0 (.int .u8 0) 1 1 underlying47 hi hz0 hz1 hz2 rfl (by decide) _ _ _ rfl (hrow.alloc _) ⟨W.heap.size,0,none⟩ 1 1 [.int .u8 (x.toNat:Int)] rfl rfl (cell_one_new _ _ _) (by simp [Value.oneCell']) (by simp only [maxLen]; omega) (by omega) (by have:=hB.size; simp; omega) ?_; intro v' w1' hown' hgrow _; obtain ⟨g',cap',rfl⟩:=ownsRow_succ hown'; obtain ⟨hv1,hv2,hr2,hk2,hb2⟩:=hv.appended (by decide) hrow hB.size (Nat.le_refl _) hown' hgrow; have hc1:=hv1.cell; have hf1:=hv1.frozen)
  refine ⟨hk2,?_,⟨_,hv2,by simpa [Xaq] using hr2⟩,hB.trans hb2⟩
  have h1:=((hbx.alloc (.cells #[.int .u8 (x.toNat:Int)] 5)).kept hgrow (hbx.not_row (by decide) hrow))
  exact h1.kept (grownBy_setCell' _ _ _) (fun e=>by injection e; omega)
 case done =>
  rintro D W ⟨⟨v,hv,hrow⟩,hB⟩ hD hK
  have hc:=hv.cell
  gi_wp2
  refine ⟨by simp, .inl ⟨_,_,rfl,run_takeDeferred hK,?_⟩⟩
  exact ⟨_,results_tmp rfl _ _ _,v,rfl,ownsRow_putObj hrow _ hK rfl,hB.trans (belowK_b (w:=w) (Nat.le_refl _) W D _ _ (by omega) hK rfl rfl)⟩
end
section
attribute [local irreducible] JC JO JR JQ andThen inBlock OpV Gives Xae JM JS
section
attribute [local irreducible] ents
theorem Xqk (a b:Option Addr) (c k:Nat) (L M:List ID) (h:(sl a c L).holds F w) (h':(sl b k M).holds F w) (hl:L.length≤34359738368) :
  GivesBuf prog 96 [.slice a L.length c, .slice b M.length k] w F 72 (Xbz L M false):=by
 refine Xaa func96 rfl ntmps96 rfl rfl [.st (sl a c L), .st (sl b k M)] (.start2 h h') ?_
 refine wz10 ?_
 refine JR.callBuf rfl (fun w1 hw=>Xrt w1 _ a b c k L M false hw.get hw.get hl) ?_
 intro a2 c2
 refine wz10 ?_
 exact Xab (a2,c2) rfl
abbrev opV (o:Op_):Value:=.agg ⟨[.int .i64 o.kind, .string o.key, .string o.elem, .int .i64 o.n]⟩
def Xyl (P:Program) (fid:FuncId) (p:Op_→Bool):Prop :=
 ∀ (w:World) (G:Nat→Prop) (o:Op_),o.key.size < 4611686018427387904→o.elem.size < 4611686018427387904→GivesV P fid [opV o] w G (.bool (p o))
def Xmc (o:Op_):Bool:=decide (o.n≠0) && decide (-1048576≤o.n) && decide (o.n≤1048576) && decide (o.elem=ByteArray.mk #[])
def Xnk (o:Op_):Bool:=decide (o.n=0) && Xc4 o.elem
theorem X2n:Xyl prog 164 Xmc:=by
 intro w F o h1 h2
 refine Xaa func164 rfl ntmps164 rfl rfl [] (.start w F) ?_
 (repeat (refine wE ?_; intro _)); refine wA ?_
 refine JO.test 6 (fun h=>?_) (fun h=>?_)
 ·refine wA ?_
  refine JO.test 11 (fun h=>?_) (fun h=>?_)
  ·refine wA ?_
   refine JO.test 16 (fun h=>?_) (fun h=>?_)
   ·refine wA ?_
    refine Xab () ?_
    simp [Xaf,Xmc, *]
   ·refine wz8 ?_
    refine Xab () ?_
    simp [Xaf,Xmc, *]
  ·refine wz8 ?_
   refine Xab () ?_
   simp [Xaf,Xmc, *]
 ·refine wz8 ?_
  refine Xab () ?_
  simp [Xaf,Xmc, *]
theorem X2o:Xyl prog 169 Xnk:=by
 intro w F o h1 h2
 refine Xaa func169 rfl ntmps169 rfl rfl [] (.start w F) ?_
 (repeat (refine wE ?_; intro _)); refine wA ?_
 refine JO.test 6 (fun h=>?_) (fun h=>?_)
 ·refine wz6 ?_
  refine JR.callV rfl (fun w1 hw=>Xdo w1 _ _ h2) ?_
  refine wz8 ?_
  refine Xab () ?_
  simp [Xaf,Xnk, *]
 ·refine wz8 ?_
  refine Xab () ?_
  simp [Xaf,Xnk, *]
abbrev fnV (f:FuncId):Value:=.func (.func f) ⟨[]⟩ ⟨[]⟩
abbrev Xvp:Value:=.agg ⟨[fnV 164,fnV 165,fnV 166]⟩
abbrev Xru:Value:=.agg ⟨[fnV 169,fnV 170,fnV 172]⟩
def kindsM:List (Int × Value):=[]++[(0,Xvp)]++[(1,Xru)]++[(2,Xru)]++[(3,Xru)]
theorem Xkt:Gives prog 105 [] w F (fun b:Nat=>.map (some b)) (fun b=>[.omap b (ents intV kindsM) kindsM.length]):=by
 refine Xaa func105 rfl ntmps105 rfl rfl [] (.start w F) ?_
 refine wz10 ?_
 refine Wf (OpV.build [fnV 164,fnV 165,fnV 166] (by kernel_rfl)) rfl ?_
 (repeat (refine wE ?_; intro _)); refine wA ?_
 refine Wf (OpV.build [fnV 169,fnV 170,fnV 172] (by kernel_rfl)) rfl ?_
 (repeat (refine wE ?_; intro _)); refine wA ?_
 refine JR.makeMap intV rfl ?_
 intro m
 refine wz6 ?_
 refine JR.insert (0:Int) (by decide) rfl ?_
 refine wz6 ?_
 refine JR.insert (1:Int) (by simp) (by simp [plc]) ?_
 refine wz6 ?_
 refine JR.insert (2:Int) (by simp) (by simp [plc]) ?_
 refine wz6 ?_
 refine JR.insert (3:Int) (by simp) (by simp [plc]) ?_
 refine wz10 ?_
 exact CT.done m rfl (fun w ho=>by unfold kindsM; exact ho.ent)
abbrev Xs7:Value:=.agg ⟨[.nilFunc, .nilFunc, .nilFunc]⟩
theorem Xiq:(kindsM.map (·.1)).Nodup:=by decide
theorem Xql (k:Int):(k=0∧(Xa4 kindsM k).getD Xs7=Xvp∧(Xa4 kindsM k).isSome=true)∨((k=1∨k=2∨k=3)∧(Xa4 kindsM k).getD Xs7=Xru∧(Xa4 kindsM k).isSome=true) ∨
  ((¬ k=0∧¬ (k=1∨k=2∨k=3))∧(Xa4 kindsM k).getD Xs7=Xs7∧(Xa4 kindsM k).isSome=false):=by
 by_cases h0:k=0
 ·subst h0; exact .inl ⟨rfl,rfl,rfl⟩
 by_cases h1:k=1
 ·subst h1; exact .inr (.inl ⟨by simp,rfl,rfl⟩)
 by_cases h2:k=2
 ·subst h2; exact .inr (.inl ⟨by simp,rfl,rfl⟩)
 by_cases h3:k=3
 ·subst h3; exact .inr (.inl ⟨by simp,rfl,rfl⟩)
 refine .inr (.inr ⟨⟨h0,by simp [h1,h2,h3]⟩,?_⟩)
 have:Xa4 kindsM k=none:=by
  simp [Xa4,kindsM,Ne.symm h0,Ne.symm h1,Ne.symm h2,Ne.symm h3]
 rw [this]; exact ⟨rfl,rfl⟩
structure KindOf (f1:Value) (is:Bool) (o:Op_):Prop where
 no:is=false→Xes o=false
 yes:is=true→∃ (fid:FuncId) (_:Body prog fid) (p:Op_→Bool),f1=fnV fid∧Xyl prog fid p∧Xes o=(Xc4 o.key && p o)
theorem Xqm:Xyl prog 45 Xes:=by
 intro w F o hk he
 obtain ⟨f1,f2,f3,is,hone,h1,h2,hK⟩:∃ f1 f2 f3 is,One [f1,f2,f3]∧(Xa4 kindsM o.kind).getD Xs7 = .agg ⟨[f1,f2,f3]⟩∧(Xa4 kindsM o.kind).isSome=is∧KindOf f1 is o:=by
  rcases Xql o.kind with ⟨h0,h1,h2⟩ | ⟨h0,h1,h2⟩ | ⟨h0,h1,h2⟩
  ·refine ⟨_,_,_,_,iI,h1,h2,nofun,fun _=>⟨_,iI,_,rfl,X2n,?_⟩⟩
   simp only [Xes,h0,if_true,Xmc]; rfl
  ·have h3:¬ o.kind=0:=by omega
   refine ⟨_,_,_,_,iI,h1,h2,nofun,fun _=>⟨_,iI,_,rfl,X2o,?_⟩⟩
   simp only [Xes,h3,if_false,h0,if_true,Xnk]
  ·exact ⟨_,_,_,_,iI,h1,h2,fun _=>by simp only [Xes,h0.1,if_false,h0.2],nofun⟩
 refine Xaa func45 rfl ntmps45 rfl rfl [] (.start w F) ?_
 (repeat (refine wE ?_; intro _)); refine wA ?_
 rename_i bo
 refine Xca 8 mixed ?_
 refine JM.tv 1 ?_
 refine JM.tv 2 ?_
 refine Xrg 0 7 (by kernel_rfl) rfl rfl rfl rfl rfl rfl rfl rfl (JS.call1 rfl (fun w1 hw=>Xkt w1 _) fun m=>?_) (JS.alloc rfl fun kb=>JM.one 0 (by kernel_rfl) rfl rfl rfl rfl (JS.call1 rfl (fun w1 hw=>Xkt w1 _) fun m=>?_))
 all_goals
  refine JM.take 3 rfl (by kernel_rfl) rfl (Xbp o.kind Xiq h1 h2) rfl rfl ?_
  refine JM.tv 4 ?_
  refine JM.tv 5 ?_
 ·refine Xrg 6 7 (by kernel_rfl) rfl rfl rfl rfl rfl rfl rfl rfl (JS.val Vq rfl ?_) (JS.alloc rfl fun kb=>?_)
  ·refine JM.one 7 (by kernel_rfl) rfl rfl rfl rfl (JS.alloc rfl fun kb=>?_)
   refine Xah 8 (by kernel_rfl) rfl rfl rfl (Wi (Wd ⟨rfl,?_⟩))
   refine Xah 9 (by kernel_rfl) rfl rfl rfl (Wf Vb rfl (Wd ⟨rfl,?_⟩))
   refine JM.nil (by kernel_rfl) ?_
   refine Wa ?_
   refine JC.ent (e':=[(1, .pointer (some ⟨bo,0,none⟩)),(3, .pointer (some ⟨kb,0,none⟩)),(4, .bool is)]) (Γ':=[.own kb 152 [f1,f2,f3], .own bo 26 [.int .i64 o.kind, .string o.key, .string o.elem, .int .i64 o.n]]) iI ?_
   cases is with
   | false =>
    refine wz8 ?_
    refine Xab () ?_
    simp only [Xaf,hK.no rfl]
   | true =>
    obtain ⟨fid,hbody,p,rfl,hp,hmay⟩:=hK.yes rfl
    refine wz9 ?_
    refine JR.callV rfl (fun w1 hw=>Xdo w1 _ _ hk) ?_
    refine wz6 ?_
    refine JO.test 18 (fun hy=>?_) (fun hn=>?_)
    ·refine wz6 ?_
     refine JR.callV rfl (fun w1 hw=>hp w1 _ o hk he) ?_
     refine wz8 ?_
     refine Xab () ?_
     simp [Xaf,hmay,hy]
    ·refine wz8 ?_
     refine Xab () ?_
     simp [Xaf,hmay,hn]
  ·refine Xn6 6 8 (by kernel_rfl) rfl rfl rfl rfl rfl rfl rfl (JS.val Vq rfl ?_) (Wi (Wd ⟨rfl,?_⟩))
   ·refine Xah 8 (by kernel_rfl) rfl rfl rfl (Wi (Wd ⟨rfl,?_⟩))
    refine Xah 9 (by kernel_rfl) rfl rfl rfl (Wf Vb rfl (Wd ⟨rfl,?_⟩))
    refine JM.nil (by kernel_rfl) ?_
    refine Wa ?_
    refine JC.ent (e':=[(1, .pointer (some ⟨bo,0,none⟩)),(3, .pointer (some ⟨kb,0,none⟩)),(4, .bool is)]) (Γ':=[.own kb 152 [f1,f2,f3], .own bo 26 [.int .i64 o.kind, .string o.key, .string o.elem, .int .i64 o.n]]) iI ?_
    cases is with
    | false =>
     refine wz8 ?_
     refine Xab () ?_
     simp only [Xaf,hK.no rfl]
    | true =>
     obtain ⟨fid,hbody,p,rfl,hp,hmay⟩:=hK.yes rfl
     refine wz9 ?_
     refine JR.callV rfl (fun w1 hw=>Xdo w1 _ _ hk) ?_
     refine wz6 ?_
     refine JO.test 18 (fun hy=>?_) (fun hn=>?_)
     ·refine wz6 ?_
      refine JR.callV rfl (fun w1 hw=>hp w1 _ o hk he) ?_
      refine wz8 ?_
      refine Xab () ?_
      simp [Xaf,hmay,hy]
     ·refine wz8 ?_
      refine Xab () ?_
      simp [Xaf,hmay,hn]
   ·refine JM.one 6 (by kernel_rfl) rfl rfl rfl rfl (JS.val Vq rfl ?_)
    refine Xah 9 (by kernel_rfl) rfl rfl rfl (Wf Vb rfl (Wd ⟨rfl,?_⟩))
    refine JM.nil (by kernel_rfl) ?_
    refine Wa ?_
    refine JC.ent (e':=[(1, .pointer (some ⟨bo,0,none⟩)),(3, .pointer (some ⟨kb,0,none⟩)),(4, .bool is)]) (Γ':=[.own kb 152 [f1,f2,f3], .own bo 26 [.int .i64 o.kind, .string o.key, .string o.elem, .int .i64 o.n]]) iI ?_
    cases is with
    | false =>
     refine wz8 ?_
     refine Xab () ?_
     simp only [Xaf,hK.no rfl]
    | true =>
     obtain ⟨fid,hbody,p,rfl,hp,hmay⟩:=hK.yes rfl
     refine wz9 ?_
     refine JR.callV rfl (fun w1 hw=>Xdo w1 _ _ hk) ?_
     refine wz6 ?_
     refine JO.test 18 (fun hy=>?_) (fun hn=>?_)
     ·refine wz6 ?_
      refine JR.callV rfl (fun w1 hw=>hp w1 _ o hk he) ?_
      refine wz8 ?_
      refine Xab () ?_
      simp [Xaf,hmay,hy]
     ·refine wz8 ?_
      refine Xab () ?_
      simp [Xaf,hmay,hn]
 ·refine Xn6 6 8 (by kernel_rfl) rfl rfl rfl rfl rfl rfl rfl (JS.val Vq rfl ?_) (Wi (Wd ⟨rfl,?_⟩))
  ·refine Xah 8 (by kernel_rfl) rfl rfl rfl (Wi (Wd ⟨rfl,?_⟩))
   refine Xah 9 (by kernel_rfl) rfl rfl rfl (Wf Vb rfl (Wd ⟨rfl,?_⟩))
   refine JM.nil (by kernel_rfl) ?_
   refine Wa ?_
   refine JC.ent (e':=[(1, .pointer (some ⟨bo,0,none⟩)),(3, .pointer (some ⟨kb,0,none⟩)),(4, .bool is)]) (Γ':=[.own kb 152 [f1,f2,f3], .own bo 26 [.int .i64 o.kind, .string o.key, .string o.elem, .int .i64 o.n]]) iI ?_
   cases is with
   | false =>
    refine wz8 ?_
    refine Xab () ?_
    simp only [Xaf,hK.no rfl]
   | true =>
    obtain ⟨fid,hbody,p,rfl,hp,hmay⟩:=hK.yes rfl
    refine wz9 ?_
    refine JR.callV rfl (fun w1 hw=>Xdo w1 _ _ hk) ?_
    refine wz6 ?_
    refine JO.test 18 (fun hy=>?_) (fun hn=>?_)
    ·refine wz6 ?_
     refine JR.callV rfl (fun w1 hw=>hp w1 _ o hk he) ?_
     refine wz8 ?_
     refine Xab () ?_
     simp [Xaf,hmay,hy]
    ·refine wz8 ?_
     refine Xab () ?_
     simp [Xaf,hmay,hn]
  ·refine JM.one 6 (by kernel_rfl) rfl rfl rfl rfl (JS.val Vq rfl ?_)
   refine Xah 9 (by kernel_rfl) rfl rfl rfl (Wf Vb rfl (Wd ⟨rfl,?_⟩))
   refine JM.nil (by kernel_rfl) ?_
   refine Wa ?_
   refine JC.ent (e':=[(1, .pointer (some ⟨bo,0,none⟩)),(3, .pointer (some ⟨kb,0,none⟩)),(4, .bool is)]) (Γ':=[.own kb 152 [f1,f2,f3], .own bo 26 [.int .i64 o.kind, .string o.key, .string o.elem, .int .i64 o.n]]) iI ?_
   cases is with
   | false =>
    refine wz8 ?_
    refine Xab () ?_
    simp only [Xaf,hK.no rfl]
   | true =>
    obtain ⟨fid,hbody,p,rfl,hp,hmay⟩:=hK.yes rfl
    refine wz9 ?_
    refine JR.callV rfl (fun w1 hw=>Xdo w1 _ _ hk) ?_
    refine wz6 ?_
    refine JO.test 18 (fun hy=>?_) (fun hn=>?_)
    ·refine wz6 ?_
     refine JR.callV rfl (fun w1 hw=>hp w1 _ o hk he) ?_
     refine wz8 ?_
     refine Xab () ?_
     simp [Xaf,hmay,hy]
    ·refine wz8 ?_
     refine Xab () ?_
     simp [Xaf,hmay,hn]
end
abbrev Xbk (c:Commit) (a:Option Addr) (k:Nat):Value :=
 .agg ⟨[.int .i64 c.ev.node, .int .i64 c.ev.seq, .int .i64 c.gen, .slice a c.parents.length k, .int .i64 c.op.kind, .string c.op.key, .string c.op.elem, .int .i64 c.op.n]⟩
def Xs8 (c:Commit):Prop:=c.op.key.size < 4611686018427387904∧c.op.elem.size < 4611686018427387904
theorem Xga (c:Commit) (a:Option Addr) (k:Nat) (h:(sl a k c.parents).holds F w) (ht:Xs8 c) :
  GivesV prog 41 [Xbk c a k] w F (.bool (may c)):=by
 have hL:c.parents.length < 9223372036854775807:=by have:=h.2.2.1; simp only [lim] at this; omega
 refine Xaa func41 rfl ntmps41 rfl rfl [.st (sl a k c.parents)] (.start1 h) ?_
 (repeat (refine wE ?_; intro _)); refine wA ?_
 refine JR.callV rfl (fun w1 hw=>Xke w1 _ _ _ _) ?_
 refine wz7 ?_
 refine JO.test 11 (fun h1=>?_) (fun h1=>?_)
 ·refine wz8 ?_
  refine Xab () ?_
  simp [Xaf,may,h1]
 have h1:inB c.gen 1 1048576=true:=Classical.not_not.1 h1
 refine wz5 ?_
 refine JO.test 15 (fun h2=>?_) (fun h2=>?_)
 ·refine wz8 ?_
  refine Xab () ?_
  have:8 < c.parents.length:=by omega
  simp [Xaf,may,this]
 refine wz6 ?_
 refine JR.callV rfl (fun w1 hw=>Xu4 w1 _ a k _ hw.get) ?_
 refine wz7 ?_
 refine JO.test 21 (fun h3=>?_) (fun h3=>?_)
 ·refine wz8 ?_
  refine Xab () ?_
  simp [Xaf,may,h3]
 have h3:Xge c.parents=true:=Classical.not_not.1 h3
 have h2:¬ 8 < c.parents.length:=by omega
 have e0:(decide ((c.parents.length:Int)=0))=decide (c.parents.length=0):=decide_eq_decide.2 (by omega)
 refine wA ?_
 refine JC.test (fun h4=>?_) (fun h4=>?_)
 ·refine wz9 ?_
  refine Xab () ?_
  rw [e0] at h4
  have:(decide (c.gen=1) != decide (c.parents.length=0))=true:=by rw [bne_iff_ne]; exact h4
  simp only [Xaf,may,this,Bool.or_true,if_true]
 have h4:(decide (c.gen=1) != decide (c.parents.length=0))=false:=by
  rw [e0] at h4
  rw [Classical.not_not.1 h4,bne_self_eq_false]
 have hmay:may c=if c.ev.node = -1 then decide (2≤c.parents.length) && decide (c.ev.seq=0) && decide (c.op=op0) else inB c.ev.node 0 7 && inB c.ev.seq 1 1048576 && Xes c.op:=by
  simp only [may,h1,h2,h3,h4,decide_false,Bool.not_true,Bool.or_false,Bool.false_eq_true,if_false]
 rw [hmay]
 refine wA ?_
 refine JC.test (fun h5=>?_) (fun h5=>?_)
 ·rw [if_pos h5]
  refine wz10 ?_
  refine JO.test 35 (fun h6=>?_) (fun h6=>?_)
  ·refine wz6 ?_
   refine JO.test 41 (fun h7=>?_) (fun h7=>?_)
   ·refine wz6 ?_
    refine Wf (OpV.build [.int .i64 0, .string .empty, .string .empty, .int .i64 0] (by kernel_rfl)) rfl ?_
    refine wA ?_
    refine Xab () ?_
    have h8:2≤c.parents.length:=by omega
    have e1:(decide (2≤c.parents.length) && decide (c.ev.seq=0) && decide (c.op=op0))=decide (c.op=op0):=by
     rw [decide_eq_true h8,decide_eq_true h7,Bool.true_and,Bool.true_and]
    rw [e1]
    rfl
   ·refine wz8 ?_
    refine Xab () ?_
    simp [Xaf,h7]
  ·refine wz8 ?_
   refine Xab () ?_
   have:¬ 2≤c.parents.length:=by omega
   simp [Xaf,this]
 ·rw [if_neg h5]
  refine wz1 ?_
  refine JR.callV rfl (fun w1 hw=>Xke w1 _ _ _ _) ?_
  refine wz6 ?_
  refine JO.test 51 (fun h6=>?_) (fun h6=>?_)
  ·refine wz6 ?_
   refine JR.callV rfl (fun w1 hw=>Xke w1 _ _ _ _) ?_
   refine wz6 ?_
   refine JO.test 57 (fun h7=>?_) (fun h7=>?_)
   ·refine wz6 ?_
    refine JR.callV rfl (fun w1 hw=>Xqm w1 _ c.op ht.1 ht.2) ?_
    refine wz8 ?_
    refine Xab () ?_
    simp [Xaf,h6,h7]
   ·refine wz8 ?_
    refine Xab () ?_
    simp [Xaf,h7]
  ·refine wz8 ?_
   refine Xab () ?_
   simp [Xaf,h6]
theorem Xir (c:Commit) (a:Option Addr) (k:Nat) (h:(sl a k c.parents).holds F w) (ht:Xs8 c) :
  GivesV prog 83 [Xbk c a k] w F (.bool (merge c)):=by
 refine Xaa func83 rfl ntmps83 rfl rfl [.st (sl a k c.parents)] (.start1 h) ?_
 (repeat (refine wE ?_; intro _)); refine wA ?_
 refine JO.test 7 (fun h1=>?_) (fun h1=>?_)
 ·refine wz6 ?_
  refine JR.callV rfl (fun w1 hw=>Xga w1 _ c a k hw.get ht) ?_
  refine wz8 ?_
  refine Xab () ?_
  simp [Xaf,merge,h1]
 ·refine wz8 ?_
  refine Xab () ?_
  simp [Xaf,merge,h1]
def fine (c:Commit):Prop:=Xs8 c∧c.parents.length≤34359738368
def commit0:Commit:=⟨⟨0,0⟩,0,[],op0⟩
def Xgs (n:Int):Nat:=if 0≤n then (2 * n).toNat else (-2 * n - 1).toNat
theorem Xym (n:Int) (h : -1099511627776≤n∧n≤1099511627776) :
  IntKind.u64.wrap (BitVec.ofInt IntKind.u64.bits (IntKind.u64.wrap (IntKind.u64.wrap n * 2 ^ (min (Int.toNat 1) IntKind.u64.bits))) ^^^ BitVec.ofInt IntKind.u64.bits (IntKind.u64.wrap (n.fdiv (2 ^ (min (Int.toNat 63) IntKind.i64.bits))))).toNat=((Xgs n:Nat):Int):=by
 show IntKind.u64.wrap (BitVec.ofInt 64 (IntKind.u64.wrap (IntKind.u64.wrap n * 2 ^ 1)) ^^^ BitVec.ofInt 64 (IntKind.u64.wrap (n.fdiv 9223372036854775808))).toNat=((Xgs n:Nat):Int)
 have hw:∀ z:Int,IntKind.u64.wrap z=z % 18446744073709551616:=fun z=>by simp [IntKind.wrap,IntKind.bits,IntKind.signed]
 by_cases h0:0≤n
 ·have e1:IntKind.u64.wrap (IntKind.u64.wrap n * 2 ^ 1)=(((2 * n).toNat:Nat):Int):=by rw [hw,hw]; omega
  have e2:n.fdiv 9223372036854775808=0:=by rw [Int.fdiv_eq_ediv_of_nonneg _ (by decide)]; omega
  have e3:IntKind.u64.wrap 0=0:=by rw [hw]; rfl
  rw [e1,e2,e3]
  have e4:(BitVec.ofInt 64 0)=(0#64):=rfl
  rw [e4,BitVec.xor_zero,BitVec.ofInt_natCast,BitVec.toNat_ofNat,hw,Xgs,if_pos h0]
  omega
 ·have e1:IntKind.u64.wrap (IntKind.u64.wrap n * 2 ^ 1)=(((18446744073709551616+2 * n).toNat:Nat):Int):=by rw [hw,hw]; omega
  have e2:n.fdiv 9223372036854775808 = -1:=by rw [Int.fdiv_eq_ediv_of_nonneg _ (by decide)]; omega
  have e3:IntKind.u64.wrap (-1)=18446744073709551615:=by rw [hw]; rfl
  rw [e1,e2,e3]
  have e4:(BitVec.ofInt 64 18446744073709551615)=BitVec.allOnes 64:=rfl
  rw [e4,BitVec.xor_allOnes,BitVec.toNat_not,BitVec.ofInt_natCast,BitVec.toNat_ofNat,hw,Xgs,if_neg h0]
  omega
theorem Xrv (n:Int) (h : -1099511627776≤n∧n≤1099511627776):GivesV prog 151 [.int .i64 n] w F (.int .u64 ((Xgs n:Nat):Int)):=by
 refine Xaa func151 rfl ntmps151 rfl rfl [] (.start w F) ?_
 refine wz10 ?_
 refine Wf Xbm rfl ?_
 refine wz13 ?_
 refine Wf (OpV.shl (by decide)) rfl ?_
 refine wz6 ?_
 refine Wf (OpV.shr (by decide)) rfl ?_
 refine wz13 ?_
 refine Wf Xbm rfl ?_
 refine wz13 ?_
 refine Wf OpV.xor rfl ?_
 refine wz10 ?_
 refine Xab () ?_
 exact congrArg (Value.int .u64) (Xym n h)
def Xzw (c a b:UInt32):UInt32:=(c &&& a) ||| (b &&& ~~~ c)
def Xzx (a b c:UInt32):UInt32:=((a &&& b) ^^^ (a &&& c)) ^^^ (b &&& c)
def rotR (x:UInt32) (k:Nat):UInt32:=Xoa x k ||| Xlz x (32 - k)
theorem Xyn (c a b:UInt32):GivesV prog 228 [w32 c,w32 a,w32 b] w F (w32 (Xzw c a b)):=by
 refine Xaa func228 rfl ntmps228 rfl rfl [] (.start w F) ?_
 refine z0z ?_
 exact Xab () rfl
theorem Xyo (a b c:UInt32):GivesV prog 229 [w32 a,w32 b,w32 c] w F (w32 (Xzx a b c)):=by
 refine Xaa func229 rfl ntmps229 rfl rfl [] (.start w F) ?_
 refine z0z ?_
 exact Xab () rfl
theorem Xfu (x:UInt32) (k:Nat) (hk:1≤k∧k≤31):GivesV prog 282 [w32 x, .int .i64 (k:Int)] w F (w32 (rotR x k)):=by
 refine Xaa func282 rfl ntmps282 rfl rfl [] (.start w F) ?_
 refine z0z ?_
 refine Wf (Xdz (by rw [Xg4]; omega)) rfl ?_
 refine z0z ?_
 refine Wf (OpV.rem (by decide)) rfl ?_
 refine JO.reslot 8 (.int .u64 (k:Int)) (by congr 1; rw [Int.tmod_eq_emod_of_nonneg (by omega)]; omega) ?_
 refine z0z ?_
 refine Wf (Xj4 (k:=k) (by omega)) rfl ?_
 refine z0z ?_
 refine Wf Xx2 rfl ?_
 refine JO.reslot 14 (.int .u64 ((32 - k:Nat):Int)) (by congr 1; rw [show (32:Int) - (k:Int)=((32 - k:Nat):Int) by omega,Xg4]; omega) ?_
 refine z0z ?_
 refine Wf (Xg5 (k:=32 - k) (by omega)) rfl ?_
 refine z0z ?_
 exact Xab () rfl
def Xs9 (x:UInt32) (i:Nat):UInt8:=UInt8.ofNat (x.toNat / 2 ^ (24 - 8 * i))
def Xhe (x:UInt32):List UInt8:=(List.range 4).map (Xs9 x)
def Xvq (x:UInt32) (k:Nat):Vec UInt8 4:=⟨(List.range 4).map (fun i=>if i < k then Xs9 x i else 0),by simp⟩
theorem Xvr (x:UInt32) (k:Nat) (h:k < 4):(Xvq x k).1.set k (Xs9 x k)=(Xvq x (k+1)).1:=by
 match k,h with
 | 0,_=>rfl
 | 1,_=>rfl
 | 2,_=>rfl
 | 3,_=>rfl
theorem Xyp (x:UInt32):GivesV prog 156 [w32 x] w F (.agg ⟨(Xhe x).map Xaq⟩):=by
 refine Xaa func156 rfl ntmps156 rfl rfl [] (.start w F) ?_
 (repeat (refine wE ?_; intro _)); refine wA ?_
 rename_i bo
 refine JC.reown bo ((Xvq x 0).1.map Xaq) rfl ?_
 refine Xaj (fun k:Nat=>[(0,w32 x),(2, .pointer (some ⟨bo,0,none⟩)),(4, .int .i64 (k:Int))]) (fun k=>[.own bo 200 ((Xvq x k).1.map Xaq)])
  (fun k=>k≤4) (fun k=>4 - k) 0 (Nat.zero_le _) iI ?_
 intro k hk
 refine wz11 ?_
 refine JC.test (fun hlt=>?_) (fun hge=>?_)
 ·have hlt':k < 4:=by omega
  refine wz7 ?_
  refine Wf (OpV.mul (by omega)) rfl ?_
  refine We rfl ?_
  refine Wf (Vv (by omega)) rfl ?_
  refine JO.reslot 11 (.int .i64 ((24 - 8 * k:Nat):Int)) (by congr 1 <;> omega) ?_
  refine We rfl ?_
  refine Wf (Xj4 (k:=24 - 8 * k) (by omega)) rfl ?_
  refine We rfl ?_
  refine Wf Xbm rfl ?_
  refine JO.reslot 13 (Xaq (Xs9 x k)) (congrArg (Value.int .u8) (by
   rw [X2e,Xs9,UInt8.toNat_ofNat',Xoa,UInt32.toNat_ofNat',Nat.mod_eq_of_lt (a:=x.toNat / _) (Nat.lt_of_le_of_lt (Nat.div_le_self _ _) x.toNat_lt)])) ?_
  refine We rfl ?_
  refine Wf (Xac hlt') rfl ?_
  refine We rfl ?_
  refine Xfn k (Xs9 x k) (by rw [(Xvq x k).2]; exact hlt') (by omega) rfl ?_
  rw [Xvr x k hlt']
  refine wz2 ?_
  exact ⟨k+1,by omega,by omega,iI⟩
 ·obtain rfl:k=4:=by omega
  refine wz3 ?_
  exact Xab () rfl
def shaK:List UInt32:=[1116352408,1899447441,3049323471,3921009573,961987163,1508970993,2453635748,2870763221,3624381080,310598401,607225278,1426881987,1925078388,2162078206,2614888103,3248222580,3835390401,4022224774,264347078,604807628,770255983,1249150122,1555081692,1996064986,2554220882,2821834349,2952996808,3210313671,3336571891,3584528711,113926993,338241895,666307205,773529912,1294757372,1396182291,1695183700,1986661051,2177026350,2456956037,2730485921,2820302411,3259730800,3345764771,3516065817,3600352804,4094571909,275423344,430227734,506948616,659060556,883997877,958139571,1322822218,1537002063,1747873779,1955562222,2024104815,2227730452,2361852424,2428436474,2756734187,3204031479,3329325298]
def shaS:List UInt32:=[1779033703,3144134277,1013904242,2773480762,1359893119,2600822924,528734635,1541459225]
theorem Xvs:GivesV prog 153 [] w F (.agg ⟨shaS.map w32⟩):=by
 refine Xaa func153 rfl ntmps153 rfl rfl [] (.start w F) ?_
 (repeat (refine wE ?_; intro _)); refine wA ?_
 refine Wf (OpV.build [.int .u32 1779033703, .int .u32 3144134277, .int .u32 1013904242, .int .u32 2773480762, .int .u32 1359893119, .int .u32 2600822924, .int .u32 528734635, .int .u32 1541459225] (by kernel_rfl)) rfl ?_
 refine wz9 ?_
 refine Xab () ?_
 exact congrArg (fun l=>Value.agg ⟨l⟩) (show _=shaS.map w32 by kernel_rfl)
set_option maxRecDepth 4000 in
theorem Xnl:GivesV prog 225 [] w F (.agg ⟨shaK.map w32⟩):=by
 refine Xaa func225 rfl ntmps225 rfl rfl [] (.start w F) ?_
 (repeat (refine wE ?_; intro _)); refine wA ?_
 refine Wf (OpV.build [.int .u32 1116352408, .int .u32 1899447441, .int .u32 3049323471, .int .u32 3921009573, .int .u32 961987163, .int .u32 1508970993, .int .u32 2453635748, .int .u32 2870763221, .int .u32 3624381080, .int .u32 310598401, .int .u32 607225278, .int .u32 1426881987, .int .u32 1925078388, .int .u32 2162078206, .int .u32 2614888103, .int .u32 3248222580, .int .u32 3835390401, .int .u32 4022224774, .int .u32 264347078, .int .u32 604807628, .int .u32 770255983, .int .u32 1249150122, .int .u32 1555081692, .int .u32 1996064986, .int .u32 2554220882, .int .u32 2821834349, .int .u32 2952996808, .int .u32 3210313671, .int .u32 3336571891, .int .u32 3584528711, .int .u32 113926993, .int .u32 338241895, .int .u32 666307205, .int .u32 773529912, .int .u32 1294757372, .int .u32 1396182291, .int .u32 1695183700, .int .u32 1986661051, .int .u32 2177026350, .int .u32 2456956037, .int .u32 2730485921, .int .u32 2820302411, .int .u32 3259730800, .int .u32 3345764771, .int .u32 3516065817, .int .u32 3600352804, .int .u32 4094571909, .int .u32 275423344, .int .u32 430227734, .int .u32 506948616, .int .u32 659060556, .int .u32 883997877, .int .u32 958139571, .int .u32 1322822218, .int .u32 1537002063, .int .u32 1747873779, .int .u32 1955562222, .int .u32 2024104815, .int .u32 2227730452, .int .u32 2361852424, .int .u32 2428436474, .int .u32 2756734187, .int .u32 3204031479, .int .u32 3329325298] (by kernel_rfl)) rfl ?_
 refine wz9 ?_
 refine Xab () ?_
 exact congrArg (fun l=>Value.agg ⟨l⟩) (show _=shaK.map w32 by kernel_rfl)
def Xqn (x:UInt32) (a b c:Nat):UInt32:=(rotR x a ^^^ rotR x b) ^^^ Xoa x c
def Xqo (x:UInt32) (a b c:Nat):UInt32:=(rotR x a ^^^ rotR x b) ^^^ rotR x c
theorem Xoy (x:UInt32) (a b c:Nat) (ha:1≤a∧a≤31) (hb:1≤b∧b≤31) (hc:c≤32):GivesV prog 281 [w32 x, .int .i64 (a:Int), .int .i64 (b:Int), .int .i64 (c:Int)] w F (w32 (Xqn x a b c)):=by
 refine Xaa func281 rfl ntmps281 rfl rfl [] (.start w F) ?_
 refine z0z ?_
 refine Xbe mixed (by kernel_rfl) ?_
 refine z1z ?_
 refine JQ.call rfl rfl (fun w1 hw=>Xfu w1 _ x a ha) ?_
 refine z1z ?_
 refine JQ.call rfl rfl (fun w1 hw=>Xfu w1 _ x b hb) ?_
 refine z1z ?_
 refine Wy rfl (Xj4 (k:=c) hc) rfl ?_
 refine z1z ?_
 refine z0z ?_
 exact Xab () rfl
theorem Xoz (x:UInt32) (a b c:Nat) (ha:1≤a∧a≤31) (hb:1≤b∧b≤31) (hc:1≤c∧c≤31):GivesV prog 227 [w32 x, .int .i64 (a:Int), .int .i64 (b:Int), .int .i64 (c:Int)] w F (w32 (Xqo x a b c)):=by
 refine Xaa func227 rfl ntmps227 rfl rfl [] (.start w F) ?_
 refine z0z ?_
 refine JR.callV rfl (fun w1 hw=>Xfu w1 _ x a ha) ?_
 refine z0z ?_
 refine JR.callV rfl (fun w1 hw=>Xfu w1 _ x b hb) ?_
 refine z0z ?_
 refine JR.callV rfl (fun w1 hw=>Xfu w1 _ x c hc) ?_
 refine z0z ?_
 exact Xab () rfl
def Xta (x:UInt64) (i:Nat):UInt8:=UInt8.ofNat (x.toNat / 2 ^ (8 * i))
def Xo0 (x:UInt64):List UInt8:=(List.range 8).map (fun j=>Xta x (7 - j))
def Xvt (x:UInt64) (k:Nat):Vec UInt8 8:=⟨(List.range 8).map (fun j=>if 7 - j < k then Xta x (7 - j) else 0),by simp⟩
theorem Xvu (x:UInt64) (k:Nat) (h:k < 8):(Xvt x k).1.set (7 - k) (Xta x k)=(Xvt x (k+1)).1:=by
 match k,h with
 | 0,_=>rfl
 | 1,_=>rfl
 | 2,_=>rfl
 | 3,_=>rfl
 | 4,_=>rfl
 | 5,_=>rfl
 | 6,_=>rfl
 | 7,_=>rfl
theorem Xyq (x:UInt64):GivesV prog 224 [w64 x] w F (.agg ⟨(Xo0 x).map Xaq⟩):=by
 refine Xaa func224 rfl ntmps224 rfl rfl [] (.start w F) ?_
 (repeat (refine wE ?_; intro _)); refine wA ?_
 rename_i bo
 refine JC.reown bo ((Xvt x 0).1.map Xaq) rfl ?_
 refine Xaj (fun k:Nat=>[(0,w64 x),(2, .pointer (some ⟨bo,0,none⟩)),(4, .int .i64 (k:Int))]) (fun k=>[.own bo 254 ((Xvt x k).1.map Xaq)])
  (fun k=>k≤8) (fun k=>8 - k) 0 (Nat.zero_le _) iI ?_
 intro k hk
 refine wz11 ?_
 refine JC.test (fun hlt=>?_) (fun hge=>?_)
 ·have hlt':k < 8:=by omega
  refine wA ?_
  refine Wf (OpV.mul (by omega)) rfl ?_
  refine JO.reslot 11 (.int .i64 ((8 * k:Nat):Int)) (by congr 1) ?_
  refine JO.reslot 8 (.int .i64 ((7 - k:Nat):Int)) (by congr 1 <;> omega) ?_
  refine We rfl ?_
  refine Wf (Xus (k:=8 * k) (by omega)) rfl ?_
  refine We rfl ?_
  refine Wf Xbm rfl ?_
  refine JO.reslot 13 (Xaq (Xta x k)) (congrArg (Value.int .u8) (by
   rw [X2e,Xta,UInt8.toNat_ofNat',Xur,UInt64.toNat_ofNat',Nat.mod_eq_of_lt (a:=x.toNat / _) (Nat.lt_of_le_of_lt (Nat.div_le_self _ _) x.toNat_lt)])) ?_
  refine We rfl ?_
  refine Wf (Xac (k:=7 - k) (by omega)) rfl ?_
  refine We rfl ?_
  refine Xfn (7 - k) (Xta x k) (by rw [(Xvt x k).2]; omega) (by omega) rfl ?_
  rw [Xvu x k hlt']
  refine wz2 ?_
  exact ⟨k+1,by omega,by omega,iI⟩
 ·obtain rfl:k=8:=by omega
  refine wz3 ?_
  exact Xab () rfl
def X3c (a b c d:UInt8):UInt32:=((Xlz a.toUInt32 24 ||| Xlz b.toUInt32 16) ||| Xlz c.toUInt32 8) ||| d.toUInt32
def Xvv (L:List UInt8) (k:Nat):UInt32:=X3c (L.getD k 0) (L.getD (k+1) 0) (L.getD (k+2) 0) (L.getD (k+3) 0)
instance:NatI (24:Int) 24:=⟨rfl⟩
theorem Xnm (b:UInt8):Value.int .u32 (IntKind.u32.wrap (b.toNat:Int))=w32 b.toUInt32:=by
 rw [Xj3,Nat.mod_eq_of_lt (by have:=b.toNat_lt; omega)]; exact congrArg (fun n:Nat=>Value.int .u32 (n:Int)) (UInt8.toNat_toUInt32 b).symm
theorem X3d (L:List UInt8) (k:Nat) (h:k+4≤L.length):(L.drop k).take (k+4 - k)=[L.getD k 0,L.getD (k+1) 0,L.getD (k+2) 0,L.getD (k+3) 0]:=by
 rw [show k+4 - k=4 by omega]
 apply List.ext_getElem?
 intro i
 rw [List.getElem?_take,List.getElem?_drop]
 match i with
 | 0=>simp [show k < L.length by omega]
 | 1=>simp [show k+1 < L.length by omega]
 | 2=>simp [show k+2 < L.length by omega]
 | 3=>simp [show k+3 < L.length by omega]
 | i+4=>simp; omega
theorem Xyr (a:Option Addr) (c:Nat) (L:List UInt8) (k:Nat) (h:(sl a c L).holds F w) (hk:k+4≤L.length) :
  GivesV prog 280 [.slice a L.length c, .int .i64 (k:Int)] w F (.tuple ⟨[w32 (Xvv L k), .bool true]⟩):=by
 have hL:L.length < 9223372036854775800:=by have:=h.2.2.1; simp only [lim] at this; omega
 refine Xaa func280 rfl ntmps280 rfl rfl [.st (sl a c L)] (.start1 h) ?_
 refine wA ?_
 refine JC.test (fun h2=>?_) (fun h2=>?_)
 ·omega
 refine wA ?_
 refine Xp0 (l:=k) (k:=k+4) rfl rfl ⟨by omega,hk⟩ ?_
 intro a2 c2
 rw [X3d L k hk]
 refine wz13 ?_
 refine Xp1 rfl ⟨rfl,by simp⟩ ?_
 intro b o
 simp only [List.map_cons,List.map_nil]
 repeat (first | refine Wa ?_ | refine Wb ?_ | refine Wc ?_ | refine Wd ?_ | refine We rfl ?_ | refine Wf (by first | exact Va | exact Vb | exact Xa6 | exact Xa8 | exact Xa5 | exact Xak | exact Xai | exact Vc | exact Xac (by decide)) rfl ?_ | refine Ws ?_ | refine Wt ?_)
 (repeat (refine wE ?_; intro _)); refine wA ?_
 rename_i bx
 refine Wf (Xac (by decide)) rfl ?_
 refine JO.reslot 23 (.pointer (some ⟨bx,0,none⟩)) rfl ?_
 refine We rfl ?_
 refine Wf Vc rfl ?_
 refine We rfl ?_
 refine Wf Xbm rfl ?_
 refine JO.reslot 25 (w32 (L.getD k 0).toUInt32) (Xnm _) ?_
 refine We rfl ?_
 refine Wf (Xg5 (k:=24) (by decide)) rfl ?_
 refine We rfl ?_
 refine Wf (Xac (by decide)) rfl ?_
 refine JO.reslot 27 (.pointer (some ⟨bx,1,none⟩)) rfl ?_
 refine We rfl ?_
 refine Wf Vc rfl ?_
 refine We rfl ?_
 refine Wf Xbm rfl ?_
 refine JO.reslot 29 (w32 (L.getD (k+1) 0).toUInt32) (Xnm _) ?_
 refine We rfl ?_
 refine Wf (Xg5 (k:=16) (by decide)) rfl ?_
 refine We rfl ?_
 refine Wf Xa8 rfl ?_
 refine We rfl ?_
 refine Wf (Xac (by decide)) rfl ?_
 refine JO.reslot 32 (.pointer (some ⟨bx,2,none⟩)) rfl ?_
 refine We rfl ?_
 refine Wf Vc rfl ?_
 refine We rfl ?_
 refine Wf Xbm rfl ?_
 refine JO.reslot 34 (w32 (L.getD (k+2) 0).toUInt32) (Xnm _) ?_
 refine We rfl ?_
 refine Wf (Xg5 (k:=8) (by decide)) rfl ?_
 refine We rfl ?_
 refine Wf Xa8 rfl ?_
 refine We rfl ?_
 refine Wf (Xac (by decide)) rfl ?_
 refine JO.reslot 37 (.pointer (some ⟨bx,3,none⟩)) rfl ?_
 refine We rfl ?_
 refine Wf Vc rfl ?_
 refine We rfl ?_
 refine Wf Xbm rfl ?_
 refine JO.reslot 39 (w32 (L.getD (k+3) 0).toUInt32) (Xnm _) ?_
 refine We rfl ?_
 refine Wf Xa8 rfl ?_
 refine wz10 ?_
 exact Xab () rfl
end
section
attribute [local irreducible] JC JO JR JQ andThen inBlock OpV Gives Xae JM JS
def Xtb (L:List UInt8) (W:List UInt32) (k:Nat):UInt32 :=
 if k < 16 then Xvv L (4 * k) else ((W.getD (k - 16) 0+W.getD (k - 7) 0)+Xqn (W.getD (k - 15) 0) 7 18 3)+Xqn (W.getD (k - 2) 0) 17 19 10
def Xdq (L:List UInt8):Nat→List UInt32
 | 0=>List.replicate 64 0
 | k+1=>(Xdq L k).set k (Xtb L (Xdq L k) k)
theorem Xll (L:List UInt8) (k:Nat):(Xdq L k).length=64:=by
 induction k with
 | zero=>simp [Xdq]
 | succ k ih=>simp [Xdq,ih]
def Xa7 (L:List UInt8) (k:Nat):Vec UInt32 64:=⟨Xdq L k,Xll L k⟩
theorem Xo1 (L:List UInt8):(Xa7 L 0).1=List.replicate 64 0:=rfl
theorem Xis (L:List UInt8) (k:Nat):(Xa7 L (k+1)).1=(Xa7 L k).1.set k (Xtb L (Xa7 L k).1 k):=rfl
theorem Xh7 {W:List UInt32} {k:Nat} (h:k < W.length):W[k]'h=W.getD k 0:=by simp [List.getD_eq_getElem?_getD,h]
attribute [local irreducible] Xdq
theorem Xtc (a:Option Addr) (c:Nat) (L:List UInt8) (h:(sl a c L).holds F w) (hL:L.length=64) :
  GivesV prog 226 [.slice a L.length c] w F (.agg ⟨(Xa7 L 64).1.map w32⟩):=by
 refine Xaa func226 rfl ntmps226 rfl rfl [.st (sl a c L)] (.start1 h) ?_
 (repeat (refine wE ?_; intro _)); refine wA ?_
 rename_i bo
 refine JC.reown bo ((Xa7 L 0).1.map w32) (by rw [Xo1,List.map_replicate]; rfl) ?_
 refine Xaj (fun k:Nat=>[(0, .slice a L.length c),(2, .pointer (some ⟨bo,0,none⟩)),(4, .int .i64 (k:Int))]) (fun k=>[.own bo 256 ((Xa7 L k).1.map w32), .st (sl a c L)])
  (fun k=>k≤64) (fun k=>64 - k) 0 (Nat.zero_le _) iI ?_
 intro k hk
 refine wz11 ?_
 refine JC.test (fun hlt=>?_) (fun hge=>?_)
 ·have hlt':k < 64:=by omega
  have hv:=(Xa7 L k).2
  refine wA ?_
  refine JC.test (fun h16=>?_) (fun h16=>?_)
  ·have h16':k < 16:=by omega
   refine wz14 ?_
   refine Wf (OpV.shl (by decide)) rfl ?_
   refine JO.reslot 13 (.int .i64 ((4 * k:Nat):Int)) (congrArg (Value.int .i64) (by show IntKind.i64.wrap ((k:Int) * 2 ^ 2)=_; rw [IntKind.wrap_i64]; omega)) ?_
   refine We rfl ?_
   refine JR.callV rfl (fun w1 hw=>Xyr w1 _ a c L (4 * k) hw.get (by omega)) ?_
   refine wz4 ?_
   refine Wf (Xac hlt') rfl ?_
   refine We rfl ?_
   refine Xfn k (Xvv L (4 * k)) (by omega) (by omega) rfl ?_
   refine JO.reown bo ((Xa7 L (k+1)).1.map w32) (by rw [Xis,Xtb,if_pos h16']) ?_
   refine wz12 ?_
   exact ⟨k+1,by omega,by omega,iI⟩
  ·have h16':¬ k < 16:=by omega
   refine wz14 ?_
   refine Xca 23 mixed ?_
   refine JM.tv 0 ?_
   refine JM.tv 1 ?_
   refine JM.take 2 rfl (by kernel_rfl) rfl (Vv (by omega)) rfl rfl ?_
   refine JM.reslot 20 (.int .i64 ((k - 16:Nat):Int)) (by congr 1 <;> omega) ?_
   refine JM.take 3 rfl (by kernel_rfl) rfl (Xac (k:=k - 16) (by omega)) rfl rfl ?_
   refine JM.take 4 rfl (by kernel_rfl) rfl (Xbh (k - 16) (by omega) (by omega) rfl) rfl rfl ?_
   refine JM.tv 5 ?_
   refine JM.take 6 rfl (by kernel_rfl) rfl (Vv (by omega)) rfl rfl ?_
   refine JM.reslot 24 (.int .i64 ((k - 7:Nat):Int)) (by congr 1 <;> omega) ?_
   refine JM.take 7 rfl (by kernel_rfl) rfl (Xac (k:=k - 7) (by omega)) rfl rfl ?_
   refine JM.take 8 rfl (by kernel_rfl) rfl (Xbh (k - 7) (by omega) (by omega) rfl) rfl rfl ?_
   refine JM.take 9 rfl (by kernel_rfl) rfl Xai rfl rfl ?_
   refine JM.tv 10 ?_
   refine JM.take 11 rfl (by kernel_rfl) rfl (Vv (by omega)) rfl rfl ?_
   refine JM.reslot 29 (.int .i64 ((k - 15:Nat):Int)) (by congr 1 <;> omega) ?_
   refine JM.take 12 rfl (by kernel_rfl) rfl (Xac (k:=k - 15) (by omega)) rfl rfl ?_
   refine JM.take 13 rfl (by kernel_rfl) rfl (Xbh (k - 15) (by omega) (by omega) rfl) rfl rfl ?_
   refine JM.takeCall 14 rfl (by kernel_rfl) rfl (fun w1 hw=>Xoy w1 _ _ 7 18 3 (by decide) (by decide) (by decide)) rfl rfl ?_
   refine JM.take 15 rfl (by kernel_rfl) rfl Xai rfl rfl ?_
   refine JM.tv 16 ?_
   refine JM.take 17 rfl (by kernel_rfl) rfl (Vv (by omega)) rfl rfl ?_
   refine JM.reslot 35 (.int .i64 ((k - 2:Nat):Int)) (by congr 1 <;> omega) ?_
   refine JM.take 18 rfl (by kernel_rfl) rfl (Xac (k:=k - 2) (by omega)) rfl rfl ?_
   refine JM.take 19 rfl (by kernel_rfl) rfl (Xbh (k - 2) (by omega) (by omega) rfl) rfl rfl ?_
   refine JM.takeCall 20 rfl (by kernel_rfl) rfl (fun w1 hw=>Xoy w1 _ _ 17 19 10 (by decide) (by decide) (by decide)) rfl rfl ?_
   refine JM.take 21 rfl (by kernel_rfl) rfl Xai rfl rfl ?_
   refine JM.take 22 rfl (by kernel_rfl) rfl (Xac hlt') rfl rfl ?_
   refine JM.reslot 39 (w32 (Xtb L (Xa7 L k).1 k)) (by rw [Xtb,if_neg h16',Xh7,Xh7,Xh7,Xh7]) ?_
   refine Xah 23 (by kernel_rfl) rfl rfl rfl (Xfn k (Xtb L (Xa7 L k).1 k) (by omega) (by omega) rfl (JO.reown bo ((Xa7 L (k+1)).1.map w32) (by rw [Xis]) (Wd ⟨rfl,?_⟩)))
   refine JM.nil (by kernel_rfl) ?_
   refine wz2 ?_
   exact ⟨k+1,by omega,by omega,iI⟩
 ·obtain rfl:k=64:=by omega
  refine wz3 ?_
  exact Xab () rfl
end
section
attribute [local irreducible] JC JO JR JQ andThen inBlock OpV Gives Xae JM JS
attribute [local irreducible] Xdq
def Xvw (W s:List UInt32) (k:Nat):UInt32 :=
 (((s.getD 7 0+Xqo (s.getD 4 0) 6 11 25)+Xzw (s.getD 4 0) (s.getD 5 0) (s.getD 6 0))+shaK.getD k 0)+W.getD k 0
def X02 (s:List UInt32):UInt32:=Xqo (s.getD 0 0) 2 13 22+Xzx (s.getD 0 0) (s.getD 1 0) (s.getD 2 0)
def X2p (W s:List UInt32) (k:Nat):List UInt32 :=
 [Xvw W s k+X02 s,s.getD 0 0,s.getD 1 0,s.getD 2 0,s.getD 3 0+Xvw W s k,s.getD 4 0,s.getD 5 0,s.getD 6 0]
def X03 (W h:List UInt32):Nat→List UInt32
 | 0=>h
 | k+1=>X2p W (X03 W h k) k
theorem Xo2 (W:List UInt32) {h:List UInt32} (hh:h.length=8) (k:Nat):(X03 W h k).length=8:=by
 cases k with
 | zero=>exact hh
 | succ k=>rfl
def Xi3 (W:List UInt32) (h:Vec UInt32 8) (k:Nat):Vec UInt32 8:=⟨X03 W h.1 k,Xo2 W h.2 k⟩
theorem Xtd (W:List UInt32) (h:Vec UInt32 8):Xi3 W h 0=h:=rfl
theorem Xte (W:List UInt32) (h:Vec UInt32 8) (k:Nat):(Xi3 W h (k+1)).1=X2p W (Xi3 W h k).1 k:=rfl
def X2q (h s:List UInt32) (k:Nat):List UInt32:=(List.range 8).map (fun i=>if i < k then h.getD i 0+s.getD i 0 else h.getD i 0)
def Xhf (h s:List UInt32) (k:Nat):Vec UInt32 8:=⟨X2q h s k,by simp [X2q]⟩
theorem Xvx (h s:List UInt32) (k:Nat) (hk:k < 8):(Xhf h s k).1.set k (h.getD k 0+s.getD k 0)=(Xhf h s (k+1)).1:=by
 match k,hk with
 | 0,_=>rfl
 | 1,_=>rfl
 | 2,_=>rfl
 | 3,_=>rfl
 | 4,_=>rfl
 | 5,_=>rfl
 | 6,_=>rfl
 | 7,_=>rfl
theorem Xys (h s:List UInt32) (k:Nat) (hk:k < 8):(Xhf h s k).1.getD k 0=h.getD k 0:=by
 match k,hk with
 | 0,_=>rfl
 | 1,_=>rfl
 | 2,_=>rfl
 | 3,_=>rfl
 | 4,_=>rfl
 | 5,_=>rfl
 | 6,_=>rfl
 | 7,_=>rfl
theorem vec8 (v:Vec UInt32 8):∃ a b c d e f g h,v.1=[a,b,c,d,e,f,g,h]:=by
 obtain ⟨l,hl⟩:=v
 match l,hl with
 | [a,b,c,d,e,f,g,h],_=>exact ⟨a,b,c,d,e,f,g,h,rfl⟩
theorem Xtf (v:Vec UInt32 8) (s:List UInt32):(Xhf v.1 s 0).1=v.1:=by
 obtain ⟨a,b,c,d,e,f,g,h,hv⟩:=vec8 v
 rw [hv]; rfl
def Xku (h:Vec UInt32 8) (L:List UInt8):Vec UInt32 8:=Xhf h.1 (Xi3 (Xa7 L 64).1 h 64).1 8
def Xlm:Vec UInt32 64:=⟨shaK,rfl⟩
theorem Xln:GivesV prog 225 [] w F (.agg ⟨Xlm.1.map w32⟩):=Xnl w F
theorem Xyt:Xlm.1=shaK:=rfl
attribute [local irreducible] Xlm Xa7 Xi3 Xhf
theorem Xvy (a:Option Addr) (c:Nat) (L:List UInt8) (h:Vec UInt32 8) (hs:(sl a c L).holds F w) (hL:L.length=64) :
  GivesV prog 155 [.agg ⟨h.1.map w32⟩, .slice a L.length c] w F (.tuple ⟨[.agg ⟨(Xku h L).1.map w32⟩, .bool true]⟩):=by
 refine Xaa func155 rfl ntmps155 rfl rfl [.st (sl a c L)] (.start1 hs) ?_
 (repeat (refine wE ?_; intro _)); refine wA ?_
 rename_i bh br
 refine JC.test (fun h0=>?_) (fun h0=>?_)
 ·simp [hL] at h0
 refine wz14 ?_
 refine Xfi (fun q:Nat × Nat × Nat=>[(2, .pointer (some ⟨bh,0,none⟩)),(4, .pointer (some ⟨br,0,none⟩)),(6, .pointer (some ⟨q.1,0,none⟩)),(7, .pointer (some ⟨q.2.1,0,none⟩)),(8, .pointer (some ⟨q.2.2,0,none⟩))])
  (fun q=>[.own bh 196 (h.1.map w32), .own br 196 [.int .u32 0, .int .u32 0, .int .u32 0, .int .u32 0, .int .u32 0, .int .u32 0, .int .u32 0, .int .u32 0], .own q.1 256 (Xlm.1.map w32), .own q.2.1 256 ((Xa7 L 64).1.map w32), .own q.2.2 196 (h.1.map w32)]) ?_ ?_
 ·refine Xca 7 mixed ?_
  refine JM.takeCall 0 rfl (by kernel_rfl) rfl (fun w1 hw=>Xln w1 _) rfl rfl ?_
  refine JM.tv 1 ?_
  refine JM.takeCall 2 rfl (by kernel_rfl) rfl (fun w1 hw=>Xtc w1 _ a c L hw.get hL) rfl rfl ?_
  refine Xoj (i0:=3) (i1:=4) (i2:=5) (i3:=6) rfl Vc rfl rfl rfl (by kernel_rfl) rfl rfl rfl ?_ ?_
  ·intro q1 q2 q3
   refine Xah 7 (by kernel_rfl) rfl rfl rfl (Wi (Wd ⟨rfl,?_⟩))
   refine Xah 8 (by kernel_rfl) rfl rfl rfl (Wi (Wd ⟨rfl,?_⟩))
   refine Xah 9 (by kernel_rfl) rfl rfl rfl (Wi (Wd ⟨rfl,?_⟩))
   refine JM.nil (by kernel_rfl) ?_
   exact ⟨rfl,(q1,q2,q3),iI⟩
  ·intro q1 q2 q3
   refine Xn6 3 7 (by kernel_rfl) rfl rfl rfl rfl rfl rfl rfl (JS.val Vc rfl ?_) (Wi (Wd ⟨rfl,?_⟩))
   ·refine Xah 7 (by kernel_rfl) rfl rfl rfl (Wi (Wd ⟨rfl,?_⟩))
    refine Xah 8 (by kernel_rfl) rfl rfl rfl (Wi (Wd ⟨rfl,?_⟩))
    refine Xah 9 (by kernel_rfl) rfl rfl rfl (Wi (Wd ⟨rfl,?_⟩))
    refine JM.nil (by kernel_rfl) ?_
    exact ⟨rfl,(q1,q2,q3),iI⟩
   ·refine Xn6 3 8 (by kernel_rfl) rfl rfl rfl rfl rfl rfl rfl (JS.val Vc rfl ?_) (Wi (Wd ⟨rfl,?_⟩))
    ·refine Xah 8 (by kernel_rfl) rfl rfl rfl (Wi (Wd ⟨rfl,?_⟩))
     refine Xah 9 (by kernel_rfl) rfl rfl rfl (Wi (Wd ⟨rfl,?_⟩))
     refine JM.nil (by kernel_rfl) ?_
     exact ⟨rfl,(q1,q2,q3),iI⟩
    ·refine JM.one 3 (by kernel_rfl) rfl rfl rfl rfl (JS.val Vc rfl ?_)
     refine Xah 9 (by kernel_rfl) rfl rfl rfl (Wi (Wd ⟨rfl,?_⟩))
     refine JM.nil (by kernel_rfl) ?_
     exact ⟨rfl,(q1,q2,q3),iI⟩
 rintro ⟨q1,q2,q3⟩
 refine wz4 ?_
 refine Xaj (fun k:Nat=>[(2, .pointer (some ⟨bh,0,none⟩)),(4, .pointer (some ⟨br,0,none⟩)),(6, .pointer (some ⟨q1,0,none⟩)),(7, .pointer (some ⟨q2,0,none⟩)),(8, .pointer (some ⟨q3,0,none⟩)),(21, .int .i64 (k:Int))])
  (fun k=>[.own bh 196 (h.1.map w32), .own br 196 [.int .u32 0, .int .u32 0, .int .u32 0, .int .u32 0, .int .u32 0, .int .u32 0, .int .u32 0, .int .u32 0], .own q1 256 (Xlm.1.map w32), .own q2 256 ((Xa7 L 64).1.map w32), .own q3 196 ((Xi3 (Xa7 L 64).1 h k).1.map w32)])
  (fun k=>k≤64) (fun k=>64 - k) 0 (Nat.zero_le _) (by rw [Xtd]; infer_instance) ?_
 intro k hk
 refine wz11 ?_
 refine JC.test (fun hlt=>?_) (fun hge=>?_)
 ·have hlt':k < 64:=by omega
  have hkk:k < Xlm.1.length:=by rw [Xlm.2]; exact hlt'
  have hkw:k < (Xa7 L 64).1.length:=by rw [(Xa7 L 64).2]; exact hlt'
  obtain ⟨x0,x1,x2,x3,x4,x5,x6,x7,hx⟩:=vec8 (Xi3 (Xa7 L 64).1 h k)
  have hnext:=Xte (Xa7 L 64).1 h k
  rw [hx] at hnext ⊢
  refine wz7 ?_
  refine Xbe mixed (by kernel_rfl) ?_
  refine Wy rfl (Xac (k:=7) (by decide)) rfl ?_
  refine Wy rfl (Xbh 7 (by simp) rfl rfl) rfl ?_
  refine Wy rfl (Xac (k:=4) (by decide)) rfl ?_
  refine Wy rfl (Xbh 4 (by simp) rfl rfl) rfl ?_
  refine JQ.call rfl rfl (fun w1 hw=>Xoz w1 _ _ 6 11 25 (by decide) (by decide) (by decide)) ?_
  refine Wy rfl Xai rfl ?_
  refine Wy rfl (Xac (k:=4) (by decide)) rfl ?_
  refine Wy rfl (Xbh 4 (by simp) rfl rfl) rfl ?_
  refine Wy rfl (Xac (k:=5) (by decide)) rfl ?_
  refine Wy rfl (Xbh 5 (by simp) rfl rfl) rfl ?_
  refine Wy rfl (Xac (k:=6) (by decide)) rfl ?_
  refine Wy rfl (Xbh 6 (by simp) rfl rfl) rfl ?_
  refine JQ.call rfl rfl (fun w1 hw=>Xyn w1 _ _ _ _) ?_
  refine Wy rfl Xai rfl ?_
  refine Wy rfl Va rfl ?_
  refine Wy rfl (Xac hlt') rfl ?_
  refine Wy rfl (Xbh k hkk (by omega) rfl) rfl ?_
  refine Wy rfl Xai rfl ?_
  refine Wy rfl Va rfl ?_
  refine Wy rfl (Xac hlt') rfl ?_
  refine Wy rfl (Xbh k hkw (by omega) rfl) rfl ?_
  refine Wy rfl Xai rfl ?_
  refine JQ.reslot 45 (w32 (Xvw (Xa7 L 64).1 [x0,x1,x2,x3,x4,x5,x6,x7] k)) (by simp only [Xh7,Xyt]; rfl) ?_
  refine Wy rfl Vb rfl ?_
  refine WB ?_
  refine wz14 ?_
  refine Xbe mixed (by kernel_rfl) ?_
  refine Wy rfl (Xac (k:=0) (by decide)) rfl ?_
  refine Wy rfl (Xbh 0 (by simp) rfl rfl) rfl ?_
  refine JQ.call rfl rfl (fun w1 hw=>Xoz w1 _ _ 2 13 22 (by decide) (by decide) (by decide)) ?_
  refine Wy rfl (Xac (k:=0) (by decide)) rfl ?_
  refine Wy rfl (Xbh 0 (by simp) rfl rfl) rfl ?_
  refine Wy rfl (Xac (k:=1) (by decide)) rfl ?_
  refine Wy rfl (Xbh 1 (by simp) rfl rfl) rfl ?_
  refine Wy rfl (Xac (k:=2) (by decide)) rfl ?_
  refine Wy rfl (Xbh 2 (by simp) rfl rfl) rfl ?_
  refine JQ.call rfl rfl (fun w1 hw=>Xyo w1 _ _ _ _) ?_
  refine Wy rfl Xai rfl ?_
  refine JQ.reslot 56 (w32 (X02 [x0,x1,x2,x3,x4,x5,x6,x7])) rfl ?_
  refine Wy rfl Vb rfl ?_
  refine WB ?_
  refine wz14 ?_
  refine Xca 2 mixed ?_
  refine JM.take 0 rfl (by kernel_rfl) rfl (Xfj (l:=1) (by decide) rfl) rfl rfl ?_
  refine JM.take 1 rfl (by kernel_rfl) rfl (Xlg (k:=7) (by decide)) rfl rfl ?_
  refine Xah 2 (by kernel_rfl) rfl rfl rfl (Xl0 (cs:=[x0,x1,x2,x3,x4,x5,x6].map w32) rfl rfl (by decide) rfl (by simp) iI ?_)
  refine JO.reown q3 ([x0,x0,x1,x2,x3,x4,x5,x6].map w32) rfl (Wd ⟨rfl,?_⟩)
  refine JM.nil (by kernel_rfl) ?_
  refine wz14 ?_
  refine Wf (Xac (k:=4) (by decide)) rfl ?_
  refine We rfl ?_
  refine Wf (Xbh 4 (by simp) rfl rfl) rfl ?_
  refine We rfl ?_
  refine Wf Va rfl ?_
  refine We rfl ?_
  refine Wf Xai rfl ?_
  refine We rfl ?_
  refine Wf (Xac (k:=4) (by decide)) rfl ?_
  refine We rfl ?_
  refine Xfn 4 (x3+Xvw (Xa7 L 64).1 [x0,x1,x2,x3,x4,x5,x6,x7] k) (by simp) rfl rfl ?_
  refine wz10 ?_
  refine Wf Xai rfl ?_
  refine We rfl ?_
  refine Wf (Xac (k:=0) (by decide)) rfl ?_
  refine We rfl ?_
  refine Xfn 0 (Xvw (Xa7 L 64).1 [x0,x1,x2,x3,x4,x5,x6,x7] k+X02 [x0,x1,x2,x3,x4,x5,x6,x7]) (by simp) rfl rfl ?_
  refine JO.reown q3 ((Xi3 (Xa7 L 64).1 h (k+1)).1.map w32) (by rw [hnext]; rfl) ?_
  refine wz2 ?_
  exact ⟨k+1,by omega,by omega,iI⟩
 ·obtain rfl:k=64:=by omega
  obtain ⟨S,hS⟩:∃ S,S=Xi3 (Xa7 L 64).1 h 64:=⟨_,rfl⟩
  have hb:(Xku h L).1=(Xhf h.1 S.1 8).1:=by rw [hS]; rfl
  rw [← hS,hb]
  refine wA ?_
  refine Xaj (fun k:Nat=>[(2, .pointer (some ⟨bh,0,none⟩)),(4, .pointer (some ⟨br,0,none⟩)),(8, .pointer (some ⟨q3,0,none⟩)),(70, .int .i64 (k:Int))])
   (fun k=>[.own bh 196 ((Xhf h.1 S.1 k).1.map w32), .own br 196 [.int .u32 0, .int .u32 0, .int .u32 0, .int .u32 0, .int .u32 0, .int .u32 0, .int .u32 0, .int .u32 0], .own q3 196 (S.1.map w32)])
   (fun k=>k≤8) (fun k=>8 - k) 0 (Nat.zero_le _) (by rw [Xtf]; infer_instance) ?_
  intro k hk
  refine wz11 ?_
  refine JC.test (fun hlt=>?_) (fun hge=>?_)
  ·have hlt':k < 8:=by omega
   have hk1:k < (Xhf h.1 S.1 k).1.length:=by rw [(Xhf h.1 S.1 k).2]; exact hlt'
   have hk2:k < S.1.length:=by rw [S.2]; exact hlt'
   refine wz7 ?_
   refine Xca 8 mixed ?_
   refine JM.tv 0 ?_
   refine JM.take 1 rfl (by kernel_rfl) rfl (Xac hlt') rfl rfl ?_
   refine JM.take 2 rfl (by kernel_rfl) rfl (Xbh k hk1 (by omega) rfl) rfl rfl ?_
   refine JM.tv 3 ?_
   refine JM.take 4 rfl (by kernel_rfl) rfl (Xac hlt') rfl rfl ?_
   refine JM.take 5 rfl (by kernel_rfl) rfl (Xbh k hk2 (by omega) rfl) rfl rfl ?_
   refine JM.take 6 rfl (by kernel_rfl) rfl Xai rfl rfl ?_
   refine JM.take 7 rfl (by kernel_rfl) rfl (Xac hlt') rfl rfl ?_
   refine JM.reslot 79 (w32 (h.1.getD k 0+S.1.getD k 0)) (by simp only [Xh7]; rw [Xys _ _ _ hlt']) ?_
   refine Xah 8 (by kernel_rfl) rfl rfl rfl (Xfn k (h.1.getD k 0+S.1.getD k 0) hk1 (by omega) rfl (JO.reown bh ((Xhf h.1 S.1 (k+1)).1.map w32) (by rw [Xvx _ _ _ hlt']) (Wd ⟨rfl,?_⟩)))
   refine JM.nil (by kernel_rfl) ?_
   refine wz2 ?_
   exact ⟨k+1,by omega,by omega,iI⟩
  ·obtain rfl:k=8:=by omega
   refine wz3 ?_
   exact Xab () rfl
end
section
attribute [local irreducible] JC JO JR JQ andThen inBlock OpV Gives Xae JM JS
def padZ (n:Nat):Nat:=(119 - n % 64) % 64
def padL (L:List UInt8):List UInt8:=(L++[128])++List.replicate (padZ L.length) 0++Xo0 (UInt64.ofNat (L.length * 8))
instance {x:UInt64}:Len ((Xo0 x).map Xaq) 8:=⟨by simp [Xo0]⟩
instance {x:UInt32}:Len ((Xhe x).map Xaq) 4:=⟨by simp [Xhe]⟩
instance {Γ:List Fact}:Typed Γ [.int .u8 128] (128:UInt8):=⟨(),rfl,by simp [Cell.facts]⟩
instance {Γ:List Fact}:Typed Γ [.int .u8 0] (0:UInt8):=⟨(),rfl,by simp [Cell.facts]⟩
theorem X04 (a:Option Addr) (c:Nat) (L:List UInt8) (h:(sl a c L).holds F w) (hL:L.length≤1048576) :
  GivesBuf prog 154 [.slice a L.length c] w F 5 (padL L):=by
 refine Xaa func154 rfl ntmps154 rfl rfl [.st (sl a c L)] (.start1 h) ?_
 refine wA ?_
 have hn128:NatI ((L.length:Int)+128) (L.length+128):=⟨by omega⟩
 refine Xod (l:=L.length) (c:=L.length+128) rfl ⟨by omega,by omega⟩ ?_
 intro b
 refine wz10 ?_
 refine Xso (M:=L) rfl (by simp) ?_
 intro a1 c1 e1
 injection e1 with e1 e2 e3
 subst e1 e3
 refine JO.reslot 3 (.slice (some ⟨b,0,none⟩) L.length (L.length+128)) (by simp) ?_
 (repeat (refine wE ?_; intro _)); refine wA ?_
 refine Xap rfl (by exact ⟨rfl,rfl,by decide⟩) (by omega) ?_
 intro a2 c2
 refine wz4 ?_
 have hz:padZ L.length < 64:=Nat.mod_lt _ (by decide)
 refine Xcg (fun (k:Nat) p q=>[(0, .slice a L.length c),(3, .slice p ((L++[128])++List.replicate k (0:UInt8)).length q)]) (fun k p q=>[.res (buf p q 5 ((L++[128])++List.replicate k (0:UInt8)))])
  (fun k _ _=>k≤padZ L.length) (fun k _ _=>padZ L.length - k) 0 a2 c2 (Nat.zero_le _) (by rw [List.replicate_zero,List.append_nil]; infer_instance) ?_
 intro k p q hk
 refine wz4 ?_
 have hlen:((L++[128])++List.replicate k (0:UInt8)).length=L.length+1+k:=by simp; omega
 refine Wf (OpV.rem (by decide)) rfl ?_
 refine JO.reslot 19 (.int .i64 (((L.length+1+k) % 64:Nat):Int)) (by rw [hlen,Int.tmod_eq_emod_of_nonneg (by omega)]; congr 1) ?_
 refine wA ?_
 refine JC.test (fun h1=>?_) (fun h1=>?_)
 ·have h2:k < padZ L.length:=by simp only [padZ] at hk ⊢; omega
  (repeat (refine wE ?_; intro _)); refine wA ?_
  refine Xap rfl (by exact ⟨rfl,rfl,by decide⟩) (by rw [hlen]; omega) ?_
  intro a3 c3
  refine wz2 ?_
  have hs:(L++[128])++List.replicate (k+1) (0:UInt8)=(L++[128])++List.replicate k (0:UInt8)++[0]:=by rw [List.replicate_succ',← List.append_assoc]
  exact ⟨k+1,a3,c3,by omega,by omega,by rw [hs]; infer_instance⟩
 ·have h2:k=padZ L.length:=by simp only [padZ] at hk ⊢; omega
  subst h2
  refine wA ?_
  refine Wf Xbm rfl ?_
  refine JO.reslot 26 (.int .u64 (L.length:Int)) (congrArg (Value.int .u64) (by rw [Xg4]; omega)) ?_
  refine wz13 ?_
  refine Wf (OpV.shl (by decide)) rfl ?_
  refine JO.reslot 27 (w64 (UInt64.ofNat (L.length * 8))) (congrArg (Value.int .u64) (by
   show IntKind.u64.wrap ((L.length:Int) * 2 ^ 3)=_
   rw [show ((L.length:Int) * 2 ^ 3)=((L.length * 8:Nat):Int) by omega,Xg4,UInt64.toNat_ofNat'])) ?_
  refine wz13 ?_
  refine JR.callV rfl (fun w1 hw=>Xyq w1 _ _) ?_
  (repeat (refine wE ?_; intro _)); refine wA ?_
  refine Wf (Xcv (by decide)) rfl ?_
  refine We rfl ?_
  refine Xer (M:=Xo0 (UInt64.ofNat (L.length * 8))) rfl rfl rfl (by simp [Xo0]) (by exact ⟨rfl,rfl,by decide⟩) (by rw [hlen]; omega) ?_
  intro a3 c3
  refine wz10 ?_
  exact CT.done (a3,c3) rfl (fun w ho=>(ho.ent:Hold _ _ [.res (buf a3 c3 5 ((L++[128])++List.replicate (padZ L.length) (0:UInt8)++Xo0 (UInt64.ofNat (L.length * 8))))] w))
section
attribute [local irreducible] Xdq Xlm Xa7 Xi3 Xhf Xku
theorem Xqp (L:List UInt8):(padL L).length=64 * ((L.length+72) / 64):=by
 simp only [padL,List.length_append,List.length_replicate,Xo0,List.length_map,List.length_range,List.length_singleton,padZ]
 omega
def Xqq:Nat→Vec UInt32 8→List UInt8→Vec UInt32 8
 | 0,h,_=>h
 | n+1,h,p=>Xqq n (Xku h (p.take 64)) (p.drop 64)
def X05:Vec UInt32 8:=⟨shaS,rfl⟩
theorem Xtg:GivesV prog 153 [] w F (.agg ⟨X05.1.map w32⟩):=Xvs w F
def sumV (L:List UInt8):Vec UInt32 8:=Xqq ((padL L).length / 64) X05 (padL L)
def outK (h:List UInt32) (k:Nat):List UInt8:=(h.take k).flatMap Xhe++List.replicate (32 - 4 * k) 0
theorem X06 (h:List UInt32):(h.flatMap Xhe).length=4 * h.length:=by
 induction h with
 | nil=>rfl
 | cons x h ih=>simp only [List.flatMap_cons,List.length_append,ih,List.length_cons]; simp [Xhe]; omega
theorem Xqr (h:Vec UInt32 8) (k:Nat) (hk:k≤8):(outK h.1 k).length=32:=by
 have:=h.2
 simp only [outK,List.length_append,X06,List.length_take,List.length_replicate]
 omega
theorem Xvz (h:List UInt32):outK h 0=List.replicate 32 0:=by simp [outK]
theorem Xv0 (h:Vec UInt32 8) (k:Nat) (hk:k < 8):(outK h.1 k).take (4 * k)++Xhe (h.1.getD k 0)++(outK h.1 k).drop (4 * k+4)=outK h.1 (k+1):=by
 have h8:=h.2
 have h4:((h.1.take k).flatMap Xhe).length=4 * k:=by rw [X06,List.length_take]; omega
 rw [outK,outK,List.take_left' h4,List.drop_append,h4,List.drop_eq_nil_of_le (by omega),List.nil_append,List.drop_replicate,List.take_succ_eq_append_getElem (by omega),List.flatMap_append]
 have hg:h.1[k]'(by omega)=h.1.getD k 0:=by simp [List.getD_eq_getElem?_getD,h8,hk]
 simp only [List.flatMap_cons,List.flatMap_nil,List.append_nil,hg]
 congr 2
 omega
def sumL (L:List UInt8):List UInt8:=(sumV L).1.flatMap Xhe
def X07 (S:Vec UInt32 8):ID:=⟨S.1.flatMap Xhe,by rw [X06,S.2]⟩
def sumI (L:List UInt8):ID:=X07 (sumV L)
theorem Xv1 {S:List UInt32} {k:Nat} (h:k < S.length) (w:World):(part 195 ⟨S.map w32⟩ (k * 1)).run prog w = .ok (w32 (S.getD k 0)) w:=by
 have hagg:(isAgg 195).run prog w = .ok false w:=by
  unfold isAgg
  rw [Sem.run_bind,Xaz (P:=prog) (t:=195) w]
  rfl
 have hv:(⟨S.map w32⟩:Array Value)[k * 1]? = some (w32 (S.getD k 0)):=by
  rw [Nat.mul_one]
  simp [List.getD_eq_getElem?_getD,h]
 unfold part
 rw [Sem.run_bind,hagg]
 simp only [Result.andThen_ok,Bool.false_eq_true,if_false,hv]
 rfl
theorem Xv2 (a:Option Addr) (c:Nat) (L:List UInt8) (h:(sl a c L).holds F w) (hL:L.length≤1048576) :
  GivesV prog 93 [.slice a L.length c] w F (.agg ⟨idc (sumI L)⟩):=by
 have hpl:=Xqp L
 refine Xaa func93 rfl ntmps93 rfl rfl [.st (sl a c L)] (.start1 h) ?_
 (repeat (refine wE ?_; intro _)); refine wA ?_
 refine JR.callV rfl (fun w1 hw=>Xtg w1 _) ?_
 (repeat (refine wE ?_; intro _)); refine wA ?_
 refine JR.callBuf rfl (fun w1 hw=>X04 w1 _ a c L hw.get hL) ?_
 intro a1 c1
 refine JO.more (fun w1 ho=>ho.pub) ?_
 refine wz4 ?_
 rename_i bi bh
 refine JC.reown bi ((List.replicate 32 (0:UInt8)).map Xaq) (by rw [List.map_replicate]; rfl) ?_
 refine Xej (fun (k:Nat) (H:Vec UInt32 8) p q=>[(2, .pointer (some ⟨bi,0,none⟩)),(3, .pointer (some ⟨bh,0,none⟩)),(4, .slice p ((padL L).drop (64 * k)).length q)])
  (fun k H p q=>[.own bi 72 ((List.replicate 32 (0:UInt8)).map Xaq), .own bh 196 (H.1.map w32), .st (sl p q ((padL L).drop (64 * k)))])
  (fun k H p q=>64 * k≤(padL L).length∧Xqq ((padL L).length / 64 - k) H ((padL L).drop (64 * k))=sumV L) (fun k _ _ _=>(padL L).length - 64 * k) 0 X05 a1 c1 ⟨Nat.zero_le _,rfl⟩ (by rw [show 64 * 0=0 from rfl,List.drop_zero]; infer_instance) ?_
 intro k H p q ⟨hk,hinv⟩
 refine wz5 ?_
 refine JC.test (fun h1=>?_) (fun h1=>?_)
 ·have hk2:64 * k+64≤(padL L).length:=by rw [List.length_drop] at h1; omega
  refine wz14 ?_
  obtain ⟨pl,hpl2⟩:∃ pl,pl=(padL L).drop (64 * k):=⟨_,rfl⟩
  have hp64:(pl.take 64).length=64:=by rw [hpl2,List.length_take,List.length_drop]; omega
  have hpl64:64≤pl.length:=by rw [hpl2,List.length_drop]; omega
  rw [← hpl2] at hinv ⊢
  refine Xca 7 mixed ?_
  refine JM.tv 0 ?_
  refine JM.tv 1 ?_
  refine JM.take 2 rfl (by kernel_rfl) rfl (Xbb (k:=64) (fun w1 ho=>by have:=(Hold.get (A:=sl p q pl) ho).1; omega)) rfl rfl ?_
  refine JM.reslot 19 (.slice p (pl.take 64).length q) (by rw [hp64]) ?_
  refine JM.takeCall 3 rfl (by kernel_rfl) rfl (fun w1 hw=>Xvy w1 _ p q (pl.take 64) H (Xmr hw.get hpl64 ⟨Nat.le_trans hpl64 (hw.get (A:=sl p q pl)).1,Nat.le_refl _⟩) hp64) rfl rfl ?_
  refine JM.tv 4 ?_
  refine JM.tv 5 ?_
  refine Xn6 6 7 (by kernel_rfl) rfl rfl rfl rfl rfl rfl rfl (JS.val Vq rfl ?_) (Wi (Wd ⟨rfl,?_⟩))
  ·refine Xah 7 (by kernel_rfl) rfl rfl rfl (Wi (Wd ⟨rfl,?_⟩))
   refine JM.nil (by kernel_rfl) ?_
   refine wz2 ?_
   refine Xfm (L:=pl) (k:=64) rfl rfl (by omega) ?_
   intro p2 q2
   refine wz10 ?_
   have hd:pl.drop 64=(padL L).drop (64 * (k+1)):=by rw [hpl2,List.drop_drop]; congr 1
   have hn:(padL L).length / 64 - k=((padL L).length / 64 - (k+1))+1:=by omega
   refine ⟨k+1,Xku H (pl.take 64),p2,q2,⟨by omega,?_⟩,by omega,by rw [← hd]; infer_instance⟩
   rw [← hd,← hinv,hn]
   rfl
  ·refine JM.one 6 (by kernel_rfl) rfl rfl rfl rfl (JS.val Vq rfl ?_)
   refine JM.nil (by kernel_rfl) ?_
   refine wz2 ?_
   refine Xfm (L:=pl) (k:=64) rfl rfl (by omega) ?_
   intro p2 q2
   refine wz10 ?_
   have hd:pl.drop 64=(padL L).drop (64 * (k+1)):=by rw [hpl2,List.drop_drop]; congr 1
   have hn:(padL L).length / 64 - k=((padL L).length / 64 - (k+1))+1:=by omega
   refine ⟨k+1,Xku H (pl.take 64),p2,q2,⟨by omega,?_⟩,by omega,by rw [← hd]; infer_instance⟩
   rw [← hd,← hinv,hn]
   rfl
 ·have hk2:64 * k=(padL L).length:=by rw [List.length_drop] at h1; omega
  have hk3:(padL L).length / 64 - k=0:=by omega
  rw [hk3] at hinv
  have hinv:H=sumV L:=hinv
  subst hinv
  refine wA ?_
  obtain ⟨S,hS⟩:∃ S,S=sumV L:=⟨_,rfl⟩
  have hsum:sumI L=X07 S:=by subst hS; rfl
  rw [← hS,hsum]
  clear hS hinv hsum
  refine Xaj (fun k:Nat=>[(2, .pointer (some ⟨bi,0,none⟩)),(23, .agg ⟨S.1.map w32⟩),(24, .int .i64 (k:Int))]) (fun k=>[.own bi 72 ((outK S.1 k).map Xaq)])
   (fun k=>k≤8) (fun k=>8 - k) 0 (Nat.zero_le _) (by rw [Xvz]; infer_instance) ?_
  intro k hk
  refine wz11 ?_
  refine JC.test (fun hlt=>?_) (fun hge=>?_)
  ·have hlt':k < 8:=by omega
   have hkS:k < S.1.length:=by rw [S.2]; exact hlt'
   refine wz14 ?_
   refine Wf (Xn7 (r:=[]) (v:=w32 (S.1.getD k 0)) hlt' (fun w1=>Xv1 hkS w1)) rfl ?_
   refine wz10 ?_
   refine JR.callV rfl (fun w1 hw=>Xyp w1 _ _) ?_
   (repeat (refine wE ?_; intro _)); refine wA ?_
   refine Xca 4 mixed ?_
   refine JM.tv 0 ?_
   refine JM.take 1 rfl (by kernel_rfl) rfl (OpV.shl (by decide)) rfl rfl ?_
   refine JM.reslot 31 (.int .i64 ((4 * k:Nat):Int)) (congrArg (Value.int .i64) (by show IntKind.i64.wrap ((k:Int) * 2 ^ 2)=_; rw [IntKind.wrap_i64]; omega)) ?_
   refine JM.take 2 rfl (by kernel_rfl) rfl (Xfj (l:=4 * k) (by omega) rfl) rfl rfl ?_
   refine JM.take 3 rfl (by kernel_rfl) rfl (Xcv (by decide)) rfl rfl ?_
   have hmin:Nat.min 4 (32 - 4 * k)=4:=Nat.min_eq_left (by omega)
   have h4:(Xhe (S.1.getD k 0)).length=4:=by simp [Xhe]
   have hout:(outK S.1 k).length=32:=Xqr S k (by omega)
   refine Xah 4 (by kernel_rfl) rfl rfl rfl (Xl0 (cs:=(Xhe (S.1.getD k 0)).map Xaq) rfl (by rw [hmin]; exact List.take_of_length_le (by rw [show (0:Nat) - 0=0 from rfl,List.drop_zero,List.length_map,h4]; exact Nat.le_refl _)) (Nat.le_refl _) (by rw [hmin,List.length_map,h4]) (by simp only [List.length_map,h4,hout]; omega) iI ?_)
   refine JO.reown bi ((outK S.1 (k+1)).map Xaq) (by rw [← Xv0 S k hlt']; simp only [List.length_map,h4,List.map_append,List.map_take,List.map_drop,Nat.zero_add]) (Wd ⟨rfl,?_⟩)
   refine JM.nil (by kernel_rfl) ?_
   refine wz2 ?_
   exact ⟨k+1,by omega,by omega,iI⟩
  ·obtain rfl:k=8:=by omega
   have h8:outK S.1 8=S.1.flatMap Xhe:=by
    rw [outK,List.take_of_length_le (by rw [S.2]; exact Nat.le_refl _)]
    simp
   repeat (first | refine Wa ?_ | refine Wo ?_ | refine Wp ?_ | refine Wq rfl ?_ | refine Wr ?_ | refine Wm ?_)
   refine JC.reown bi (idc (X07 S)) (by rw [h8]; rfl) ?_
   refine wz9 ?_
   exact Xab () rfl
end
theorem Xgt (n:Nat) (hn:n < 18446744073709551616) (w:World) (F:Nat→Prop):GivesBuf prog 150 [.int .u64 (n:Int)] w F 5 (numL n):=by
 unfold GivesBuf Gives
 refine Calls.mono (callsIn_wide.1 (X2m n hn w)) ?_
 rintro e w' ⟨v,rfl,hrow,hB⟩
 have hlen:=Xb4 n
 rcases hrow.2 with ⟨_,h0⟩ | ⟨g,cap,cur,rfl,hg,hgb,h1,h2,h3,h4⟩
 ·exfalso
  have:numL n≠[]:=by unfold numL; simp only [numF]; split <;> simp
  exact this (List.eq_nil_of_length_eq_zero h0)
 ·refine ⟨(some ⟨g,0,none⟩,cap),rfl,Bel.of hB (fun h=>False.elim h),⟨fun f hf=>?_,by simp,fun f hf k hk=>?_⟩⟩
  ·simp only [List.mem_singleton] at hf; subst hf
   refine ⟨by simp only [lim]; omega,Xdn (numL n),Xfo _,⟨by rw [Xcw]; simp [Cell.sz], .inr ⟨g,cap,cur,rfl,Nat.zero_le _,hgb,h1,h2,h3,?_⟩⟩,fun p hp A hA=>by simp [Cell.facts] at hA⟩
   rw [Xcw]; exact h4
  ·simp only [List.mem_singleton] at hf; subst hf
   obtain ⟨a',ha',rfl⟩:=hk
   injection ha' with ha'
   subst ha'
   exact hg
def Xgu (s:ByteArray):List UInt8:=numL s.size++bytesOf s
theorem Xrw (s:ByteArray) (hs:s.size≤1048576) (w:World) (F:Nat→Prop):GivesBuf prog 171 [.string s] w F 5 (Xgu s):=by
 have hnl:=Xb4 s.size
 refine Xaa func171 rfl ntmps171 rfl rfl [] (.start w F) ?_
 refine wA ?_
 refine Wf (Xdz (by rw [Xg4]; omega)) rfl ?_
 refine wz13 ?_
 refine JR.callBuf rfl (fun w1 hw=>Xgt s.size (by omega) w1 _) ?_
 intro a1 c1
 refine wz6 ?_
 refine Xoc rfl (by exact ⟨rfl,rfl,by decide⟩) (by omega) ?_
 intro a2 c2
 refine wz10 ?_
 exact CT.done (a2,c2) rfl (fun w ho=>(ho.ent:Hold _ _ [.res (buf a2 c2 5 (numL s.size++bytesOf s))] w))
theorem Xrx {n:Int} (h : -1099511627776≤n∧n≤1099511627776):Xgs n < 18446744073709551616:=by
 unfold Xgs; split <;> omega
theorem X2r (o:Op_) (h : -1099511627776≤o.n∧o.n≤1099511627776):GivesBuf prog 165 [opV o] w F 5 (numL (Xgs o.n)):=by
 refine Xaa func165 rfl ntmps165 rfl rfl [] (.start w F) ?_
 (repeat (refine wE ?_; intro _)); refine wA ?_
 refine JR.callV rfl (fun w1 hw=>Xrv w1 _ o.n h) ?_
 refine wz13 ?_
 refine JR.callBuf rfl (fun w1 hw=>Xgt _ (Xrx h) w1 _) ?_
 intro a1 c1
 refine wz10 ?_
 exact Xab (a1,c1) rfl
theorem X2s (o:Op_) (h:o.elem.size≤1048576):GivesBuf prog 170 [opV o] w F 5 (Xgu o.elem):=by
 refine Xaa func170 rfl ntmps170 rfl rfl [] (.start w F) ?_
 (repeat (refine wE ?_; intro _)); refine wA ?_
 refine JR.callBuf rfl (fun w1 hw=>Xrw _ h w1 _) ?_
 intro a1 c1
 refine wz10 ?_
 exact Xab (a1,c1) rfl
end
def Xv3:Go.Shelf.Ren:=⟨fun | 14=>223 | 15=>279 | n=>n,fun | 22=>47 | 26=>234 | n=>n,fun | n=>n⟩
open Go.Shelf Go.Proofs in
theorem X3e:SlLaysJ.n14 prog Xv3 where
 mixed:=by kernel_rfl
 f14:=func223.trans (congrArg some (by kernel_rfl))
 f15:=func279.trans (congrArg some (by kernel_rfl))
 t0:=underlying0
 a0:=Tryz.isAgg0
 z0:=Tryz.sizeOf0
 v0:=Tryz.zeroValue0
 t3:=underlying3
 a3:=Tryz.isAgg3
 z3:=Tryz.sizeOf3
 v3:=Tryz.zeroValue3
 t4:=underlying4
 a4:=Tryz.isAgg4
 z4:=Tryz.sizeOf4
 v4:=Tryz.zeroValue4
 t9:=underlying9
 a9:=Tryz.isAgg9
 z9:=Tryz.sizeOf9
 v9:=Tryz.zeroValue9
 t20:=underlying20
 a20:=Tryz.isAgg20
 z20:=Tryz.sizeOf20
 v20:=Tryz.zeroValue20
 t22:=underlying47
 a22:=Tryz.isAgg47
 z22:=Tryz.sizeOf47
 v22:=Tryz.zeroValue47
 t26:=underlying234
 a26:=Tryz.isAgg234
 z26:=Tryz.sizeOf234
 v26:=Tryz.zeroValue234
 t5:=underlying5
 z5:=Tryz.sizeOf5
 i5:=by kernel_rfl
section
attribute [local irreducible] JC JO JR JQ andThen inBlock OpV Gives Xae JM JS
open Go.Proofs in
instance:Cell (List UInt8) where
 Ix:=Option Addr × Nat
 sz:=1
 cells l y:=[.slice y.1 l.length y.2]
 facts l y:=[sl y.1 y.2 l]
 len _ _:=rfl
 one l y:=by simp [Value.oneCell']
 pos:=by decide
section
variable {P:Program} {n:Nn} {w0:World} {F:Nat→Prop} {ops:Array Oper} {i d:Nat} {t:TypeId} {pos:String} {aft:Array Edge} {g:Option (Nat × Bool)} {os:List Oper} {Q:Cont} {e:E} {Γ:List Fact}
theorem Xhg {x ix:Operand} {v:Value} {L:List (List UInt8)} {kk:IntKind} {j:Int} {k:Nat} {ty el:TypeId} {sz by_ eb:Nat} {z ez:Value} {ed:TypeDesc}
  [hx:Ev e x v] [hL:HasSl Γ v (List UInt8) iI L] [hi:Ev e ix (.int kk j)] [hk:NatI j k] [hT:Ty P ty (.slice el) sz by_ z] [hE:Ty P el ed 1 eb ez] (hd:Nat.blt d n.s=true) (h:k < L.length)
  (K:∀ b o p q,JO P n w0 F ops (i+1) os Q ((d, .pointer (some ⟨b,o,none⟩))::e) (.st (ro b o [.slice p (L[k]'h).length q])::.st (sl p q (L[k]'h))::Γ)) :
  JR P n w0 F ops i ⟨some d, .indexAddr ty x ix,t,pos,aft,g⟩ os Q e Γ:=JR.index hd rfl h fun b o (y:Option Addr × Nat)=>K b o y.1 y.2
end
theorem Xi4 {F:Nat→Prop} {w:World} {a:Option Addr} {c:Nat} {l:List UInt8} (h:(sl a c l).holds F w):Lib.HoldsBytes w (.slice a l.length c) l:=by
 refine ⟨a,c,rfl,fun h0=>?_,fun ad hd i x hx=>?_⟩
 ·rw [← Classical.not_not (a:=l=[])]
  intro hne
  obtain ⟨b,off,h1,_⟩:=h.2.2.2 hne
  rw [h0] at h1; cases h1
 ·obtain ⟨hi,hxi⟩:=List.getElem?_eq_some_iff.1 hx
  have hne:l≠[]:=by intro h0; subst h0; simp at hi
  obtain ⟨b,off,h1,_⟩:=h.2.2.2 hne
  rw [hd] at h1
  injection h1 with h1
  subst h1 hd
  rw [Addr.add_mid]
  have:=Xmu h i hi
  rw [hxi] at this
  exact this
theorem Xyu {n:Nat} {F:Nat→Prop} {w:World} {v:Value} {l:List UInt8} (h:Lib.FreshBytes n w v l) (hl:l.length≤1048576):∃ a c,v = .slice a l.length c∧Fresh n F [.st (sl a c l)] w:=by
 obtain ⟨g,cap,zs,rfl,hB,h1,h2,hz,hb,hzs,hc,_⟩:=h
 refine ⟨some ⟨g,0,none⟩,cap,rfl,⟨fun f hf=>?_,by simp,fun f hf k hk=>?_⟩⟩
 ·simp only [List.mem_singleton] at hf; subst hf
  refine ⟨h1,h2,by simp only [lim]; omega,fun hne=>⟨g,0,rfl,⟨.inr hB,?_⟩,?_,fun i hi=>⟨(),?_,by simp [Cell.facts]⟩⟩⟩
  ·intro f hf
   simp only [List.mem_singleton] at hf; subst hf
   exact fun h=>h
  ·have h0:=hc 0 (by have:=List.length_pos_iff.2 hne; omega)
   rcases Nat.lt_or_ge g w.heap.size with h | h
   ·exact h
   ·unfold World.cell? at h0; simp [Array.getElem?_eq_none h] at h0
  ·intro j v hj
   simp only [Cell.cells,List.getElem?_singleton] at hj
   split at hj
   ·rename_i h0; subst h0
    injection hj with hj
    subst hj
    have h3:=hc i (by omega)
    simp only [Cell.sz,Nat.mul_one,Nat.zero_add,Nat.add_zero]
    rw [h3]
    have hi2:i < zs.length:=by omega
    have h4:l[i]=UInt8.ofNat (zs[i]).toNat:=by
     have:l[i]? = some (UInt8.ofNat (zs[i]).toNat):=by
      rw [← hzs,Lib.bytesOf,List.getElem?_map,List.getElem?_take,if_pos hi]
      simp [hi2]
     rw [List.getElem?_eq_getElem hi] at this
     injection this
    have h5:=hb zs[i] (List.getElem_mem hi2)
    rw [h4]
    simp only [Xaq,List.getD_eq_getElem?_getD,List.getElem?_eq_getElem hi2,Option.getD_some]
    congr 2
    rw [UInt8.toNat_ofNat']
    omega
   ·cases hj
 ·simp only [List.mem_singleton] at hf; subst hf
  exact hk.elim
theorem Xth (a:Option Addr) (c:Nat) (ls:List (List UInt8)) (h2:2≤ls.length) (h:(sl a c ls).holds F w) (hl:ls.flatten.length≤1048576) (hl2:ls.length≤1048576) :
  Xcp prog 223 [.slice a ls.length c, .slice none 0 0] w F ls.flatten:=by
 have hne:ls≠[]:=by intro h0; subst h0; simp at h2
 obtain ⟨b,off,rfl,hF,hlt,hrow⟩:=h.2.2.2 hne
 obtain ⟨r,hr1,hr2,hr3⟩:=Xi9 ls off hrow
 have hflat:∀ r:List (List UInt8 × Cell.Ix (List UInt8)),flat r=r.map (fun p=>Value.slice (p.2:Option Addr × Nat).1 p.1.length (p.2:Option Addr × Nat).2):=by
  intro r
  induction r with
  | nil=>rfl
  | cons p r ih=>obtain ⟨x,y⟩:=p; simp only [flat,List.map_cons,ih]; rfl
 have hsum:Lib.lens ls=ls.flatten.length:=by simp [Lib.lens,List.length_flatten]
 have hP:Lib.PartsAt w ⟨b,off,none⟩ (flat r) ls:=by
  refine ⟨by rw [hflat,List.length_map,← hr1,List.length_map],fun i v hv=>by rw [Addr.add_mid]; exact hr2 i v hv,fun i v l hv hll=>?_⟩
  rw [hflat,List.getElem?_map] at hv
  rw [← hr1,List.getElem?_map] at hll
  cases hri:r[i]? with
  | none=>rw [hri] at hv; cases hv
  | some p =>
   rw [hri] at hv hll
   injection hv with hv
   injection hll with hll
   subst hv hll
   exact Xi4 (hr3 p (List.mem_of_getElem? hri) _ (by simp [Cell.facts]))
 have hj:=Go.Proofs.Any.bytes_Join_many X3e b off ls.length c (flat r) ls (.slice none 0 0) [] w rfl h2 hP h.1 ⟨none,0,rfl,fun _=>rfl,nofun⟩ (by omega) (by rw [hsum,List.length_nil,Nat.zero_mul]; omega)
 unfold Xcp Gives
 refine Calls.mono hj ?_
 rintro e w' ⟨v,rfl,hfr,hB⟩
 have hjoin:Lib.join ls []=ls.flatten:=by
  cases ls with
  | nil=>rfl
  | cons x r=>rw [Lib.join_cons]; simp [Lib.joinTail]
 rw [hjoin] at hfr
 obtain ⟨a',c',rfl,hf⟩:=Xyu (F:=F) hfr hl
 exact ⟨(a',c'),rfl,Bel.of hB (fun h=>False.elim h),hf⟩
theorem Xti (k:Nat) (hk:k≤1048576):GivesBuf prog 221 [.slice none 0 0, .int .i64 (k:Int)] w F 5 ([]:List UInt8):=by
 refine Xaa func221 rfl ntmps221 rfl rfl [] (.start w F) ?_
 refine wz2 ?_
 refine Wf OpV.cap rfl ?_
 refine wA ?_
 refine JC.reslot 1 (.int .i64 (k:Int)) (by first | rfl | (congr 1 <;> omega)) ?_
 refine JC.test (fun hlt=>?_) (fun hge=>?_)
 ·refine wz14 ?_
  refine Wf OpV.cap rfl ?_
  refine We rfl ?_
  refine Wf (Xbb (k:=0) (fun _ _=>Nat.zero_le _)) rfl ?_
  refine wz6 ?_
  refine Xep (α:=UInt8) (k:=k) rfl (by exact ⟨rfl,rfl,by decide⟩) ⟨by omega,by omega⟩ ?_
  intro b c hc
  refine wz4 ?_
  refine Wf (Xbb (k:=0) (fun _ _=>Nat.zero_le _)) rfl ?_
  refine wz10 ?_
  exact Xab (some ⟨b,0,none⟩,c) rfl
 ·refine JC.buf_nil (α:=UInt8) 5 ?_
  refine wz1 ?_
  exact Xab (none,0) rfl
theorem Xo3 (a:Option Addr) (c:Nat) (ls:List (List UInt8)) (h:(sl a c ls).holds F w) (hl:ls.flatten.length≤1048576) (hl2:ls.length≤1048576) :
  GivesBuf prog 149 [.slice a ls.length c] w F 5 ls.flatten:=by
 have hle:∀ k,(ls.take k).flatten.length≤1048576:=fun k=>by
  have h1:=congrArg (fun l=>l.flatten.length) (List.take_append_drop k ls)
  simp only [List.flatten_append,List.length_append] at h1
  omega
 have hnext:∀ k (hk:k < ls.length),(ls.take (k+1)).flatten=(ls.take k).flatten++ls[k]:=fun k hk=>by
  rw [List.take_succ_eq_append_getElem hk,List.flatten_append]; simp
 refine Xaa func149 rfl ntmps149 rfl rfl [.st (sl a c ls)] (.start1 h) ?_
 refine wz4 ?_
 refine JC.reslot 3 (.int .i64 (((ls.take 0).flatten.length:Nat):Int)) rfl ?_
 refine Xaj (fun k:Nat=>[(0, .slice a ls.length c),(3, .int .i64 ((ls.take k).flatten.length:Int)),(9, .slice a ls.length c),(10, .int .i64 (ls.length:Int)),(11, .int .i64 (k:Int))]) (fun k=>[.st (sl a c ls)])
  (fun k=>k≤ls.length) (fun k=>ls.length - k) 0 (Nat.zero_le _) iI ?_
 intro k hk
 refine wz11 ?_
 refine JC.test (fun hlt=>?_) (fun hge=>?_)
 ·have hlt':k < ls.length:=by omega
  have h1:=hle (k+1)
  have h2:=hnext k hlt'
  have h3:(ls.take (k+1)).flatten.length=(ls.take k).flatten.length+(ls[k]).length:=by rw [h2,List.length_append]
  refine wz14 ?_
  refine Xhg rfl hlt' ?_
  intro b o p q
  refine wA ?_
  exact ⟨k+1,by omega,by omega,by rw [h3]; infer_instance⟩
 ·obtain rfl:k=ls.length:=by omega
  rw [List.take_length]
  refine wz3 ?_
  refine JR.callBuf rfl (fun w1 hw=>Xti w1 _ _ hl) ?_
  intro a1 c1
  refine wz4 ?_
  refine Xcg (fun (k:Nat) p q=>[(6, .slice p (ls.take k).flatten.length q),(25, .slice a ls.length c),(26, .int .i64 (ls.length:Int)),(27, .int .i64 (k:Int))]) (fun k p q=>[.st (sl a c ls), .res (buf p q 5 (ls.take k).flatten)])
   (fun k _ _=>k≤ls.length) (fun k _ _=>ls.length - k) 0 a1 c1 (Nat.zero_le _) (by rw [List.take_zero,List.flatten_nil]; infer_instance) ?_
  intro k p q hk
  refine wz11 ?_
  refine JC.test (fun hlt=>?_) (fun hge=>?_)
  ·have hlt':k < ls.length:=by omega
   have h1:=hle (k+1)
   have h2:=hnext k hlt'
   have h3:(ls.take (k+1)).flatten.length=(ls.take k).flatten.length+(ls[k]).length:=by rw [h2,List.length_append]
   refine wz14 ?_
   refine Xhg rfl hlt' ?_
   intro b o p2 q2
   refine wz9 ?_
   refine Xbq rfl (by exact ⟨rfl,rfl,by decide⟩) (by omega) ?_
   intro p3 q3
   refine wz2 ?_
   exact ⟨k+1,p3,q3,by omega,by omega,by rw [h2]; infer_instance⟩
  ·obtain rfl:k=ls.length:=by omega
   rw [List.take_length]
   refine wz3 ?_
   exact Xab (p,q) rfl
def Xet (o:Op_):List UInt8:=(numL o.kind.toNat++Xgu o.key)++(if o.kind=0 then numL (Xgs o.n) else Xgu o.elem)
def Xlo (o:Op_):List UInt8 × Int:=if Xes o then (Xet o,0) else ([],1)
theorem Xtj (f1 f2 f3:FuncId) (w:World):(Instr.field 152 (.agg ⟨[fnV f1,fnV f2,fnV f3]⟩) 1).run prog w = .ok (fnV f2) w:=by
 have h1:=Xaz (P:=prog) (t:=152) w
 unfold Instr.field
 rw [Sem.run_bind,h1]
 simp [asAgg,part,isAgg,Sem.run_bind]
theorem Hold.pubLists {w0 w:World} {F:Nat→Prop} {Γ:List Fact} {b:Nat} {t:TypeId} (ys:List (List UInt8 × (Option Addr × Nat))) (h:Hold w0 F (.own b t (ys.map (fun p=>.slice p.2.1 p.1.length p.2.2))::Γ) w)
  (hy:∀ p∈ys, .st (sl p.2.1 p.2.2 p.1)∈Γ) (hl:ys.length≤1048576):Hold w0 F (.st (sl (some ⟨b,0,none⟩) ys.length (ys.map (·.1)))::Γ) w:=by
 have hw:w.heap[b]? = some (.cells (ys.map (fun p=>Value.slice p.2.1 p.1.length p.2.2)).toArray t (0,0)):=h.sat (.own b t _) (by simp)
 refine h.publish fun hk=>?_
 have hb:=hk b (.inr rfl)
 refine ⟨by simp,by simp only [maxLen]; omega,by simp only [List.length_map,lim]; omega,fun hne=>⟨b,0,rfl,hb,(Array.getElem?_eq_some_iff.1 hw).1,fun i hi=>?_⟩⟩
 have hi':i < ys.length:=by simpa using hi
 refine ⟨(ys[i]).2,?_,fun A hA=>?_⟩
 ·intro j v hv
  simp only [Cell.cells,List.getElem?_singleton] at hv
  split at hv
  ·rename_i h0; subst h0
   injection hv with hv
   subst hv
   rw [cell_of_row w b _ _ _ _ hw]
   simp [Cell.sz,hi']
  ·cases hv
 ·simp only [Cell.facts,List.mem_singleton] at hA
  subst hA
  have:=h.tail.sat (.st (sl (ys[i]).2.1 (ys[i]).2.2 (ys[i]).1)) (hy _ (List.getElem_mem hi'))
  simp only [List.getElem_map]
  exact this
theorem pub3 {w0 w:World} {F:Nat→Prop} {b:Nat} {t u:TypeId} {N T C:List UInt8} {aN aT aC:Option Addr} {cN cT cC:Nat}
  (h:Hold w0 F [.own b t [.slice aN N.length cN, .slice aT T.length cT, .slice aC C.length cC], .res (buf aN cN u N), .res (buf aT cT u T), .res (buf aC cC u C)] w):Hold w0 F [.st (sl (some ⟨b,0,none⟩) 3 [N,T,C])] w:=by
 have h1:Hold w0 F [.res (buf aN cN u N), .own b t [.slice aN N.length cN, .slice aT T.length cT, .slice aC C.length cC], .res (buf aT cT u T), .res (buf aC cC u C)] w:=h.ent
 have h1:=h1.pub
 have h2:Hold w0 F [.res (buf aT cT u T), .st (sl aN cN N), .own b t [.slice aN N.length cN, .slice aT T.length cT, .slice aC C.length cC], .res (buf aC cC u C)] w:=h1.ent
 have h2:=h2.pub
 have h3:Hold w0 F [.res (buf aC cC u C), .st (sl aT cT T), .st (sl aN cN N), .own b t [.slice aN N.length cN, .slice aT T.length cT, .slice aC C.length cC]] w:=h2.ent
 have h3:=h3.pub
 have h4:Hold w0 F [.own b t [.slice aN N.length cN, .slice aT T.length cT, .slice aC C.length cC], .st (sl aC cC C), .st (sl aT cT T), .st (sl aN cN N)] w:=h3.ent
 have h5:=Hold.pubLists [(N,aN,cN),(T,aT,cT),(C,aC,cC)] h4 (by simp) (by simp)
 have h5:Hold w0 F [.st (sl (some ⟨b,0,none⟩) 3 [N,T,C]), .st (sl aC cC C), .st (sl aT cT T), .st (sl aN cN N)] w:=h5
 exact (h5.ent:Hold w0 F [.st (sl (some ⟨b,0,none⟩) 3 [N,T,C])] w)
theorem X08 (a:Option Addr) (c:Nat) (ls:List (List UInt8)) (L:List UInt8) (h2:2≤ls.length) (h:(sl a c ls).holds F w) (hL:ls.flatten=L) (hl:L.length≤1048576) (hl2:ls.length≤1048576) :
  Xcp prog 223 [.slice a ls.length c, .slice none 0 0] w F L:=by
 subst hL; exact Xth w F a c ls h2 h hl hl2
theorem Xfv (s:ByteArray):(Xgu s).length≤10+s.size:=by
 have:=Xb4 s.size
 rw [Xgu,List.length_append,Xgj]; omega
theorem Xkv (o:Op_) (h:Xes o=true):(o.kind=(o.kind.toNat:Int)∧o.kind.toNat < 4)∧o.key.size≤1048576∧∃ (f1 f2 f3:FuncId) (_:Body prog f2) (C:List UInt8),(Xa4 kindsM o.kind).getD Xs7 = .agg ⟨[fnV f1,fnV f2,fnV f3]⟩ ∧
  (∀ w F,GivesBuf prog f2 [opV o] w F 5 C)∧[numL o.kind.toNat,Xgu o.key,C].flatten=Xet o∧(Xet o).length≤100:=by
 have hnl:=fun n=>Xb4 n
 unfold Xes at h
 by_cases h0:o.kind=0
 ·rw [if_pos h0] at h
  simp only [Xc4,Bool.and_eq_true,decide_eq_true_eq] at h
  obtain ⟨⟨⟨_,_⟩,hk⟩,⟨⟨_,hn1⟩,hn2⟩,_⟩:=h
  refine ⟨by rw [h0]; exact ⟨rfl,by decide⟩,by omega,_,_,_,iI,numL (Xgs o.n),by rw [h0]; rfl,fun w F=>X2r w F o (by omega),?_,?_⟩
  ·rw [Xet,if_pos h0]; simp
  ·have h1:=hnl o.kind.toNat; have h2:=Xfv o.key; have h3:=hnl (Xgs o.n)
   rw [Xet,if_pos h0,List.length_append,List.length_append]; omega
 ·rw [if_neg h0] at h
  by_cases h1:o.kind=1∨o.kind=2∨o.kind=3
  ·rw [if_pos h1] at h
   simp only [Xc4,Bool.and_eq_true,decide_eq_true_eq] at h
   obtain ⟨⟨⟨_,_⟩,hk⟩,_,⟨_,_⟩,hk2⟩:=h
   refine ⟨by omega,by omega,169,170,172,iI,Xgu o.elem,?_,fun w F=>X2s w F o (by omega),?_,?_⟩
   ·rcases h1 with h1 | h1 | h1 <;> rw [h1] <;> rfl
   ·rw [Xet,if_neg h0]; simp
   ·have h1:=hnl o.kind.toNat; have h2:=Xfv o.key; have h3:=Xfv o.elem
    rw [Xet,if_neg h0,List.length_append,List.length_append]; omega
  ·rw [if_neg h1] at h; cases h
theorem X09 (o:Op_) (hk:o.key.size < 4611686018427387904) (he:o.elem.size < 4611686018427387904):Xi8 prog 152 [opV o] w F (Xlo o).1 [.int .i64 (Xlo o).2]:=by
 refine Xaa func152 rfl ntmps152 rfl rfl [] (.start w F) ?_
 (repeat (refine wE ?_; intro _)); refine wA ?_
 rename_i bo
 refine JR.callV rfl (fun w1 hw=>Xqm w1 _ o hk he) ?_
 refine wz7 ?_
 refine JC.test (fun h1=>?_) (fun h1=>?_)
 ·have h2:Xlo o=([],1):=by simp [Xlo,h1]
  rw [h2]
  refine wz9 ?_
  exact CT.done (none,0) rfl (fun w ho=>(ho.ent:Hold _ _ [] w).add Xau)
 have h1:Xes o=true:=by simpa using h1
 have h2:Xlo o=(Xet o,0):=by simp [Xlo,h1]
 obtain ⟨⟨hkk,hkn⟩,hks,f1,f2,f3,hbody,C,hlook,hput,hopp,hlen⟩:=Xkv o h1
 have hconv:IntKind.u64.wrap o.kind=o.kind:=by rw [hkk,Xg4]; omega
 rw [h2]
 refine wz14 ?_
 refine Xca 18 mixed ?_
 refine JM.tv 0 ?_
 refine JM.tv 1 ?_
 refine JM.take 2 rfl (by kernel_rfl) rfl (Xdz hconv) rfl rfl ?_
 refine JM.reslot 9 (.int .u64 ((o.kind.toNat:Nat):Int)) (congrArg (Value.int .u64) hkk) ?_
 refine JM.tv 4 ?_
 refine JM.tv 5 ?_
 refine JM.tv 8 ?_
 refine JM.tv 9 ?_
 refine JM.tv 12 ?_
 refine JM.one 3 (by kernel_rfl) rfl rfl rfl rfl (JS.callBuf rfl (fun w1 hw=>Xgt _ (by omega) w1 _) fun aN cN=>?_)
 refine JM.one 6 (by kernel_rfl) rfl rfl rfl rfl (JS.callBuf rfl (fun w1 hw=>Xrw _ hks w1 _) fun aT cT=>?_)
 refine JM.one 7 (by kernel_rfl) rfl rfl rfl rfl (JS.call1 rfl (fun w1 hw=>Xkt w1 _) fun mk=>?_)
 refine JM.take 10 rfl (by kernel_rfl) rfl (Xay o.kind Xiq hlook) rfl rfl ?_
 refine JM.take 11 rfl (by kernel_rfl) rfl (Xsp (Xtj f1 f2 f3)) rfl rfl ?_
 refine JM.one 13 (by kernel_rfl) rfl rfl rfl rfl (JS.callBuf rfl (fun w1 hw=>hput w1 _) fun aC cC=>?_)
 refine JM.one 14 (by kernel_rfl) rfl rfl rfl rfl (Xrk rfl ⟨rfl,by decide,by decide,by decide⟩ fun lb=>?_)
 refine JM.more (Γ':=[.st (sl (some ⟨lb,0,none⟩) 3 [numL o.kind.toNat,Xgu o.key,C])]) (fun w1 ho=>pub3 (b:=lb) (t:=47) (u:=5) (N:=numL o.kind.toNat) (T:=Xgu o.key) (C:=C) (aN:=aN) (aT:=aT) (aC:=aC) (cN:=cN) (cT:=cT) (cC:=cC) ho.ent) ?_
 refine JM.one 15 (by kernel_rfl) rfl rfl rfl rfl (JS.callSl rfl (fun w1 hw=>X08 w1 _ (some ⟨lb,0,none⟩) 3 [numL o.kind.toNat,Xgu o.key,C] (Xet o) (by simp) hw.get hopp (by omega) (by simp)) fun aJ cJ=>?_)
 refine JM.one 16 (by kernel_rfl) rfl rfl rfl rfl (JS.val Vb rfl ?_)
 refine JM.one 17 (by kernel_rfl) rfl rfl rfl rfl (JS.val Vb rfl ?_)
 refine JM.nil (by kernel_rfl) ?_
 refine wz13 ?_
 exact Xab (aJ,cJ) rfl
section
attribute [local irreducible] sumI numL Xgu Xet
def Xgf (c:Commit):List UInt8:=((numL (Xgs c.ev.node)++numL c.ev.seq.toNat)++numL c.gen.toNat)++numL c.parents.length
def idsL (L:List ID):List UInt8:=(L.map (·.1)).flatten
def Xa0 (c:Commit):List UInt8:=if c.ev.node = -1 then Xgf c++idsL c.parents else Xgf c++idsL c.parents++Xet c.op
def Xbc (c:Commit):List UInt8 × Int:=if may c then (Xa0 c,0) else ([],1)
theorem Xeb (L:List ID):(idsL L).length=32 * L.length:=by
 induction L with
 | nil=>rfl
 | cons x L ih=>simp only [idsL,List.map_cons,List.flatten_cons,List.length_append,List.length_cons] at ih ⊢; rw [ih,x.2]; omega
theorem Xo4 (L:List ID) (k:Nat) (hk:k < L.length):idsL (L.take (k+1))=idsL (L.take k)++(L[k]).1:=by
 rw [idsL,idsL,List.take_succ_eq_append_getElem hk,List.map_append,List.flatten_append]; simp
theorem Xit (c:Commit):(Xgf c).length≤40:=by
 have h1:=Xb4 (Xgs c.ev.node); have h2:=Xb4 c.ev.seq.toNat; have h3:=Xb4 c.gen.toNat; have h4:=Xb4 c.parents.length
 simp only [Xgf,List.length_append]; omega
structure MayC (c:Commit):Prop where
 node : -1≤c.ev.node∧c.ev.node≤7
 seq:0≤c.ev.seq∧c.ev.seq≤1048576
 gen:1≤c.gen∧c.gen≤1048576
 par:c.parents.length≤8
 op:c.ev.node≠-1→Xes c.op=true
theorem Xry {c:Commit} (h:may c=true):MayC c:=by
 unfold may at h
 split at h
 ·cases h
 ·rename_i h1
  simp only [inB,Bool.or_eq_true,Bool.not_eq_true',not_or,Bool.not_eq_false,decide_eq_true_eq,Bool.and_eq_true,Nat.not_lt] at h1
  obtain ⟨⟨⟨hg,hp⟩,_⟩,_⟩:=h1
  split at h
  ·rename_i h2
   simp only [Bool.and_eq_true,decide_eq_true_eq] at h
   exact ⟨by omega,by omega,hg,hp,fun hn=>(hn h2).elim⟩
  ·rename_i h2
   simp only [inB,Bool.and_eq_true,decide_eq_true_eq] at h
   exact ⟨by omega,by omega,hg,hp,fun _=>h.2⟩
theorem pub4 {w0 w:World} {F:Nat→Prop} {b:Nat} {t u:TypeId} {A B C D:List UInt8} {aA aB aC aD:Option Addr} {cA cB cC cD:Nat} {Γ:List Fact}
  (h:Hold w0 F (.res (buf aA cA u A)::.res (buf aB cB u B)::.res (buf aC cC u C)::.res (buf aD cD u D)::.own b t [.slice aA A.length cA, .slice aB B.length cB, .slice aC C.length cC, .slice aD D.length cD]::Γ) w) :
  Hold w0 F (.st (sl (some ⟨b,0,none⟩) 4 [A,B,C,D])::Γ) w:=by
 have rot:∀ {X:Fact} {Γ':List Fact},Hold w0 F (X::Γ') w→Hold w0 F (Γ'++[X]) w:=fun h=>h.perm (by
  exact (List.perm_append_comm (l₁:=[_])))
 have h1:=h.pub
 have h2:Hold w0 F (.res (buf aB cB u B)::.st (sl aA cA A)::.res (buf aC cC u C)::.res (buf aD cD u D)::.own b t [.slice aA A.length cA, .slice aB B.length cB, .slice aC C.length cC, .slice aD D.length cD]::Γ) w:=h1.perm (List.Perm.swap _ _ _)
 have h2:=h2.pub
 have h3:Hold w0 F (.res (buf aC cC u C)::.st (sl aB cB B)::.st (sl aA cA A)::.res (buf aD cD u D)::.own b t [.slice aA A.length cA, .slice aB B.length cB, .slice aC C.length cC, .slice aD D.length cD]::Γ) w :=
  h2.perm (((List.Perm.swap _ _ _).cons _).trans (List.Perm.swap _ _ _))
 have h3:=h3.pub
 have h4:Hold w0 F (.res (buf aD cD u D)::.st (sl aC cC C)::.st (sl aB cB B)::.st (sl aA cA A)::.own b t [.slice aA A.length cA, .slice aB B.length cB, .slice aC C.length cC, .slice aD D.length cD]::Γ) w :=
  h3.perm (((((List.Perm.swap _ _ _).cons _).trans (List.Perm.swap _ _ _)).cons _).trans (List.Perm.swap _ _ _))
 have h4:=h4.pub
 have h5:Hold w0 F (.own b t [.slice aA A.length cA, .slice aB B.length cB, .slice aC C.length cC, .slice aD D.length cD]::.st (sl aD cD D)::.st (sl aC cC C)::.st (sl aB cB B)::.st (sl aA cA A)::Γ) w :=
  h4.perm ((((((((List.Perm.swap _ _ _).cons _).trans (List.Perm.swap _ _ _)).cons _).trans (List.Perm.swap _ _ _)).cons _).trans (List.Perm.swap _ _ _)))
 have h6:=Hold.pubLists [(A,aA,cA),(B,aB,cB),(C,aC,cC),(D,aD,cD)] h5 (by simp) (by simp)
 have h6:Hold w0 F (.st (sl (some ⟨b,0,none⟩) 4 [A,B,C,D])::.st (sl aD cD D)::.st (sl aC cC C)::.st (sl aB cB B)::.st (sl aA cA A)::Γ) w:=h6
 have h7:Hold w0 F ((.st (sl (some ⟨b,0,none⟩) 4 [A,B,C,D])::Γ)++[.st (sl aD cD D), .st (sl aC cC C), .st (sl aB cB B), .st (sl aA cA A)]) w :=
  h6.perm ((List.perm_append_comm (l₁:=[Fact.st (sl aD cD D), .st (sl aC cC C), .st (sl aB cB B), .st (sl aA cA A)]) (l₂:=Γ)).cons _)
 exact h7.left
theorem Xv4 (a:Option Addr) (c:Nat) (ls:List (List UInt8)) (L:List UInt8) (h:(sl a c ls).holds F w) (hL:ls.flatten=L) (hl:L.length≤1048576) (hl2:ls.length≤1048576) :
  GivesBuf prog 149 [.slice a ls.length c] w F 5 L:=by
 subst hL; exact Xo3 w F a c ls h hl hl2
theorem Xtk (o:Op_) (hk:o.key.size < 4611686018427387904) (he:o.elem.size < 4611686018427387904) (h:Xes o=true):Xi8 prog 152 [opV o] w F (Xet o) [.int .i64 0]:=by
 have h1:=X09 w F o hk he
 have h2:Xlo o=(Xet o,0):=by simp [Xlo,h]
 rw [h2] at h1
 exact h1
theorem Xtl (c:Commit) (a:Option Addr) (k:Nat) (h:(sl a k c.parents).holds F w) (ht:Xs8 c) :
  Xi8 prog 92 [Xbk c a k] w F (Xbc c).1 [.int .i64 (Xbc c).2]:=by
 refine Xaa func92 rfl ntmps92 rfl rfl [.st (sl a k c.parents)] (.start1 h) ?_
 (repeat (refine wE ?_; intro _)); refine wA ?_
 rename_i bc
 refine JR.callV rfl (fun w1 hw=>Xga w1 _ c a k hw.get ht) ?_
 refine wz7 ?_
 refine JC.test (fun h1=>?_) (fun h1=>?_)
 ·have h2:Xbc c=([],1):=by simp [Xbc,h1]
  rw [h2]
  refine wz9 ?_
  exact CT.done (none,0) rfl (fun w ho=>(ho.ent:Hold _ _ [] w).add Xau)
 have h1:may c=true:=by simpa using h1
 have h2:Xbc c=(Xa0 c,0):=by simp [Xbc,h1]
 have hm:=Xry h1
 have hh:=Xit c
 rw [h2]
 have hn1:=hm.node
 have hn2:=hm.seq
 have hn3:=hm.gen
 have hn4:=hm.par
 have hs1:IntKind.u64.wrap c.ev.seq=c.ev.seq:=by rw [show c.ev.seq=((c.ev.seq.toNat:Nat):Int) by omega,Xg4]; omega
 have hs2:IntKind.u64.wrap c.gen=c.gen:=by rw [show c.gen=((c.gen.toNat:Nat):Int) by omega,Xg4]; omega
 refine wz14 ?_
 refine Xca 22 mixed ?_
 refine JM.tv 0 ?_
 refine JM.tv 1 ?_
 refine JM.tv 2 ?_
 refine JM.takeCall 3 rfl (by kernel_rfl) rfl (fun w1 hw=>Xrv w1 _ c.ev.node (by omega)) rfl rfl ?_
 refine JM.tv 5 ?_
 refine JM.tv 6 ?_
 refine JM.tv 7 ?_
 refine JM.take 8 rfl (by kernel_rfl) rfl (Xdz hs1) rfl rfl ?_
 refine JM.reslot 20 (.int .u64 ((c.ev.seq.toNat:Nat):Int)) (congrArg (Value.int .u64) (by omega)) ?_
 refine JM.tv 10 ?_
 refine JM.tv 11 ?_
 refine JM.take 12 rfl (by kernel_rfl) rfl (Xdz hs2) rfl rfl ?_
 refine JM.reslot 24 (.int .u64 ((c.gen.toNat:Nat):Int)) (congrArg (Value.int .u64) (by omega)) ?_
 refine JM.tv 14 ?_
 refine JM.tv 15 ?_
 refine JM.tv 16 ?_
 refine JM.take 17 rfl (by kernel_rfl) rfl (Xdz (by rw [Xg4]; omega)) rfl rfl ?_
 refine JM.one 4 (by kernel_rfl) rfl rfl rfl rfl (JS.callBuf rfl (fun w1 hw=>Xgt _ (Xrx (by omega)) w1 _) fun a1 c1=>?_)
 refine JM.one 9 (by kernel_rfl) rfl rfl rfl rfl (JS.callBuf rfl (fun w1 hw=>Xgt _ (by omega) w1 _) fun a2 c2=>?_)
 refine JM.one 13 (by kernel_rfl) rfl rfl rfl rfl (JS.callBuf rfl (fun w1 hw=>Xgt _ (by omega) w1 _) fun a3 c3=>?_)
 refine JM.one 18 (by kernel_rfl) rfl rfl rfl rfl (JS.callBuf rfl (fun w1 hw=>Xgt _ (by omega) w1 _) fun a4 c4=>?_)
 refine JM.one 19 (by kernel_rfl) rfl rfl rfl rfl (Xrk rfl ⟨rfl,by decide,by decide,by decide⟩ fun lb=>?_)
 refine JM.more (Γ':=[.st (sl (some ⟨lb,0,none⟩) 4 [numL (Xgs c.ev.node),numL c.ev.seq.toNat,numL c.gen.toNat,numL c.parents.length]), .own bc 31 [.int .i64 c.ev.node, .int .i64 c.ev.seq, .int .i64 c.gen, .slice a c.parents.length k, .int .i64 c.op.kind, .string c.op.key, .string c.op.elem, .int .i64 c.op.n], .st (sl a k c.parents)])
  (fun w1 ho=>pub4 (b:=lb) (t:=47) (u:=5) (aA:=a1) (aB:=a2) (aC:=a3) (aD:=a4) (cA:=c1) (cB:=c2) (cC:=c3) (cD:=c4) ho.ent) ?_
 refine JM.one 20 (by kernel_rfl) rfl rfl rfl rfl (JS.callBuf rfl (fun w1 hw=>Xv4 w1 _ (some ⟨lb,0,none⟩) 4 [numL (Xgs c.ev.node),numL c.ev.seq.toNat,numL c.gen.toNat,numL c.parents.length] (Xgf c) hw.get (by simp [Xgf]) (by omega) (by simp)) fun p0 q0=>?_)
 refine JM.one 21 (by kernel_rfl) rfl rfl rfl rfl (JS.val Vb rfl ?_)
 refine JM.nil (by kernel_rfl) ?_
 refine wA ?_
 refine Xcg (fun (i:Nat) p q=>[(1, .pointer (some ⟨bc,0,none⟩)),(4, .slice p (Xgf c++idsL (c.parents.take i)).length q),(34, .slice a c.parents.length k),(35, .int .i64 (c.parents.length:Int)),(36, .int .i64 (i:Int))])
  (fun i p q=>[.own bc 31 [.int .i64 c.ev.node, .int .i64 c.ev.seq, .int .i64 c.gen, .slice a c.parents.length k, .int .i64 c.op.kind, .string c.op.key, .string c.op.elem, .int .i64 c.op.n], .st (sl a k c.parents), .res (buf p q 5 (Xgf c++idsL (c.parents.take i)))])
  (fun i _ _=>i≤c.parents.length) (fun i _ _=>c.parents.length - i) 0 p0 q0 (Nat.zero_le _) (by rw [List.take_zero,show idsL []=[] from rfl,List.append_nil]; infer_instance) ?_
 intro i p q hi
 refine wz11 ?_
 refine JC.test (fun hlt=>?_) (fun hge=>?_)
 ·have hlt':i < c.parents.length:=by omega
  have hil:=Xeb (c.parents.take i)
  rw [List.length_take] at hil
  refine wz14 ?_
  refine Xbx rfl hlt' ?_
  intro b o
  (repeat (refine wE ?_; intro _)); refine wA ?_
  refine Wf (Xcv (by decide)) rfl ?_
  refine We rfl ?_
  refine Xer (M:=(c.parents[i]).1) rfl rfl rfl (c.parents[i]).2 (by exact ⟨rfl,rfl,by decide⟩) (by rw [List.length_append]; omega) ?_
  intro p3 q3
  refine wz2 ?_
  have hnx:Xgf c++idsL (c.parents.take (i+1))=Xgf c++idsL (c.parents.take i)++(c.parents[i]).1:=by rw [Xo4 _ _ hlt',List.append_assoc]
  exact ⟨i+1,p3,q3,by omega,by omega,by rw [hnx]; infer_instance⟩
 ·obtain rfl:i=c.parents.length:=by omega
  have hil:=Xeb c.parents
  rw [List.take_length]
  refine wA ?_
  refine JC.test (fun hnode=>?_) (fun hnode=>?_)
  ·have hb:Xa0 c=Xgf c++idsL c.parents:=by rw [Xa0,if_pos hnode]
   rw [hb]
   refine wz9 ?_
   exact CT.done (p,q) rfl (fun w ho=>Hold.left (Γ:=[.st (sl p q (Xgf c++idsL c.parents))]) (Hold.pub (ho.ent:Hold _ _ [.res (buf p q 5 (Xgf c++idsL c.parents))] w)))
  ·have hb:Xa0 c=Xgf c++idsL c.parents++Xet c.op:=by rw [Xa0,if_neg hnode]
   have hop:=hm.op hnode
   have hput:Xlo c.op=(Xet c.op,0):=by simp [Xlo,hop]
   have hopl:=(Xkv c.op hop).2.2
   obtain ⟨_,_,_,_,_,_,_,_,hopl⟩:=hopl
   rw [hb]
   refine wz1 ?_
   refine Xlw (L:=Xet c.op) (us':=[.int .i64 0]) rfl (fun w1 hw=>Xtk w1 _ c.op ht.1 ht.2 hop) ?_
   intro p4 q4
   refine wz4 ?_
   refine Xbq rfl (by exact ⟨rfl,rfl,by decide⟩) (by rw [List.length_append]; omega) ?_
   intro p5 q5
   refine wz10 ?_
   exact CT.done (p5,q5) rfl (fun w ho=>Hold.left (Γ:=[.st (sl p5 q5 (Xgf c++idsL c.parents++Xet c.op))]) (Hold.pub (ho.ent:Hold _ _ [.res (buf p5 q5 5 (Xgf c++idsL c.parents++Xet c.op))] w)))
theorem Xi5 {c:Commit} (h:may c=true):(Xa0 c).length≤400:=by
 have hm:=Xry h
 have h1:=Xit c
 have h2:=Xeb c.parents
 have h3:=hm.par
 unfold Xa0
 split
 ·rw [List.length_append]; omega
 ·rename_i hn
  obtain ⟨_,_,_,_,_,_,_,_,h4⟩:=(Xkv c.op (hm.op hn)).2.2
  rw [List.length_append,List.length_append]; omega
def Xv5:ID:=⟨List.replicate 32 0,rfl⟩
def Xat (c:Commit):ID × Int:=if may c then (sumI (Xa0 c),0) else (Xv5,1)
theorem Xgv (c:Commit) (a:Option Addr) (k:Nat) (h:(sl a k c.parents).holds F w) (ht:Xs8 c) :
  GivesV prog 36 [Xbk c a k] w F (.tuple ⟨[.agg ⟨idc (Xat c).1⟩, .int .i64 (Xat c).2]⟩):=by
 refine Xaa func36 rfl ntmps36 rfl rfl [.st (sl a k c.parents)] (.start1 h) ?_
 (repeat (refine wE ?_; intro _)); refine wA ?_
 rename_i bc bi
 refine Xlw (L:=(Xbc c).1) (us':=[.int .i64 (Xbc c).2]) rfl (fun w1 hw=>Xtl w1 _ c a k hw.get ht) ?_
 intro p q
 refine wA ?_
 refine JC.test (fun h1=>?_) (fun h1=>?_)
 ·have hm:may c=false:=by
   rw [← Bool.not_eq_true]
   intro hm
   simp [Xbc,hm] at h1
  have h2:Xat c=(Xv5,1):=by simp [Xat,hm]
  have h3:(Xbc c).2=1:=by simp [Xbc,hm]
  rw [h2,h3]
  refine wz14 ?_
  refine Wf (OpV.build [.int .u8 0, .int .u8 0, .int .u8 0, .int .u8 0, .int .u8 0, .int .u8 0, .int .u8 0, .int .u8 0, .int .u8 0, .int .u8 0, .int .u8 0, .int .u8 0, .int .u8 0, .int .u8 0, .int .u8 0, .int .u8 0, .int .u8 0, .int .u8 0, .int .u8 0, .int .u8 0, .int .u8 0, .int .u8 0, .int .u8 0, .int .u8 0, .int .u8 0, .int .u8 0, .int .u8 0, .int .u8 0, .int .u8 0, .int .u8 0, .int .u8 0, .int .u8 0] (by kernel_rfl)) rfl ?_
  refine JO.reslot 13 (.agg ⟨idc Xv5⟩) rfl ?_
  refine wz9 ?_
  exact Xab () rfl
 ·have hm:may c=true:=by
   rw [← Bool.not_eq_false]
   intro hm
   simp [Xbc,hm] at h1
  have h2:Xat c=(sumI (Xa0 c),0):=by simp [Xat,hm]
  have h3:Xbc c=(Xa0 c,0):=by simp [Xbc,hm]
  have hl:=Xi5 hm
  rw [h2,h3]
  refine wz14 ?_
  refine JR.callV rfl (fun w1 hw=>Xv2 w1 _ p q (Xa0 c) hw.get (by omega)) ?_
  refine wz9 ?_
  exact Xab () rfl
end
section
attribute [local irreducible] sumI Xat
def Xlp (c:Commit):Option ID:=if (Xat c).2=0 then some (Xat c).1 else none
def Xbi (L:List Commit):List ID:=L.flatMap (·.parents)
theorem Xhh (L:List Commit) (k:Nat) (hk:k < L.length):Xbi (L.take (k+1))=Xbi (L.take k)++L[k].parents:=by
 rw [Xbi,Xbi,List.take_succ_eq_append_getElem hk,List.flatMap_append]
 simp
theorem Xqs (L:List Commit) (k:Nat):(Xbi (L.take k)).length≤(Xbi L).length:=by
 have h1:=congrArg (fun l=>(Xbi l).length) (List.take_append_drop k L)
 simp only [Xbi,List.flatMap_append,List.length_append] at h1 ⊢
 omega
end
end
end Ab
end Go.Proofs.YtllddbbldmoibaaGreat
