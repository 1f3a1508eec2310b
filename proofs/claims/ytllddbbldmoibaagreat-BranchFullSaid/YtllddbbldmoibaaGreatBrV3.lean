/- Lemmas for the walks, part 3 of 7: Ins, RegA, RegB, RegC, RegP, Sort, Ord, PairP, SortT, CtrB, Lays, WalkB, CtrC, CtrD, CtrE, CtrF, StP, Range, Num, WalkC, WalkD, WalkE, WalkF, WalkG, WalkH, WalkI, WalkJ, WalkK, WalkL, WalkM, WalkN, WalkO, WalkP, WalkQ, WalkR, Lays2, WalkS, WalkT. -/
import Derived.Test.YtllddbbldmoibaaGreatBrV2
import Derived.Lib.AppendZerosOnto
import Derived.Test.YtllddbbldmoibaaGreatBrV1
import Derived.Shelf.SlSortCmp.NoneTotal
import Derived.Shelf.SlSortCmp.QuietGrown
import Derived.Deep.Quiet
import Derived.Deep.QuietTactic
import Derived.BigQuiet
import Derived.WalkKit
import Derived.Test.YtllddbbldmoibaaGreatChecked
import Derived.KernelRfl
import Derived.RangeFuncBox
import Derived.RangeFuncKeeps
import Derived.ControlIn
import Derived.RangeFuncNested
import Derived.RangeFuncBound
import Derived.RangeFuncCalls
import Derived.RangeFuncLeaves
import Derived.Shelf.Abstract
import Derived.OwnWalkIn
import Derived.TacticsInMore
import Derived.LoopNIn
import Derived.LoopIn
import Derived.Maps.AppendAt
import Derived.Shelf.Bytes.SlJoin
namespace Go.Proofs.YtllddbbldmoibaaGreat
namespace Ab
open Go Go.RowKit Tryz
set_option linter.unusedVariables false
set_option linter.unusedSimpArgs false
set_option linter.unusedSectionVars false
set_option synthInstance.maxSize 4000
set_option synthInstance.maxHeartbeats 400000
set_option maxHeartbeats 16000000
variable (w:World) (F:Nat→Prop)
class PlainC (α:Type) [Cell α] (cs:outParam (α→List Value)):Prop where
 cells:∀ (u:α) y,Cell.cells u y=cs u
 facts:∀ (u:α) y,Cell.facts u y=[]
 ix:Nonempty (Cell.Ix α)
instance:PlainC Reg_ regC:=⟨fun _ _=>rfl,fun _ _=>rfl,⟨()⟩⟩
instance:PlainC Pair_ Xde:=⟨fun _ _=>rfl,fun _ _=>rfl,⟨()⟩⟩
instance:PlainC Ctr_ ctrC:=⟨fun _ _=>rfl,fun _ _=>rfl,⟨()⟩⟩
def fl {α:Type} (cs:α→List Value) (L:List α):List Value:=L.flatMap cs
theorem Xfm {α:Type} (cs:α→List Value) (L M:List α):fl cs (L++M)=fl cs L++fl cs M:=List.flatMap_append
theorem Xhd {α:Type} (cs:α→List Value) (u:α) (M:List α):fl cs (u::M)=cs u++fl cs M:=rfl
theorem PlainC.len {α:Type} [Cell α] {cs:α→List Value} [hp:PlainC α cs] (u:α):(cs u).length=Cell.sz α:=by
 obtain ⟨y⟩:=hp.ix
 rw [← hp.cells u y,Cell.len]
theorem PlainC.one {α:Type} [Cell α] {cs:α→List Value} [hp:PlainC α cs] (u:α):∀ v∈cs u,v.oneCell'=true:=by
 obtain ⟨y⟩:=hp.ix
 rw [← hp.cells u y]
 exact Cell.one u y
theorem Xd1 {α:Type} [Cell α] {cs:α→List Value} [hp:PlainC α cs] (L:List α):(fl cs L).length=L.length * Cell.sz α:=by
 induction L with
 | nil=>simp [fl]
 | cons u L ih=>rw [Xhd,List.length_append,ih,PlainC.len,List.length_cons,Nat.add_mul]; omega
theorem Ybi {α:Type} [Cell α] {cs:α→List Value} [hp:PlainC α cs] (L:List α):∀ v∈fl cs L,v.oneCell'=true:=by
 intro v hv
 obtain ⟨u,_,hu⟩:=List.mem_flatMap.1 hv
 exact PlainC.one u v hu
theorem Xwn {α:Type} [Cell α] {cs:α→List Value} [hp:PlainC α cs]:∀ q:List (α × Cell.Ix α),flat q=fl cs (q.map (·.1))
 | []=>rfl
 | (u,y)::q=>by rw [List.map_cons,Xhd,← Xwn q,← hp.cells u y]; rfl
theorem Xr0 {α:Type} [Cell α] {g k:Nat} {el:TypeId} {L:List α} (j:Nat):(Fact.res (buf (some ⟨g,0,none⟩) k el L)).owns j↔j=g:=by
 constructor
 ·rintro ⟨a',ha',rfl⟩; injection ha' with ha'; subst ha'; rfl
 ·rintro rfl; exact ⟨_,rfl,rfl⟩
section
variable {w0:World} {F:Nat→Prop} {Γ:List Fact}
theorem Hold.retell [Dr] {w:World} {f g:Fact} (hfg:∀ j,f.owns j↔g.owns j) (ho:Hold w0 F (f::Γ) w) (hg:g.sat (fp w0 F (g::Γ)) w):Hold w0 F (g::Γ) w:=by
 refine ⟨ho.below,fun f' hf'=>?_,?_,fun f' hf' j hj=>?_⟩
 ·rcases List.mem_cons.1 hf' with rfl | hf'
  ·exact hg
  ·refine Fact.sat_keep (ho.sat f' (List.mem_cons_of_mem _ hf')) (fun j hj _=>⟨hj.1,fun f2 hf2=>?_⟩) (fun _ _ _=>rfl)
   rcases List.mem_cons.1 hf2 with rfl | hf2
   ·intro h9
    exact hj.2 _ (List.mem_cons_self ..) ((hfg j).2 h9)
   ·exact hj.2 f2 (List.mem_cons_of_mem _ hf2)
 ·have hd:=ho.dis
  rw [List.pairwise_cons] at hd ⊢
  exact ⟨fun f' hf' j hj=>hd.1 f' hf' j ⟨(hfg j).2 hj.1,hj.2⟩,hd.2⟩
 ·rcases List.mem_cons.1 hf' with rfl | hf'
  ·exact ho.new _ (List.mem_cons_self ..) j ((hfg j).2 hj)
  ·exact ho.new f' (List.mem_cons_of_mem _ hf') j hj
theorem Hold.openC [Dr] {α:Type} [Cell α] {cs:α→List Value} [hp:PlainC α cs] {w:World} {g k:Nat} {el:TypeId} {L:List α} (ho:Hold w0 F (.res (buf (some ⟨g,0,none⟩) k el L)::Γ) w) :
  ∃ junk,L.length * Cell.sz α+junk.length=k * Cell.sz α∧L.length≤k∧k≤maxLen∧L.length≤lim∧Hold w0 F (.own g el (fl cs L++junk)::Γ) w:=by
 obtain ⟨q,cur,q0,q1,q2,qg,qnc,qcm,qcs,qt⟩:=Xg6 (ho.sat (.res (buf (some ⟨g,0,none⟩) k el L)) (by simp))
 have hfl:flat q=fl cs L:=by rw [Xwn,q1]
 have hl:(fl cs L).length=L.length * Cell.sz α:=Xd1 L
 have htk:cur.toList.take (L.length * Cell.sz α)=fl cs L:=by
  rw [← hfl,← qt]
 have hcur:fl cs L++cur.toList.drop (L.length * Cell.sz α)=cur.toList:=by rw [← htk,List.take_append_drop]
 have hle:L.length * Cell.sz α≤k * Cell.sz α:=Nat.mul_le_mul_right _ qnc
 refine ⟨cur.toList.drop (L.length * Cell.sz α),by have h9:cur.toList.length=cur.size:=Array.length_toList; rw [List.length_drop,h9,qcs]; omega,qnc,qcm,q0,ho.retell (fun j=>Xr0 j) ?_⟩
 show w.heap[g]? = _
 rw [hcur]
 exact qg
theorem Hold.closeC [Dr] {α:Type} [Cell α] {cs:α→List Value} [hp:PlainC α cs] {w:World} {g k:Nat} {el:TypeId} (L:List α) (junk:List Value) {vs:List Value} (ho:Hold w0 F (.own g el vs::Γ) w) (hv:vs=fl cs L++junk)
  (hj:L.length * Cell.sz α+junk.length=k * Cell.sz α) (hk:L.length≤k) (hm:k≤maxLen) (hl:L.length≤lim):Hold w0 F (.res (buf (some ⟨g,0,none⟩) k el L)::Γ) w:=by
 obtain ⟨y⟩:=hp.ix
 have hw:w.heap[g]? = some (.cells vs.toArray el (0,0)):=ho.sat (.own g el vs) (by simp)
 have h1:(L.map fun u=>(u,y)).map (·.1)=L:=by rw [List.map_map]; exact List.map_id L
 have hf:flat (L.map fun u=>(u,y))=fl cs L:=by rw [Xwn,h1]
 have hn:(fl cs L).length=L.length * Cell.sz α:=Xd1 L
 refine ho.retell (f:=.own g el vs) (g:=.res (buf (some ⟨g,0,none⟩) k el L)) (fun j=>(Xr0 j).symm) ⟨hl,L.map (fun u=>(u,y)),h1,⟨by rw [hf]; exact hn, .inr ⟨g,k,vs.toArray,rfl,Nat.zero_le _,hw,hk,hm,?_,?_⟩⟩,fun p hp' A hA=>?_⟩
 ·rw [hv]; simp only [List.size_toArray,List.length_append]; omega
 ·rw [hf,hv]; simp only [List.length_map]; exact (by rw [← hn]; exact List.take_left)
 ·rw [hp.facts] at hA; cases hA
end
section
variable {P:Program} {n:Nn} {w0:World} {F:Nat→Prop} {Q:Cont} {e:E} {Γ:List Fact}
theorem JC.openC [Dr] {α:Type} [Cell α] {cs:α→List Value} [hp:PlainC α cs] {c:Code} {g k:Nat} {el:TypeId} {L:List α}
  (h:∀ junk,L.length * Cell.sz α+junk.length=k * Cell.sz α→L.length≤k→k≤maxLen→L.length≤lim→JC P n w0 F c Q e (.own g el (fl cs L++junk)::Γ)):JC P n w0 F c Q e (.res (buf (some ⟨g,0,none⟩) k el L)::Γ):=by
 intro a w fr ho
 obtain ⟨junk,h1,h2,h3,h4,h5⟩:=ho.openC
 exact h junk h1 h2 h3 h4 a w fr h5
end
theorem Xr1 {P:Program} (w:World) (dT sT ty elem:TypeId) (g o dLen dCap:Nat) (a:Addr) (sLen sCap:Nat) (cur:Array Value) (t:TypeId) (cs:List Value) (sz:Nat)
  (hu:P.underlying dT=some (.slice elem)) (hs:(P.info? elem).map (·.size)=some sz)
  (hg:w.heap[g]? = some (.cells cur t (0,0))) (hn:cs.length=Nat.min sLen dLen * sz)
  (hsrc:∀ j v,cs[j]? = some v→w.cell? (a.add j)=some v) (hfit:o+cs.length≤cur.size) (h1:∀ v∈cs,v.oneCell'=true) :
  (Builtin.copy_ #[dT,sT] ty #[.slice (some ⟨g,o,none⟩) dLen dCap, .slice (some a) sLen sCap]).run P w =
   .ok (goInt (Nat.min sLen dLen)) (w.setRow g (cur.toList.take o++cs++cur.toList.drop (o+cs.length)).toArray):=by
 have hl:=run_loadCells_list (P:=P) w a cs hsrc
 have hst:=run_storeCells_at P g o t cs 0 cur w hg (by simpa using hfit) h1
 cases hq:P.info? elem with
 | none=>simp [hq] at hs
 | some i =>
  have hi:i.size=sz:=by simpa [hq] using hs
  simp [Builtin.copy_,run_underlying hu,Builtin.lenOf,Builtin.firstCells,sizeOf,typeInfo,hq,hi,← hn,hl,hst]
section
variable {P:Program} {n:Nn} {w0:World} {F:Nat→Prop} {ops:Array Oper} {i d:Nat} {t:TypeId} {pos:String} {aft:Array Edge} {g:Option (Nat × Bool)} {os:List Oper} {Q:Cont} {e:E} {Γ:List Fact}
theorem Xm3 [Dr] {x y:Operand} {b o dl dc b2 o2 sl_ sc:Nat} {vs us:List Value} {bt ty ty2 el:TypeId} {ed:TypeDesc} {sz by_ es eb p:Nat} {z ez:Value} {Δ:List Fact} (cs r:List Value)
  [hx:Ev e x (.slice (some ⟨b,o,none⟩) dl dc)] [hO:Own Γ b bt vs Δ] [hy:Ev e y (.slice (some ⟨b2,o2,none⟩) sl_ sc)] [hA:At Γ b2 p us] [hT:Ty P ty (.slice el) sz by_ z] [hE:Ty P el ed es eb ez]
  (hd:Nat.blt d n.s=true) (hcs:(us.drop (o2 - p)).take (Nat.min sl_ dl * es)=cs) (hp:p≤o2) (hlen:cs.length=Nat.min sl_ dl * es) (hfit:o+cs.length≤vs.length) (h1:∀ v∈cs,v.oneCell'=true) (hr:vs.take o++cs++vs.drop (o+cs.length)=r)
  (K:JO P n w0 F ops (i+1) os Q ((d,goInt (Nat.min sl_ dl))::e) (.own b bt r::Δ)) :
  JR P n w0 F ops i ⟨some d, .call ⟨.builtin .copy,#[x,y],#[ty,ty2]⟩,t,pos,aft,g⟩ os Q e Γ :=
 JR.value hd fun a w fr ho=>by
  have hpm:=ho.perm hO.ok
  have hw:w.heap[b]? = some (.cells vs.toArray bt (0,0)):=hpm.sat (.own b bt vs) (by simp)
  have hr':=Xct (hA.ok w0 F w ho) hcs
  rw [show p+(o2 - p)=o2 by omega] at hr'
  obtain ⟨ti,hti,hti1,_,_⟩:=hE.some
  have hrun:=Xr1 (P:=P) w ty ty2 t el b o dl dc ⟨b2,o2,none⟩ sl_ sc vs.toArray bt cs es hT.und (by rw [hti]; simp [hti1]) hw hlen (fun j v hv=>by rw [Addr.add_mid]; exact hr' j v hv) (by simpa using hfit) h1
  refine ⟨_,_,_,?_,hpm.setRow (r:=r),K⟩
  simp [execOp,Xaj,invoke,builtin,hx.ok n a fr,hy.ok n a fr] at hrun ⊢
  simp [hrun,← hr]
theorem Xj8 [Dr] {x y:Operand} {kk k2:IntKind} {j:Int} {k l c b p:Nat} {us cs:List Value} {ty tx el:TypeId} {ed:TypeDesc} {sz by_ sz2 by2 es eb:Nat} {z z2 ez:Value} {ecs:List Value}
  [hx:Ev e x (.slice (some ⟨b,0,none⟩) l c)] [hA:At Γ b 0 us] [hy:Ev e y (.int kk j)] [hk:NatI j k] [hT:Ty P ty (.slice el) sz by_ z] [hU:Ty P tx (.int k2) sz2 by2 z2] [hE:Ty P el ed es eb ez] [hz:Cel ez ecs]
  (hd:Nat.blt d n.s=true) (hes:ecs.length=es∧0 < es∧eb≤4096) (hcs:us.take (l * es)=cs) (hcl:cs.length=l * es) (hl:0 < k∧l+k≤17179869184) (hroom:c < l+k) (hc:c≤17179869184)
  (K:∀ b2 c2 zs,l+k≤c2→c2≤maxLen→cs.length+zs.length=c2 * es→JO P n w0 F ops (i+1) os Q ((d, .slice (some ⟨b2,0,none⟩) (l+k) c2)::e) (.own b2 el (cs++zs)::Γ)) :
  JR P n w0 F ops i ⟨some d, .call ⟨.builtin .append,#[x,y],#[ty,tx]⟩,t,pos,aft,g⟩ os Q e Γ :=
 JR.value hd fun a w fr ho=>by
  obtain ⟨ti,hti,hti1,hti2,hti3⟩:=hE.some
  have hj:=hk.ok
  subst hj
  have hcs':(us.drop 0).take (l * es)=cs:=by rw [List.drop_zero]; exact hcs
  have hr:=Xct (hA.ok w0 F w ho) hcs'
  have hold:(Builtin.firstCells ti.size l (.slice (some ⟨b,0,none⟩) l c)).run P w.drew = .ok cs.toArray w.drew:=by
   have:=run_loadCells_list (P:=P) w.drew ⟨b,0,none⟩ cs (fun j v hv=>by
    rw [Addr.add_mid]
    exact hr j v hv)
   rw [hcl] at this
   simp [Builtin.firstCells,hti1,this]
  have hle:=hl.2
  have hb48:k * ti.bytes≤281474976710656:=by rw [hti2]; have:=Nat.mul_le_mul (show k≤17179869184 by omega) hes.2.2; omega
  have hn48:Builtin.nextslicecap (l+k) c * ti.bytes≤281474976710656:=by
   have h7:=nextslicecap_le (show c < l+k from hroom)
   rw [hti2]
   have h8:=Nat.mul_le_mul (show Builtin.nextslicecap (l+k) c≤34359738368 by omega) hes.2.2
   omega
  have hrun:=Lib.run_append_grow_zeros (P:=P) w ty tx t el ti ez kk k2 hT.und hU.und hti hti3 (some ⟨b,0,none⟩) l c cs hold k hl.1 (by rw [hti1]; exact hes.2.1) hroom (by omega) hb48 hn48
  have hge:=grownCap_ge w (l+k) c el
  have hcm:grownCap w (l+k) c el≤maxLen:=grownCap_le_maxLen w (l+k) c el (by simp only [maxLen]; omega)
  have hzs:ez.cells.size=ti.size:=by rw [Xcb (v:=ez) (cs:=ecs),hti1]; simpa using hes.1
  have hlz:cs.length+((Builtin.zeroCells ez.cells k++Builtin.zeroCells ez.cells (grownCap w (l+k) c el - (l+k))).toList).length=grownCap w (l+k) c el * es:=by
   simp only [Array.length_toList,Array.size_append,size_zeroCells,hzs,← Nat.add_mul,hti1,hcl]
   congr 1
   omega
  refine ⟨_,w.drew.alloc (.cells (cs.toArray++Builtin.zeroCells ez.cells k++Builtin.zeroCells ez.cells (grownCap w (l+k) c el - (l+k))) el),_,?_,?_,K w.heap.size (grownCap w (l+k) c el) (Builtin.zeroCells ez.cells k++Builtin.zeroCells ez.cells (grownCap w (l+k) c el - (l+k))).toList hge hcm hlz⟩
  ·simp [execOp,Xaj,invoke,builtin,hx.ok n a fr,hy.ok n a fr] at hrun ⊢
   simp [hrun]
  ·have hd':Hold w0 F Γ w.drew:=ho.drew
   have:=hd'.alloc el (cs++(Builtin.zeroCells ez.cells k++Builtin.zeroCells ez.cells (grownCap w (l+k) c el - (l+k))).toList)
   have e9:∀ z1 z2:Array Value,cs.toArray++z1++z2=(cs++(z1++z2).toList).toArray:=fun z1 z2=>by
    apply Array.ext'
    simp
   rw [e9]
   exact this
end
theorem Xr2 {P:Program} (w:World) {ty ty2 el el2 t:TypeId} {a:Option Addr} {m c:Nat} {x:Value} (h1:P.underlying ty=some (.slice el)) (h2:P.underlying ty2=some (.slice el2)) :
  (Builtin.append_ #[ty,ty2] t #[.slice a m c,x]).run P w=(Builtin.append_ #[ty,ty] t #[.slice a m c,x]).run P w:=by
 simp [Builtin.append_,run_underlying h1,run_underlying h2]
section
variable {P:Program} {n:Nn} {w0:World} {F:Nat→Prop} {ops:Array Oper} {i d:Nat} {t:TypeId} {pos:String} {aft:Array Edge} {g:Option (Nat × Bool)} {os:List Oper} {Q:Cont} {e:E} {Γ:List Fact}
theorem Xwo [Dr] {α:Type} [ic:Cell α] {x y:Operand} {v:Value} {L:List α} {u:α} {el ty ty2 el2:TypeId} {ed:TypeDesc} {sz by_ es eb sz2 by2:Nat} {z z2 ez:Value} {ecs:List Value} {b o o' r c1:Nat} {vs cs:List Value} {Δ:List Fact}
  [hx:Ev e x v] [hB:HasBuf Γ v α ic el L Δ] [hy:Ev e y (.slice (some ⟨b,o,none⟩) 1 c1)] [hA:At Γ b o' vs] [hS:Ab.Sum o o' r] [hT:Ty P ty (.slice el) sz by_ z] [hT2:Ty P ty2 (.slice el2) sz2 by2 z2] [hE:Ty P el ed es eb ez] [hz:Cel ez ecs]
  [hs:Seg vs r es cs] [hu:Typed Δ cs u] [h1:One cs] (hd:Nat.blt d n.s=true) (hes:es=Cell.sz α∧ecs.length=es∧eb≤4096) (hl:L.length < 34359738368)
  (K:∀ a c,JO P n w0 F ops (i+1) os Q ((d, .slice a (L++[u]).length c)::e) (.res (buf a c el (L++[u]))::Δ)) :
  JR P n w0 F ops i ⟨some d, .call ⟨.builtin .append,#[x,y],#[ty,ty2]⟩,t,pos,aft,g⟩ os Q e Γ :=
 JR.value hd fun a w fr ho=>by
  obtain ⟨a0,c0,rfl,hperm⟩:=hB.ok
  have ho':=ho.perm hperm
  obtain ⟨yy,hcs,hyy⟩:=hu.ok
  have hr1:=Xct (hA.ok w0 F w ho) hs.ok.1
  rw [← hS.ok] at hr1
  have hfl:flat [(u,yy)]=cs:=by simp [flat,hcs]
  obtain ⟨a1,k1,w',hrun,hw'⟩:=Xg3 (P:=P) (t:=t) (ty:=ty) (ad:=⟨b,o,none⟩) (m:=1) (c1:=c1) ho' [(u,yy)] (fun j v hv=>by rw [Addr.add_mid]; exact hr1 j v (by rwa [hfl] at hv)) (by rw [hfl]; exact h1.ok) rfl
   (fun p hp A hA=>by simp only [List.mem_singleton] at hp; subst hp; exact ho'.sat (.st A) (List.mem_cons_of_mem _ (hyy A hA))) hes (by omega)
  rw [← Xr2 w hT.und hT2.und] at hrun
  refine ⟨_,w',_,?_,hw',K a1 k1⟩
  simp [execOp,Xaj,invoke,builtin,hx.ok n a fr,hy.ok n a fr] at hrun ⊢
  simp [hrun]
end
theorem Xt6 {P:Program} (w:World) {t u el:TypeId} {rs:Array TypeId} {b1 o1 l1 c1 b2 o2 l2 c2:Nat} {t1 t2:TypeId} {v1 v2:List Value} (hu:P.underlying t=some (.slice el)) (hs:(P.info? el).isSome=true) (hne:b1≠b2)
  (h1:w.heap[b1]? = some (.cells v1.toArray t1 (0,0))) (h2:w.heap[b2]? = some (.cells v2.toArray t2 (0,0))) :
  (Extern.SlicesOverlaps.overlaps #[t,u] rs #[.slice (some ⟨b1,o1,none⟩) l1 c1, .slice (some ⟨b2,o2,none⟩) l2 c2]).run P w = .ok (.bool false) w:=by
 cases hq:P.info? el with
 | none=>simp [hq] at hs
 | some i =>
  have e:Extern.SlicesOverlaps.overlaps #[t,u] rs #[.slice (some ⟨b1,o1,none⟩) l1 c1, .slice (some ⟨b2,o2,none⟩) l2 c2]=(underlying t >>= fun d=>_):=rfl
  rw [e,Sem.run_bind,run_underlying hu,Result.andThen_ok]
  by_cases hz:l1=0∨l2=0∨i.size=0
  ·simp [hz,sizeOf,typeInfo,hq]
  ·simp [hz,hne,sizeOf,typeInfo,hq,World.frozen?,h1,h2,noView,viewAt,World.shape?,mayBeOne,stringish]
section
attribute [local irreducible] JC JO JR JQ andThen inBlock OpV Gives Xah JM JS
def cmpS (a b:ByteArray):Int:=if Xax a b then -1 else if Xax b a then 1 else 0
theorem Xoa (a b:ByteArray):GivesV prog 241 [.string a, .string b] w F (.int .i64 (cmpS a b)):=by
 refine Xaa func241 rfl ntmps241 rfl rfl [] (.start w F) ?_
 refine wz10 ?_
 refine JR.callV rfl (fun w1 hw=>Xn8 w1 _ a) ?_
 refine wz10 ?_
 refine JR.callV rfl (fun w1 hw=>Xn8 w1 _ b) ?_
 refine wz7 ?_
 refine Wf Xk3 rfl ?_
 cases h:Xax a b with
 | true =>
  have e1:cmpS a b = -1:=by simp [cmpS,h]
  rw [e1]
  refine wz8 ?_
  exact Xac () rfl
 | false =>
 refine wz7 ?_
 refine Wf Xqj rfl ?_
 cases h':Xax b a with
 | true =>
  have e1:cmpS a b=1:=by simp [cmpS,h,h']
  rw [e1]
  refine wz8 ?_
  exact Xac () rfl
 | false =>
  have e1:cmpS a b=0:=by simp [cmpS,h,h']
  rw [e1]
  refine wX ?_
  exact Xac () rfl
def Xc5 (r:Reg_):Bool:=Xdh r.key && Xdh r.elem && decide (0 < r.gen) && decide (0≤r.ev.node) && decide (r.ev.node < 8) && decide (0 < r.ev.seq)
def Xml (r:Reg_):Prop:=r.key.size < 4611686018427387904∧r.elem.size < 4611686018427387904
theorem X2i (r:Reg_) (hs:Xml r):GivesV prog 112 [.agg ⟨regC r⟩] w F (.bool (Xc5 r)):=by
 obtain ⟨key,elem,gen,⟨no,sq⟩⟩:=r
 refine Xaa func112 rfl ntmps112 rfl rfl [] (.start w F) ?_
 (repeat (refine wE ?_; intro _)); refine wA ?_
 refine JR.callV rfl (fun w1 hw=>Xe0 w1 _ key hs.1) ?_
 cases h1:Xdh key with
 | false =>
  rw [show Xc5 ⟨key,elem,gen,⟨no,sq⟩⟩=false by simp [Xc5,h1]]
  refine wz8 ?_
  exact Xac () rfl
 | true =>
 refine wz6 ?_
 refine JR.callV rfl (fun w1 hw=>Xe0 w1 _ elem hs.2) ?_
 cases h2:Xdh elem with
 | false =>
  rw [show Xc5 ⟨key,elem,gen,⟨no,sq⟩⟩=false by simp [Xc5,h2]]
  refine wz8 ?_
  exact Xac () rfl
 | true =>
 refine wX ?_
 by_cases h3:0 < gen
 ·refine JO.reslot 16 (.bool true) (by congr 1; exact decide_eq_true h3) ?_
  refine wX ?_
  by_cases h4:0≤no
  ·refine JO.reslot 22 (.bool true) (by congr 1; exact decide_eq_true h4) ?_
   refine wX ?_
   by_cases h5:no < 8
   ·refine JO.reslot 28 (.bool true) (by congr 1; exact decide_eq_true h5) ?_
    rw [show Xc5 ⟨key,elem,gen,⟨no,sq⟩⟩=decide (0 < sq) by simp [Xc5,h1,h2,h3,h4,h5]]
    refine wX ?_
    exact Xac () rfl
   ·refine JO.reslot 28 (.bool false) (by congr 1; exact decide_eq_false h5) ?_
    rw [show Xc5 ⟨key,elem,gen,⟨no,sq⟩⟩=false by simp [Xc5,h5]]
    refine wz8 ?_
    exact Xac () rfl
  ·refine JO.reslot 22 (.bool false) (by congr 1; exact decide_eq_false h4) ?_
   rw [show Xc5 ⟨key,elem,gen,⟨no,sq⟩⟩=false by simp [Xc5,h4]]
   refine wz8 ?_
   exact Xac () rfl
 ·refine JO.reslot 16 (.bool false) (by congr 1; exact decide_eq_false h3) ?_
  rw [show Xc5 ⟨key,elem,gen,⟨no,sq⟩⟩=false by simp [Xc5,h3]]
  refine wz8 ?_
  exact Xac () rfl
def Ybj (a b:Reg_):List Int:=[cmpI a.gen b.gen,cmpI a.ev.node b.ev.node,cmpI a.ev.seq b.ev.seq,cmpS a.elem b.elem]
def X53 (a b:Reg_):Bool:=decide (0 < orL (Ybj a b))
theorem X2j (a b:Reg_):GivesV prog 239 [.agg ⟨regC a⟩, .agg ⟨regC b⟩] w F (.bool (X53 a b)):=by
 obtain ⟨k1,u1,g1,⟨n1,s1⟩⟩:=a
 obtain ⟨k2,u2,g2,⟨n2,s2⟩⟩:=b
 refine Xaa func239 rfl ntmps239 rfl rfl [] (.start w F) ?_
 (repeat (refine wE ?_; intro _)); refine wA ?_
 refine Xb1 24 mixed ?_
 refine JM.tv 0 ?_
 refine JM.tv 1 ?_
 refine JM.tv 2 ?_
 refine JM.tv 3 ?_
 refine JM.takeCall 4 rfl (by kernel_rfl) rfl (fun w1 hw=>Xee w1 _ g1 g2) rfl rfl ?_
 refine JM.tv 5 ?_
 refine JM.tv 6 ?_
 refine JM.tv 7 ?_
 refine JM.tv 8 ?_
 refine JM.tv 9 ?_
 refine JM.tv 10 ?_
 refine JM.takeCall 11 rfl (by kernel_rfl) rfl (fun w1 hw=>Xee w1 _ n1 n2) rfl rfl ?_
 refine JM.tv 12 ?_
 refine JM.tv 13 ?_
 refine JM.tv 14 ?_
 refine JM.tv 15 ?_
 refine JM.tv 16 ?_
 refine JM.tv 17 ?_
 refine JM.takeCall 18 rfl (by kernel_rfl) rfl (fun w1 hw=>Xee w1 _ s1 s2) rfl rfl ?_
 refine JM.tv 19 ?_
 refine JM.tv 20 ?_
 refine JM.tv 21 ?_
 refine JM.tv 22 ?_
 refine JM.takeCall 23 rfl (by kernel_rfl) rfl (fun w1 hw=>Xoa w1 _ u1 u2) rfl rfl ?_
 refine Xam 24 (by kernel_rfl) rfl rfl rfl (Ww rfl ⟨rfl,by decide,by decide,by decide⟩ fun lb=>Wd ⟨rfl,?_⟩)
 refine Xam 25 (by kernel_rfl) rfl rfl rfl (JR.callV (v:=.int .i64 (orL [cmpI g1 g2,cmpI n1 n2,cmpI s1 s2,cmpS u1 u2])) rfl (fun w1 hw=>?_) (Wd ⟨rfl,?_⟩))
 ·have hb:=hw.sat (.own lb 3 [.int .i64 (cmpI g1 g2), .int .i64 (cmpI n1 n2), .int .i64 (cmpI s1 s2), .int .i64 (cmpS u1 u2)]) (by simp)
  exact (X8f w1 (fun _=>True) _ 4 [cmpI g1 g2,cmpI n1 n2,cmpI s1 s2,cmpS u1 u2] (X2h (L:=[cmpI g1 g2,cmpI n1 n2,cmpI s1 s2,cmpS u1 u2]) hb (by simp))).any
 refine Xam 26 (by kernel_rfl) rfl rfl rfl (Wf Vo rfl (Wd ⟨rfl,?_⟩))
 refine Xam 27 (by kernel_rfl) rfl rfl rfl (Wf Vb rfl (Wd ⟨rfl,?_⟩))
 refine JM.nil (by kernel_rfl) ?_
 refine wz13 ?_
 exact Xac () rfl
def Xob (L:List Reg_) (i:Nat):Bool :=
 match L[i]? with
 | some c=>Xc5 c && (match L[i - 1]? with | some b=>decide (i=0) || Xax b.key c.key | none=>true)
 | none=>true
def Xd9 (L:List Reg_):Bool:=Xjf L.length (Xob L)
theorem Xm4 {L:List Reg_} {i:Nat} (h:i < L.length):Xob L i=(Xc5 L[i] && (decide (i=0) || Xax (L[i - 1]'(by omega)).key L[i].key)):=by
 unfold Xob
 rw [List.getElem?_eq_getElem h,List.getElem?_eq_getElem (show i - 1 < L.length by omega)]
theorem Xr3 (a:Option Addr) (k:Nat) (L:List Reg_) (h:(sl a k L).holds F w) (hs:∀ c∈L,Xml c) :
  GivesV prog 103 [.slice a L.length k] w F (.bool (Xd9 L)):=by
 have hL:L.length < 9223372036854775807:=by have:=h.2.2.1; simp only [lim] at this; omega
 unfold Xd9
 refine Xaa func103 rfl ntmps103 rfl rfl [.st (sl a k L)] (.start1 h) ?_
 refine wz4 ?_
 refine Xao (fun (i:Nat)=>[(0, .slice a L.length k),(5, .slice a L.length k),(6, .int .i64 (L.length:Int)),(7, .int .i64 (i:Int))])
  (fun _=>[.st (sl a k L)]) (fun i=>i≤L.length∧Xjf i (Xob L)=true) (fun i=>L.length - i) 0 ⟨Nat.zero_le _,rfl⟩ iI ?_
 rintro i ⟨hi,hall⟩
 refine wz11 ?_
 refine JC.test (fun hlt=>?_) (fun hge=>?_)
 ·have hlt':i < L.length:=by omega
  have hat:=Xm4 hlt'
  have hcut:=Xn5 (p:=Xob L) hlt'
  have hck:=hs _ (List.getElem_mem hlt')
  obtain ⟨c,hc⟩:∃ c,c=L[i]:=⟨_,rfl⟩
  rw [← hc] at hat hck
  refine wz14 ?_
  refine Xha rfl hlt' ?_
  intro b3 o3
  rw [← hc]
  (repeat (refine wE ?_; intro _)); refine wA ?_
  rename_i bc
  obtain ⟨j,hj⟩:∃ j,j=i - 1:=⟨_,rfl⟩
  have hjl:j < L.length:=by omega
  refine Xdz (fun _:Unit=>[(0, .slice a L.length k),(5, .slice a L.length k),(6, .int .i64 (L.length:Int)),(7, .int .i64 (i:Int)),(29, .bool (!Xob L i))]) (fun _=>[.st (sl a k L)]) ?_ ?_
  ·refine Xqk (L:=L) (.slice a L.length k) j hjl ?_
   intro b4 o4
   obtain ⟨p,hp⟩:∃ p,p=L[j]:=⟨_,rfl⟩
   rw [← hp]
   have hat':Xob L i=(Xc5 c && (decide (i=0) || Xax p.key c.key)):=by rw [hat,hp]; simp only [hj]
   refine Xbw mixed (by kernel_rfl) ?_
   refine wY ?_
   refine JQ.call rfl rfl (fun w1 hw=>X2i w1 _ c hck) ?_
   cases hk:Xc5 c with
   | false =>
    refine JQ.reslot 13 (.bool false) rfl ?_
    refine wY ?_
    rw [show Xob L i=false by rw [hat',hk]; rfl,Bool.not_false]
    exact ⟨rfl,(),iI⟩
   | true =>
   refine JQ.reslot 13 (.bool true) rfl ?_
   refine wY ?_
   by_cases h0:i=0
   ·refine JQ.reslot 18 (.bool false) (by congr 1; exact decide_eq_false (by omega)) ?_
    refine wY ?_
    rw [show Xob L i=true by rw [hat',hk,decide_eq_true h0]; rfl,Bool.not_true]
    exact ⟨rfl,(),iI⟩
   refine JQ.reslot 18 (.bool true) (by congr 1; exact decide_eq_true (by omega)) ?_
   refine wY ?_
   refine JQ.reslot 23 (.int .i64 (j:Int)) (by congr 1; omega) ?_
   refine wY ?_
   refine Wy rfl Xqi rfl ?_
   refine wY ?_
   rw [show Xob L i=Xax p.key c.key by rw [hat',hk,decide_eq_false h0]; rfl]
   exact ⟨rfl,(),iI⟩
  rintro ⟨⟩
  cases hx:Xob L i with
  | false =>
   refine wz8 ?_
   refine Xac () ?_
   simp only [Xad]
   rw [hcut hx]
  | true =>
  refine wz2 ?_
  exact ⟨i+1,⟨by omega,Xk7 hall hx⟩,by omega,iI⟩
 ·obtain rfl:i=L.length:=by omega
  refine wz3 ?_
  refine Xac () ?_
  simp only [Xad]
  rw [hall]
def Xmm (L:List Reg_):Prop:=∀ i j (hi:i < L.length) (hj:j < L.length),i < j→Xax L[i].key L[j].key=true
def posR (L:List Reg_) (key:ByteArray):Nat:=L.findIdx (fun r=>!Xax r.key key)
def hasR (L:List Reg_) (key:ByteArray):Bool:=match L[posR L key]? with | some r=>decide (r.key=key) | none=>false
theorem X9g (L:List Reg_) (key:ByteArray):posR L key≤L.length:=List.findIdx_le_length
theorem X9h {L:List Reg_} {key:ByteArray} {i:Nat} (hi:i≤L.length) (h1:∀ k (hk:k < L.length),k < i→Xax L[k].key key=true) (h2:∀ k (hk:k < L.length),i≤k→Xax L[k].key key=false):posR L key=i:=by
 unfold posR
 rcases Nat.lt_or_ge i L.length with hl | hl
 ·rw [List.findIdx_eq hl]
  refine ⟨by simp [h2 i hl (Nat.le_refl _)],fun j hj=>by simp [h1 j (by omega) hj]⟩
 ·have:i=L.length:=by omega
  subst this
  rw [List.findIdx_eq_length]
  intro x hx
  obtain ⟨k,hk,rfl⟩:=List.getElem_of_mem hx
  simp [h1 k hk hk]
theorem X2k {a b:ByteArray}:decide (cmpS a b < 0)=Xax a b:=by
 unfold cmpS
 cases h:Xax a b with
 | true=>simp
 | false=>cases h':Xax b a <;> simp
theorem X2l {a b:ByteArray}:decide (cmpS a b=0)=decide (a=b):=by
 unfold cmpS
 by_cases e:a=b
 ·subst e; simp [Xdo]
 ·rcases Xcu e with h | h
  ·simp [h,e]
  ·simp [h,Xfl h,e]
theorem Xt7 (r:Reg_) (key:ByteArray):GivesV prog 289 [.agg ⟨regC r⟩, .string key] w F (.int .i64 (cmpS r.key key)):=by
 obtain ⟨k1,u1,g1,⟨n1,s1⟩⟩:=r
 refine Xaa func289 rfl ntmps289 rfl rfl [] (.start w F) ?_
 (repeat (refine wE ?_; intro _)); refine wA ?_
 refine JR.callV rfl (fun w1 hw=>Xoa w1 _ k1 key) ?_
 refine wz10 ?_
 exact Xac () rfl
theorem Xzu (a:Option Addr) (k:Nat) (L:List Reg_) (key:ByteArray) (h:(sl a k L).holds F w) (hs:Xmm L) :
  GivesV prog 288 [.slice a L.length k, .string key, .func (.func 289) ⟨[]⟩ ⟨[]⟩] w F (.tuple ⟨[.int .i64 (posR L key:Int), .bool (hasR L key)]⟩):=by
 have hL:L.length < 4611686018427387904:=by have:=h.2.2.1; simp only [lim] at this; omega
 refine Xaa func288 rfl ntmps288 rfl rfl [.st (sl a k L)] (.start1 h) ?_
 refine wz4 ?_
 refine Xc8 (fun (i j:Nat)=>[(0, .slice a L.length k),(1, .string key),(2, .func (.func 289) ⟨[]⟩ ⟨[]⟩),(8, .int .i64 (L.length:Int)),(9, .int .i64 (i:Int)),(10, .int .i64 (j:Int))])
  (fun _ _=>[.st (sl a k L)]) (fun i j=>i≤j∧j≤L.length∧(∀ m (hm:m < L.length),m < i→Xax L[m].key key=true)∧∀ m (hm:m < L.length),j≤m→Xax L[m].key key=false) (fun i j=>j - i) 0 L.length
  ⟨Nat.zero_le _,Nat.le_refl _,fun m hm h=>by omega,fun m hm h=>by omega⟩ iI ?_
 rintro i j ⟨hij,hjL,h1,h2⟩
 refine wz11 ?_
 refine JC.test (fun hlt=>?_) (fun hge=>?_)
 ·have hlt':i < j:=by omega
  obtain ⟨m,hm⟩:∃ m,m=(i+j) / 2:=⟨_,rfl⟩
  have hmL:m < L.length:=by omega
  refine wA ?_
  refine Wf Xaz rfl ?_
  refine JO.reslot 21 (.int .u64 ((i+j:Nat):Int)) (by congr 1; rw [IntKind.wrap_u64]; omega) ?_
  refine wz13 ?_
  refine Wf (OpV.shr (by decide)) rfl ?_
  refine JO.reslot 22 (.int .u64 ((m:Nat):Int)) (by
   congr 1
   show Int.fdiv ((i+j:Nat):Int) 2=_
   rw [Int.fdiv_eq_ediv_of_nonneg _ (by omega)]
   omega) ?_
  refine wz13 ?_
  refine Wf Xaz rfl ?_
  refine JO.reslot 23 (.int .i64 ((m:Nat):Int)) (by congr 1; rw [IntKind.wrap_i64]; omega) ?_
  refine wz10 ?_
  refine Xha rfl hmL ?_
  intro b3 o3
  obtain ⟨c,hc⟩:∃ c,c=L[m]:=⟨_,rfl⟩
  rw [← hc]
  refine wz6 ?_
  refine JR.callV rfl (fun w1 hw=>Xt7 w1 _ c key) ?_
  refine wz11 ?_
  refine JC.reslot 31 (.bool (Xax c.key key)) (by congr 1; exact X2k) ?_
  cases hx:Xax c.key key with
  | true =>
   refine wz12 ?_
   refine ⟨m+1,j,⟨by omega,hjL,fun q hq hqm=>?_,h2⟩,by omega,iI⟩
   by_cases e:q=m
   ·subst e; rw [← hc]; exact hx
   ·exact Xb8 (hs q m hq hmL (by omega)) (by rw [← hc]; exact hx)
  | false =>
   refine wz2 ?_
   refine ⟨i,m,⟨by omega,by omega,h1,fun q hq hqm=>?_⟩,by omega,iI⟩
   by_cases e:q=m
   ·subst e; rw [← hc]; exact hx
   ·cases hy:Xax L[q].key key with
    | false=>rfl
    | true =>
     have:=Xb8 (hs m q hmL hq (by omega)) hy
     rw [← hc,hx] at this; cases this
 ·obtain rfl:i=j:=by omega
  have hpos:posR L key=i:=X9h hjL h1 h2
  rw [hpos]
  by_cases hi:i < L.length
  ·have hhas:hasR L key=decide (L[i].key=key):=by unfold hasR; rw [hpos,List.getElem?_eq_getElem hi]
   rw [hhas]
   obtain ⟨c,hc⟩:∃ c,c=L[i]:=⟨_,rfl⟩
   rw [← hc]
   refine wX ?_
   refine JO.reslot 39 (.bool true) (by congr 1; exact decide_eq_true (by omega)) ?_
   refine wz6 ?_
   refine Xha rfl hi ?_
   intro b3 o3
   rw [← hc]
   refine wz6 ?_
   refine JR.callV rfl (fun w1 hw=>Xt7 w1 _ c key) ?_
   refine wX ?_
   refine Xac () ?_
   simp only [Xad,X2l]
  ·have hhas:hasR L key=false:=by unfold hasR; rw [hpos,List.getElem?_eq_none (by omega)]
   rw [hhas]
   refine wX ?_
   refine JO.reslot 39 (.bool false) (by congr 1; exact decide_eq_false (by omega)) ?_
   refine wz8 ?_
   exact Xac () rfl
theorem X54 (a:Option Addr) (k:Nat) (L:List Reg_) (key:ByteArray) (h:(sl a k L).holds F w) (hs:Xmm L) :
  GivesV prog 237 [.slice a L.length k, .string key] w F (.tuple ⟨[.int .i64 (posR L key:Int), .bool (hasR L key)]⟩):=by
 refine Xaa func237 rfl ntmps237 rfl rfl [.st (sl a k L)] (.start1 h) ?_
 refine wz10 ?_
 refine JR.callV rfl (fun w1 hw=>Xzu w1 _ a k L key hw.get hs) ?_
 refine wA ?_
 exact Xac () rfl
theorem Xhe {L:List Reg_} (h:Xd9 L=true):Xmm L:=by
 have h1:∀ i (hi:i+1 < L.length),Xax L[i].key L[i+1].key=true:=by
  intro i hi
  have:=List.all_eq_true.1 h (i+1) (List.mem_range.2 hi)
  rw [Xm4 hi] at this
  simp only [Nat.add_sub_cancel,Bool.and_eq_true,Bool.or_eq_true,decide_eq_true_eq] at this
  exact this.2.resolve_left (by omega)
 intro i j hi hj hij
 induction j with
 | zero=>omega
 | succ j ih =>
  rcases Nat.lt_or_ge i j with hl | hl
  ·exact Xb8 (ih (by omega) hl) (h1 j hj)
  ·obtain rfl:i=j:=by omega
   exact h1 i hj
theorem Xr4 {w:World} {b1 o1 l1 c1 b2 o2 l2 c2:Nat} {t1 t2:TypeId} {v1 v2:List Value} (hne:b1≠b2) (h1:w.heap[b1]? = some (.cells v1.toArray t1 (0,0))) (h2:w.heap[b2]? = some (.cells v2.toArray t2 (0,0))) :
  (callFunc 290 ⟨[.slice (some ⟨b1,o1,none⟩) l1 c1, .slice (some ⟨b2,o2,none⟩) l2 c2]⟩).run prog w = .ok (.value (.bool false)) w:=by
 rw [run_callFunc_extern func290 (by kernel_rfl) (by kernel_rfl) (by kernel_rfl) (e:=Extern.SlicesOverlaps.overlaps #[35,35] #[4]) (by kernel_rfl)]
 have:=Xt6 (P:=prog) w (t:=35) (u:=35) (el:=91) (rs:=#[4]) (o1:=o1) (l1:=l1) (c1:=c1) (o2:=o2) (l2:=l2) (c2:=c2) (by kernel_rfl) (by kernel_rfl) hne h1 h2
 rw [this]; rfl
def insR (L:List Reg_) (i:Nat) (u:Reg_):List Reg_:=L.take i++u::L.drop i
theorem Xwp {A B:List Value} {n:Nat} (h:A.length=n):(A++B).take n=A:=by rw [← h]; exact List.take_left
theorem X55 {A B:List Value} {n:Nat} (h:A.length=n):(A++B).drop n=B:=by rw [← h]; exact List.drop_left
theorem Xwq {w0 w:World} {F:Nat→Prop} {Γ:List Fact} {p:Option Addr} {q bv:Nat} (L:List Reg_) (i:Nat) (u:Reg_) (hi:i≤L.length) (hl:L.length < 4294967296)
  (ho:Hold w0 F (.res (buf p q 91 L)::.own bv 91 (regC u)::Γ) w) :
  Calls prog 238 ⟨[.slice p L.length q, .int .i64 (i:Int), .slice (some ⟨bv,0,none⟩) 1 1]⟩ w fun x w'=>∃ y:Option Addr × Nat,x = .returned (.slice y.1 (insR L i u).length y.2) ∧
   Hold w0 F (.res (buf y.1 y.2 91 (insR L i u))::.own bv 91 (regC u)::Γ) w':=by
 obtain ⟨k1,u1,g1,⟨n1,s1⟩⟩:=u
 by_cases hin:i=L.length
 ·subst hin
  have e0:insR L L.length ⟨k1,u1,g1,⟨n1,s1⟩⟩=L++[⟨k1,u1,g1,⟨n1,s1⟩⟩]:=by simp [insR]
  rw [e0]
  have hq:∀ w1,Hold w0 F (.res (buf p q 91 L)::.own bv 91 (regC ⟨k1,u1,g1,⟨n1,s1⟩⟩)::Γ) w1→L.length≤q:=fun w1 ho=>by
   have h1:=(ho.bufSl (a:=p) (c:=q) (L:=L)).1
   exact h1
  refine Xa4 (v:=fun y:Option Addr × Nat=>.slice y.1 (L++[(⟨k1,u1,g1,⟨n1,s1⟩⟩:Reg_)]).length y.2) (B:=fun y=>.res (buf y.1 y.2 91 (L++[(⟨k1,u1,g1,⟨n1,s1⟩⟩:Reg_)]))::.own bv 91 (regC ⟨k1,u1,g1,⟨n1,s1⟩⟩)::Γ)
   func238 rfl ntmps238 rfl rfl _ ho ?_
  refine wz10 ?_
  refine Wf (Xeo (l:=L.length) (s:=5) rfl (by exact fun w1 ho=>⟨Nat.le_refl _,hq w1 ho⟩)) rfl ?_
  refine wA ?_
  refine JC.test (fun _=>?_) (fun h=>absurd rfl h)
  refine wz14 ?_
  refine Xwo (u:=(⟨k1,u1,g1,⟨n1,s1⟩⟩:Reg_)) rfl (by exact ⟨rfl,rfl,by decide⟩) (by omega) ?_
  intro a2 c2
  refine wz9 ?_
  exact CT.done (a2,c2) rfl (fun w ho=>ho)
 have hlt:i < L.length:=by omega
 have hne:L≠[]:=by intro h; subst h; simp at hlt
 obtain ⟨b,rfl⟩:=Xj1 (ho.sat (.res (buf p q 91 L)) (by simp)) hne
 have hbv:bv≠b:=by
  rintro rfl
  have hd:=ho.dis
  rw [List.pairwise_cons] at hd
  exact hd.1 _ (List.mem_cons_self ..) bv ⟨(Xr0 bv).2 rfl,rfl⟩
 refine Xa4 (v:=fun y:Option Addr × Nat=>.slice y.1 (insR L i ⟨k1,u1,g1,⟨n1,s1⟩⟩).length y.2) (B:=fun y=>.res (buf y.1 y.2 91 (insR L i ⟨k1,u1,g1,⟨n1,s1⟩⟩))::.own bv 91 (regC ⟨k1,u1,g1,⟨n1,s1⟩⟩)::Γ)
  func238 rfl ntmps238 rfl rfl _ ho ?_
 refine JC.openC (L:=L) (cs:=regC) fun junk hj hLq hqm hlim=>?_
 have hlenI:(insR L i ⟨k1,u1,g1,⟨n1,s1⟩⟩).length=L.length+1:=by simp [insR]; omega
 have hflI:fl regC (insR L i ⟨k1,u1,g1,⟨n1,s1⟩⟩)=fl regC (L.take i)++(regC ⟨k1,u1,g1,⟨n1,s1⟩⟩++fl regC (L.drop i)):=by rw [insR,Xfm,Xhd]
 have hflL:fl regC L=fl regC (L.take i)++fl regC (L.drop i):=by rw [← Xfm,List.take_append_drop]
 have hA:(fl regC (L.take i)).length=i * 5:=by have:=Xd1 (cs:=regC) (L.take i); rw [List.length_take,Nat.min_eq_left hi] at this; exact this
 have hB:(fl regC (L.drop i)).length=(L.length - i) * 5:=by have:=Xd1 (cs:=regC) (L.drop i); rw [List.length_drop] at this; exact this
 have hB1:=Ybi (cs:=regC) (L.drop i)
 have hU1:∀ v∈regC ⟨k1,u1,g1,⟨n1,s1⟩⟩,v.oneCell'=true:=PlainC.one (cs:=regC) (⟨k1,u1,g1,⟨n1,s1⟩⟩:Reg_)
 have hj':L.length * 5+junk.length=q * 5:=hj
 rw [hflL]
 generalize fl regC (L.take i)=A at hA hflI
 generalize fl regC (L.drop i)=B at hB hB1 hflI
 obtain ⟨n,hn⟩:∃ n,n=L.length:=⟨_,rfl⟩
 rw [← hn] at hlt hl hLq hlim hlenI hB hj' ⊢
 have hmn:∀ a b:Nat,a≤b→Nat.min a b=a:=fun a b h=>Nat.min_eq_left h
 have hmn':∀ a b:Nat,b≤a→Nat.min a b=b:=fun a b h=>Nat.min_eq_right h
 refine wz10 ?_
 refine Wf (Xbp (l:=i) fun w1 ho=>⟨by omega,hLq⟩) rfl ?_
 refine wA ?_
 refine JC.test (fun h=>absurd h (by omega)) (fun _=>?_)
 refine wA ?_
 refine Wf OpV.cap rfl ?_
 refine wz5 ?_
 refine JC.test (fun hfull=>?_) (fun hroom=>?_)
 ·have hnq:q=n:=by omega
  refine wz14 ?_
  refine Wf (Xa6 (k:=i) fun w1 ho=>by omega) rfl ?_
  refine wA ?_
  refine JR.reslot 39 (.int .i64 ((n+1 - i:Nat):Int)) rfl ?_
  refine Xj8 (p:=0) (k:=n+1 - i) (l:=i) (cs:=A) rfl (by exact ⟨rfl,by decide,by decide⟩) (by rw [List.append_assoc]; exact Xwp hA) hA ⟨by omega,by omega⟩ (by omega) (by omega) ?_
  intro b2 c2 zs hc1 hc2 hz
  have hz':zs.length=(c2 - i) * 5:=by rw [hA] at hz; omega
  rw [show i+(n+1 - i)=n+1 by omega]
  refine wz10 ?_
  refine Wf (Xbp (l:=i) fun w1 ho=>⟨by omega,by omega⟩) rfl ?_
  refine JO.reslot 43 (.slice (some ⟨b2,i * 5,none⟩) (n+1 - i) (c2 - i)) (by rw [if_neg (by omega)]) ?_
  refine wz6 ?_
  refine Xm3 (regC ⟨k1,u1,g1,⟨n1,s1⟩⟩) (A++(regC ⟨k1,u1,g1,⟨n1,s1⟩⟩++zs.drop 5)) rfl (by rw [hmn _ _ (by omega)]; rfl) (Nat.zero_le _) (by rw [hmn _ _ (by omega)]; rfl) (by rw [List.length_append,hA,hz']; simp only [regC,List.length_cons,List.length_nil]; omega) hU1 (by
   rw [Xwp hA,← hA,List.drop_append,List.drop_of_length_le (by omega),List.nil_append,Nat.add_sub_cancel_left,List.append_assoc]; rfl) ?_
  refine wz10 ?_
  refine Xb1 8 mixed ?_
  refine JM.tv 0 ?_
  refine JM.tv 1 ?_
  refine JM.tv 2 ?_
  refine JM.take 3 rfl (by kernel_rfl) rfl (Vt (by omega)) rfl rfl ?_
  refine JM.reslot 49 (.int .i64 ((i+1:Nat):Int)) (by congr 1) ?_
  refine JM.take 4 rfl (by kernel_rfl) rfl (Xbp (l:=i+1) fun w1 ho=>⟨by omega,by omega⟩) rfl rfl ?_
  refine JM.reslot 50 (.slice (some ⟨b2,(i+1) * 5,none⟩) (n+1 - (i+1)) (c2 - (i+1))) (by rw [if_neg (by omega)]) ?_
  refine JM.tv 5 ?_
  refine JM.tv 6 ?_
  refine JM.take 7 rfl (by kernel_rfl) rfl (Xbp (l:=i) fun w1 ho=>⟨by omega,hLq⟩) rfl rfl ?_
  refine JM.reslot 53 (.slice (some ⟨b,i * 5,none⟩) (n - i) (q - i)) (by rw [if_neg (by omega)]) ?_
  refine Xam 8 (by kernel_rfl) rfl rfl rfl ?_
  refine Xm3 B (A++(regC ⟨k1,u1,g1,⟨n1,s1⟩⟩++(B++(zs.drop 5).drop ((n - i) * 5)))) rfl
   (by rw [hmn _ _ (by omega),Nat.sub_zero,List.append_assoc,X55 hA]; exact Xwp hB) (Nat.zero_le _) (by rw [hmn _ _ (by omega)]; exact hB)
   (by simp only [List.length_append,List.length_drop,hA,hB,hz',regC,List.length_cons,List.length_nil]; omega) hB1 (by
    have e5:(A++regC ⟨k1,u1,g1,⟨n1,s1⟩⟩).length=(i+1) * 5:=by simp only [List.length_append,hA,regC,List.length_cons,List.length_nil]; omega
    rw [← List.append_assoc A,Xwp e5,hB,← List.drop_drop,X55 e5]
    simp only [List.append_assoc]) ?_
  refine Wd ⟨rfl,?_⟩
  refine JM.nil (by kernel_rfl) ?_
  refine wz9 ?_
  refine CT.done (some ⟨b2,0,none⟩,c2) ?_ (fun w ho=>?_)
  ·simp only [Xad,hlenI]
  ·have h9:Hold w0 F (.own b2 91 (A++(regC ⟨k1,u1,g1,⟨n1,s1⟩⟩++(B++(zs.drop 5).drop ((n - i) * 5))))::.own bv 91 (regC ⟨k1,u1,g1,⟨n1,s1⟩⟩)::Γ) w:=ho.ent
   refine h9.closeC (cs:=regC) (insR L i ⟨k1,u1,g1,⟨n1,s1⟩⟩) ((zs.drop 5).drop ((n - i) * 5)) (by rw [hflI]; simp only [List.append_assoc]) ?_ (by omega) hc2 (by rw [hlenI]; simp only [lim]; omega)
   show _ * 5+_=_ * 5
   simp only [List.length_drop,hz',hlenI]
   omega
 ·have hnq:n+1≤q:=by omega
  refine wA ?_
  refine Wf (Xa6 (k:=n+1) fun w1 ho=>hnq) rfl ?_
  refine wA ?_
  refine Wf (Xbp (l:=i+1) fun w1 ho=>⟨by omega,hnq⟩) rfl ?_
  refine JO.reslot 66 (.slice (some ⟨b,(i+1) * 5,none⟩) (n+1 - (i+1)) (q - (i+1))) (by rw [if_neg (by omega)]) ?_
  refine We rfl ?_
  refine Wf (Xkz fun w1 hw=>Xr4 hbv (hw.sat (.own bv 91 (regC ⟨k1,u1,g1,⟨n1,s1⟩⟩)) (by simp)) (hw.sat (.own b 91 (A++B++junk)) (by simp))) rfl ?_
  refine wz8 ?_
  refine Xb1 8 mixed ?_
  refine JM.tv 0 ?_
  refine JM.tv 1 ?_
  refine JM.tv 2 ?_
  refine JM.take 3 rfl (by kernel_rfl) rfl (Vt (by omega)) rfl rfl ?_
  refine JM.reslot 72 (.int .i64 ((i+1:Nat):Int)) (by congr 1) ?_
  refine JM.take 4 rfl (by kernel_rfl) rfl (Xbp (l:=i+1) fun w1 ho=>⟨by omega,hnq⟩) rfl rfl ?_
  refine JM.reslot 73 (.slice (some ⟨b,(i+1) * 5,none⟩) (n+1 - (i+1)) (q - (i+1))) (by rw [if_neg (by omega)]) ?_
  refine JM.tv 5 ?_
  refine JM.tv 6 ?_
  refine JM.take 7 rfl (by kernel_rfl) rfl (Xbp (l:=i) fun w1 ho=>⟨by omega,hnq⟩) rfl rfl ?_
  refine JM.reslot 76 (.slice (some ⟨b,i * 5,none⟩) (n+1 - i) (q - i)) (by rw [if_neg (by omega)]) ?_
  refine Xam 8 (by kernel_rfl) rfl rfl rfl ?_
  have e5:((A++B++junk).take ((i+1) * 5)).length=(i+1) * 5:=by rw [List.length_take]; simp only [List.length_append,hA,hB]; omega
  refine Xm3 B ((A++B++junk).take ((i+1) * 5)++(B++junk.drop 5)) rfl
   (by rw [hmn' _ _ (by omega),Nat.sub_zero,List.append_assoc,X55 hA]; exact Xwp (by rw [hB]; congr 1; omega)) (Nat.zero_le _) (by rw [hmn' _ _ (by omega),hB]; congr 1; omega)
   (by simp only [List.length_append,hA,hB]; omega) hB1 (by
    rw [List.append_assoc _ B,show (i+1) * 5+B.length=(A++B).length+5 by simp only [List.length_append,hA,hB]; omega,List.drop_append,List.drop_of_length_le (l:=A++B) (by omega),List.nil_append,Nat.add_sub_cancel_left]) ?_
  refine Wd ⟨rfl,?_⟩
  refine JM.nil (by kernel_rfl) ?_
  refine wz14 ?_
  refine Wf (Xbp (l:=i) fun w1 ho=>⟨by omega,hnq⟩) rfl ?_
  refine JO.reslot 80 (.slice (some ⟨b,i * 5,none⟩) (n+1 - i) (q - i)) (by rw [if_neg (by omega)]) ?_
  refine wz6 ?_
  refine Xm3 (regC ⟨k1,u1,g1,⟨n1,s1⟩⟩) (A++(regC ⟨k1,u1,g1,⟨n1,s1⟩⟩++(B++junk.drop 5))) rfl (by rw [hmn _ _ (by omega)]; rfl) (Nat.zero_le _) (by rw [hmn _ _ (by omega)]; rfl)
   (by rw [List.length_append,e5]; simp only [regC,List.length_cons,List.length_nil]; omega) hU1 (by
    rw [List.take_append_of_le_length (by omega),List.take_take,Nat.min_eq_left (by omega),List.append_assoc A,Xwp hA,X55 (by rw [List.append_assoc A] at e5; rw [e5]; simp only [regC,List.length_cons,List.length_nil]; omega),List.append_assoc]) ?_
  refine wz9 ?_
  refine CT.done (some ⟨b,0,none⟩,q) ?_ (fun w ho=>?_)
  ·simp only [Xad,hlenI]
  ·have h9:Hold w0 F (.own b 91 (A++(regC ⟨k1,u1,g1,⟨n1,s1⟩⟩++(B++junk.drop 5)))::.own bv 91 (regC ⟨k1,u1,g1,⟨n1,s1⟩⟩)::Γ) w:=ho.ent
   refine h9.closeC (cs:=regC) (insR L i ⟨k1,u1,g1,⟨n1,s1⟩⟩) (junk.drop 5) (by rw [hflI]; simp only [List.append_assoc]) ?_ (by omega) hqm (by rw [hlenI]; simp only [lim]; omega)
   show _ * 5+_=_ * 5
   simp only [List.length_drop,hlenI]
   omega
def putR (L:List Reg_) (r:Reg_):List Reg_ :=
 match hasR L r.key with
 | true=>match L[posR L r.key]? with | some o=>if X53 r o then L.set (posR L r.key) r else L | none=>L
 | false=>insR L (posR L r.key) r
theorem Xr5 {L:List Reg_} {key:ByteArray} (h:hasR L key=true):posR L key < L.length:=by
 unfold hasR at h
 cases hx:L[posR L key]? with
 | none=>rw [hx] at h; cases h
 | some r=>exact (List.getElem?_eq_some_iff.1 hx).1
theorem X56 {L:List Reg_} {key:ByteArray} (h:hasR L key=true):(L[posR L key]'(Xr5 h)).key=key:=by
 have hl:=Xr5 h
 unfold hasR at h
 rw [List.getElem?_eq_getElem hl] at h
 simpa using h
theorem Xoc {L:List Reg_}:Xmm L↔L.Pairwise (fun a b=>Xax a.key b.key=true):=by
 rw [List.pairwise_iff_getElem]
 exact ⟨fun h i j hi hj hij=>h i j hi hj hij,fun h i j hi hj hij=>h i j hi hj hij⟩
theorem Xwr {L:List Reg_} {key:ByteArray} {k:Nat} (hk:k < L.length) (h:k < posR L key):Xax L[k].key key=true:=by
 have:=List.not_of_lt_findIdx (p:=fun r:Reg_=>!Xax r.key key) h
 simpa using this
theorem Xws {L:List Reg_} {key:ByteArray} (hs:Xmm L) (hh:hasR L key=false) {k:Nat} (hk:k < L.length) (h:posR L key≤k):Xax key L[k].key=true:=by
 have hp:posR L key < L.length:=by omega
 have h1:Xax L[posR L key].key key=false:=by
  have:=List.findIdx_getElem (p:=fun r:Reg_=>!Xax r.key key) (xs:=L) (w:=hp)
  simp only [Bool.not_eq_true'] at this
  exact this
 have h2:L[posR L key].key≠key:=by
  unfold hasR at hh
  rw [List.getElem?_eq_getElem hp] at hh
  simpa using hh
 have h3:Xax key L[posR L key].key=true:=by
  rcases Xcu h2 with x | x
  ·rw [h1] at x; cases x
  ·exact x
 rcases Nat.eq_or_lt_of_le h with e | e
 ·simpa [← e] using h3
 ·exact Xb8 h3 (hs _ k hp hk e)
theorem X2m {L:List Reg_} (hs:Xmm L) (r:Reg_):Xmm (putR L r):=by
 unfold putR
 cases hh:hasR L r.key with
 | true =>
  have hl:=Xr5 hh
  have hk:=X56 hh
  simp only [List.getElem?_eq_getElem hl]
  split
  ·intro i j hi hj hij
   have e:∀ m (hm:m < (L.set (posR L r.key) r).length),(L.set (posR L r.key) r)[m].key=(L[m]'(by simpa using hm)).key:=by
    intro m hm
    rw [List.getElem_set]
    split
    ·rename_i e; subst e; exact hk.symm
    ·rfl
   rw [e i hi,e j hj]
   exact hs i j _ _ hij
  ·exact hs
 | false =>
  simp only [insR]
  rw [Xoc,List.pairwise_append,List.pairwise_cons]
  have hp:=Xoc.1 hs
  have hb:∀ x∈L.drop (posR L r.key),Xax r.key x.key=true:=by
   intro x hx
   obtain ⟨k,hk,rfl⟩:=List.getElem_of_mem hx
   rw [List.getElem_drop]
   exact Xws hs hh _ (by omega)
  refine ⟨hp.sublist (List.take_sublist _ _),⟨hb,hp.sublist (List.drop_sublist _ _)⟩,fun x hx y hy=>?_⟩
  have hxr:Xax x.key r.key=true:=by
   obtain ⟨k,hk,rfl⟩:=List.getElem_of_mem hx
   rw [List.length_take] at hk
   rw [List.getElem_take]
   exact Xwr _ (by omega)
  rcases List.mem_cons.1 hy with rfl | hy
  ·exact hxr
  ·exact Xb8 hxr (hb y hy)
theorem X57 {L:List Reg_} {r x:Reg_} (h:x∈putR L r):x∈L∨x=r:=by
 unfold putR at h
 split at h
 ·split at h
  ·split at h
   ·exact List.mem_or_eq_of_mem_set h
   ·exact .inl h
  ·exact .inl h
 ·simp only [insR,List.mem_append,List.mem_cons] at h
  rcases h with h | h | h
  ·exact .inl (List.mem_of_mem_take h)
  ·exact .inr h
  ·exact .inl (List.mem_of_mem_drop h)
theorem Xwt (L:List Reg_) (r:Reg_):(putR L r).length≤L.length+1:=by
 unfold putR
 split
 ·split
  ·split
   ·simp
   ·omega
  ·omega
 ·simp only [insR,List.length_append,List.length_cons,List.length_take,List.length_drop]
  omega
def Xhs (L M:List Reg_):List Reg_:=M.foldl putR L
theorem Xk8:∀ (M:List Reg_) {L:List Reg_},Xmm L→Xmm (Xhs L M)
 | [],_,h=>h
 | r::M,L,h=>Xk8 M (X2m h r)
theorem Xj9:∀ (M:List Reg_) {L:List Reg_} {x:Reg_},x∈Xhs L M→x∈L∨x∈M
 | [],_,_,h=>.inl h
 | r::M,L,x,h=>by
  rcases Xj9 M (L:=putR L r) h with h | h
  ·rcases X57 h with h | h
   ·exact .inl h
   ·exact .inr (by simp [h])
  ·exact .inr (List.mem_cons_of_mem _ h)
theorem Xl3:∀ (M L:List Reg_),(Xhs L M).length≤L.length+M.length
 | [],L=>Nat.le_refl _
 | r::M,L=>by
  have h1:=Xl3 M (putR L r)
  have h2:=Xwt L r
  simp only [Xhs,List.foldl_cons,List.length_cons] at *
  omega
theorem Xzv (L M:List Reg_) (r:Reg_):Xhs L (M++[r])=putR (Xhs L M) r:=by simp [Xhs]
def Xdi (L:List Reg_) (r:Reg_):List Reg_:=if (Xd9 L && Xc5 r)=true then Xhs L [r] else []
def Xc6 (a b:List Reg_):List Reg_:=if (Xd9 a && Xd9 b)=true then Xhs a b else []
theorem Xqm {L:List Reg_}:Xd9 L=true↔(∀ p∈L,Xc5 p=true)∧Xmm L:=by
 constructor
 ·intro h
  refine ⟨fun p hp=>?_,Xhe h⟩
  obtain ⟨i,hi,rfl⟩:=List.getElem_of_mem hp
  unfold Xd9 Xjf at h
  have:=List.all_eq_true.1 h i (List.mem_range.2 hi)
  rw [Xm4 hi,Bool.and_eq_true] at this; exact this.1
 ·rintro ⟨h1,h2⟩
  unfold Xd9 Xjf
  rw [List.all_eq_true]
  intro i hi
  have hi':=List.mem_range.1 hi
  rw [Xm4 hi',h1 _ (List.getElem_mem hi'),Bool.true_and,Bool.or_eq_true,decide_eq_true_eq]
  rcases Nat.eq_zero_or_pos i with e | e
  ·exact .inl e
  ·exact .inr (h2 (i - 1) i (by omega) hi' (by omega))
theorem Xod {L M:List Reg_} (h:Xd9 L=true) (hM:∀ r∈M,Xc5 r=true):Xd9 (Xhs L M)=true:=by
 rw [Xqm] at *
 exact ⟨fun p hp=>(Xj9 M hp).elim (h.1 p) (hM p),Xk8 M h.2⟩
theorem Xzw (L:List Reg_) (r:Reg_):Xd9 (Xdi L r)=true:=by
 unfold Xdi
 split
 ·rename_i h
  rw [Bool.and_eq_true] at h
  exact Xod h.1 (fun x hx=>by simp at hx; subst hx; exact h.2)
 ·rfl
theorem Xt8 (a b:List Reg_):Xd9 (Xc6 a b)=true:=by
 unfold Xc6
 split
 ·rename_i h
  rw [Bool.and_eq_true] at h
  exact Xod h.1 (Xqm.1 h.2).1
 ·rfl
end
section
open Go Go.RowKit Go.Sort
theorem Xt9 (w:World) (g:Nat) (cur:Array Value) (el:TypeId) (F:Array Value) (hg:w.heap[g]? = some (.cells cur el (0,0))) :
  (Go.Sort.putRow id w g 0 F).heap[g]? = some (.cells (Go.Sort.putCells id 0 F cur) el (0,0)):=by
 simp [Go.Sort.putRow,Go.Sort.mapBlock,Go.Sort.onCells,Array.getElem?_modify,hg]
theorem Xua (w:World) (g k:Nat) (F:Array Value) (hk:k≠g):(Go.Sort.putRow id w g 0 F).heap[k]? = w.heap[k]?:=by
 simp [Go.Sort.putRow,Go.Sort.mapBlock,Array.getElem?_modify,Ne.symm hk]
theorem Xr6 (F cur:Array Value):(Go.Sort.putCells id 0 F cur).size=cur.size:=by simp [Go.Sort.putCells]
theorem Xub (F cur:Array Value) (k:Nat) (hk:k < F.size) (hc:F.size≤cur.size):(Go.Sort.putCells id 0 F cur)[k]? = some F[k]!:=by
 have:k < cur.size:=by omega
 simp [Go.Sort.putCells,this,hk]
def Xi7 (L:List ID):List Value:=L.flatMap idc
theorem Xr7 (L:List ID):(Xi7 L).length=L.length * 32:=by
 induction L with
 | nil=>rfl
 | cons a L ih=>simp only [Xi7,List.flatMap_cons,List.length_append,Xce] at *; rw [ih]; simp; omega
theorem Xr8 (r:List (ID × Unit)):flat (α:=ID) r=Xi7 (r.map (·.1)):=by
 induction r with
 | nil=>rfl
 | cons p r ih=>simp only [flat,ih,Xi7,List.map_cons,List.flatMap_cons]; rfl
theorem Xqn (L:List ID) (t:Nat) (h:t < L.length * 32):(Xi7 L)[t]? = some ((idc (L.toArray[t / 32]!))[t % 32]!):=by
 have hi:t / 32 < L.length:=by omega
 have:=Xnj (α:=ID) (L.map fun x=>(x,())) (t / 32) (by simpa using hi) (t % 32) ((idc (L.toArray[t / 32]!))[t % 32]!) (by
  have hlt:t % 32 < (idc L[t / 32]).length:=by rw [Xce]; omega
  have e0:Cell.cells (α:=ID) ((L.map fun x=>(x,()))[t / 32]'(by simpa using hi)).1 ((L.map fun x=>(x,()))[t / 32]'(by simpa using hi)).2=idc L[t / 32]:=by simp [Cell.cells]
  rw [e0]
  rw [List.getElem?_eq_getElem hlt]
  congr 1
  have:L.toArray[t / 32]! = L[t / 32]:=by simp [hi]
  rw [this]
  exact (getElem!_pos (idc L[t / 32]) (t % 32) hlt).symm)
 have e3:flat (α:=ID) (L.map fun x=>(x,()))=Xi7 L:=(Xr8 _).trans (congrArg Xi7 (by simp [Function.comp_def]))
 rw [e3] at this
 have e2:t / 32 * Cell.sz ID+t % 32=t:=by show t / 32 * 32+t % 32=t; omega
 rwa [e2] at this
theorem X2n [Dr] {P:Program} {f g0:FuncId} {w0 w:World} {F:Nat→Prop} {Γ:List Fact} {a:Option Addr} {c el:Nat} {L:List ID} (ho:Hold w0 F (.res (buf a c el L)::Γ) w)
  (hnone:∀ (p:Option Addr) (cap:Nat) (w:World),Calls P f #[.slice p 0 cap, .func (.func g0) #[] #[]] w fun e w'=>e = .returned (.tuple #[])∧w'=w)
  (hsort:∀ (b cap:Nat) (d:Array ID),Go.Sort.HoldsK idc 32 w b 0 d→b < w.heap.size→d.size < 4611686018427387904 →
   Calls P f #[.slice (some ⟨b,0,none⟩) d.size cap, .func (.func g0) #[] #[]] w fun e w'=>e = .returned (.tuple #[])∧∃ n os,w'=Go.Proofs.sortWorldK idc 32 w b 0 n (Xdf d.toList).toArray os) :
  Calls P f ⟨[.slice a L.length c, .func (.func g0) ⟨[]⟩ ⟨[]⟩]⟩ w fun x w'=>∃ y:Unit,x = .returned (.tuple ⟨[]⟩)∧Hold w0 F (.res (buf a c el (Xdf L))::Γ) w':=by
 obtain ⟨h0,r,h1,h2,h3⟩:(buf a c el L).holds _ w:=ho.sat (.res (buf a c el L)) (by simp)
 by_cases hL:L=[]
 ·subst hL
  exact Calls.mono (hnone a c w) fun x w' ⟨hx,hw⟩=>⟨(),hx,by rw [hw]; simpa [Xdf] using ho⟩
 rcases h2.2 with ⟨hv,hn⟩ | ⟨b,cap,cur,hv,hb,hg,hc1,hc2,hc3,hc4⟩
 ·exact (hL (List.eq_nil_of_length_eq_zero hn)).elim
 injection hv with e1 e2 e3
 subst e1 e3
 have hlt:b < w.heap.size:=(Array.getElem?_eq_some_iff.1 hg).1
 have hfr:flat r=Xi7 L:=(Xr8 r).trans (congrArg Xi7 h1)
 rw [hfr] at hc4
 have hsz:L.length * 32≤cur.size:=by rw [hc3]; exact Nat.mul_le_mul_right 32 hc1
 have hH:Go.Sort.HoldsK idc 32 w b 0 L.toArray:=by
  intro j hj
  rw [Go.Sort.size_flatK] at hj
  have hj':j < L.length * 32:=by simpa using hj
  rw [Go.Sort.get_flatK _ _ _ _ hj]
  constructor
  ·rw [Nat.zero_add,cell_of_row w b j cur el _ hg]
   have:=Xqn L j hj'
   rw [← hc4,List.getElem?_take] at this
   split at this
   ·simpa using this
   ·cases this
  ·simp [World.frozen?,hg]
 have hlim:L.length≤281474976710656:=h0
 have hs:=hsort b c L.toArray hH hlt (by simp; omega)
 simp only [List.size_toArray] at hs
 refine Calls.mono hs ?_
 rintro x w' ⟨hx,n,os,rfl⟩
 refine ⟨(),hx,?_⟩
 have hlen:(Xdf L).length=L.length:=Xhz L
 have hgh:(Go.Sort.ahead w n).heap[b]? = some (.cells cur el (0,0)):=hg
 have hF:(Go.Sort.flatK idc 32 (Xdf L).toArray).size=L.length * 32:=by rw [Go.Sort.size_flatK]; simp [hlen]
 have hnew:(Go.Proofs.sortWorldK idc 32 w b 0 n (Xdf L.toArray.toList).toArray os).heap[b]? = some (.cells (Go.Sort.putCells id 0 (Go.Sort.flatK idc 32 (Xdf L).toArray) cur) el (0,0)):=by
  unfold Go.Proofs.sortWorldK Go.Sort.putRowK
  rw [heap_grow_old]
  ·exact Xt9 _ _ _ _ _ hgh
  ·simp [Go.Sort.putRow,Go.Sort.mapBlock,Go.Sort.ahead]; exact hlt
 have hold:∀ k,k < w.heap.size→k≠b→(Go.Proofs.sortWorldK idc 32 w b 0 n (Xdf L.toArray.toList).toArray os).heap[k]? = w.heap[k]?:=by
  intro k hk hkb
  unfold Go.Proofs.sortWorldK Go.Sort.putRowK
  rw [heap_grow_old]
  ·exact Xua _ _ _ _ hkb
  ·simp [Go.Sort.putRow,Go.Sort.mapBlock,Go.Sort.ahead]; exact hk
 have howns:∀ (X:List ID) k,(buf (some ⟨b,0,none⟩) c el X).owns k↔k=b:=by
  intro X k
  constructor
  ·rintro ⟨a',ha',rfl⟩; injection ha' with ha'; subst ha'; rfl
  ·rintro rfl; exact ⟨_,rfl,rfl⟩
 have hb0:w0.heap.size≤b:=ho.new (.res (buf (some ⟨b,0,none⟩) c el L)) (by simp) b ((howns L b).2 rfl)
 have hsize:w.heap.size≤(Go.Proofs.sortWorldK idc 32 w b 0 n (Xdf L.toArray.toList).toArray os).heap.size:=by
  unfold Go.Proofs.sortWorldK Go.Sort.putRowK
  simp [grow,Go.Sort.putRow,Go.Sort.mapBlock,Go.Sort.ahead]
 have hfree:∀ k,fp w0 F (.res (buf (some ⟨b,0,none⟩) c el L)::Γ) k→fp w0 F (.res (buf (some ⟨b,0,none⟩) c el (Xdf L))::Γ) k:=by
  refine fun k hk=>⟨hk.1,fun f' hf' hown=>?_⟩
  rcases List.mem_cons.1 hf' with rfl | hf'
  ·exact hk.2 (.res (buf (some ⟨b,0,none⟩) c el L)) (by simp) ((howns L k).2 ((howns _ k).1 hown))
  ·exact hk.2 f' (by simp [hf']) hown
 have hp:=List.pairwise_cons.1 ho.dis
 refine ⟨ho.below.trans ⟨rfl,rfl,rfl,hsize,fun k hk=>hold k (by have:=ho.below.size; omega) (by omega),fun _=>Nat.le_add_right _ _⟩,fun f hf=>?_,?_,?_⟩
 ·rcases List.mem_cons.1 hf with rfl | hf
  ·refine ⟨by rw [hlen]; exact h0,(Xdf L).map (fun x=>(x,())),by rw [List.map_map]; exact List.map_id _,⟨by rw [Xbi]; simp, .inr ⟨b,c,_,rfl,Nat.zero_le _,hnew,by rw [hlen]; exact hc1,hc2,by rw [Xr6]; exact hc3,?_⟩⟩,fun p hp A hA=>by simp [Cell.facts] at hA⟩
   have e5:flat ((Xdf L).map (fun x:ID=>(x,())))=Xi7 (Xdf L):=by rw [Xr8]; congr 1; simp [Function.comp_def]
   refine Eq.trans ?_ e5.symm
   rw [hlen]
   apply List.ext_getElem?
   intro j
   rw [List.getElem?_take]
   have e6:Cell.sz ID=32:=rfl
   rw [e6]
   split
   ·rename_i hj
    rw [Xqn _ _ (by rw [hlen]; exact hj)]
    have:=Xub (Go.Sort.flatK idc 32 (Xdf L).toArray) cur j (by rw [hF]; exact hj) (by rw [hF]; exact hsz)
    rw [Go.Sort.get_flatK _ _ _ _ (by simp [hlen]; exact hj)] at this
    simpa using this
   ·rename_i hj
    rw [List.getElem?_eq_none]
    rw [Xr7,hlen]; omega
  ·refine Fact.sat_keep (ho.sat f (by simp [hf])) (fun k hk _=>hfree k hk) (fun k hklt hk=>hold k hklt (fun e=>?_))
   rcases hk with hk | hk
   ·exact hk.2 (.res (buf (some ⟨b,0,none⟩) c el L)) (by simp) ((howns L k).2 e)
   ·exact hp.1 f hf k ⟨(howns L k).2 e,hk⟩
 ·exact List.pairwise_cons.2 ⟨fun f' hf' k hk=>hp.1 f' hf' k ⟨(howns L k).2 ((howns _ k).1 hk.1),hk.2⟩,hp.2⟩
 ·intro f' hf' k hk
  rcases List.mem_cons.1 hf' with rfl | hf'
  ·have:=(howns _ k).1 hk; omega
  ·exact ho.new f' (by simp [hf']) k hk
end
section
open Go Go.RowKit Go.Sort Go.Shelf Go.Proofs
theorem Xyg {w:World} {b m:Nat} {L:List UInt8} {t:TypeId} (h:w.heap[b]? = some (.cells (L.map Xak).toArray t (0,0))) (hm:L.length=m) (hmax:m≤4096):(sl (some ⟨b,0,none⟩) m L).holds (fun _=>True) w:=by
 refine ⟨by omega,by simp [maxLen]; omega,by simp only [lim]; omega,fun hne=>⟨b,0,rfl,trivial,(Array.getElem?_eq_some_iff.1 h).1,fun i hi=>⟨(),?_,by simp [Cell.facts]⟩⟩⟩
 intro j v hj
 simp only [Cell.cells,List.getElem?_singleton] at hj
 split at hj
 ·rename_i h0; subst h0
  injection hj with hj
  subst hj
  rw [cell_of_row w b _ _ _ _ h]
  simp [Cell.sz,hi]
 ·cases hj
theorem X9i (W:World) {a b:Option Addr} {c k:Nat} {L M:List UInt8} {F G:Nat→Prop} (h:(sl a c L).holds F W) (h':(sl b k M).holds G W) :
  Calls prog 64 #[.slice a L.length c, .slice b M.length k] W fun e w'=>e = .returned (.int .i64 (Lib.compareBytes L M))∧w'=W:=by
 have hx:=Xf3 W h h'
 clear h h'
 generalize Lib.compareBytes L M=r at hx ⊢
 go_enter func64,ntmps64
 go_wp2
 go_ret
 exact ⟨rfl,rfl⟩
theorem X9j (W:World) (x y:ID):Calls prog 148 #[.agg (idc x).toArray, .agg (idc y).toArray] W fun e w'=>e = .returned (.int .i64 (Xrt x y))∧∃ q os',w'=grow (W.drewN q) os':=by
 have hc:∀ n,Calls prog 64 #[.slice (some ⟨W.heap.size,0,none⟩) 32 32, .slice (some ⟨W.heap.size+1,0,none⟩) 32 32] (((W.alloc (.cells (idc x).toArray 72)).alloc (.cells (idc y).toArray 72)).drewN n) fun e w'=>e = .returned (.int .i64 (Xrt x y))∧w'=((W.alloc (.cells (idc x).toArray 72)).alloc (.cells (idc y).toArray 72)).drewN n:=by
  intro n
  have h1:(((W.alloc (.cells (idc x).toArray 72)).alloc (.cells (idc y).toArray 72)).drewN n).heap[W.heap.size]? = some (.cells (x.1.map Xak).toArray 72 (0,0)):=by
   show ((W.heap.push _).push _)[W.heap.size]? = _
   rw [Array.getElem?_push,if_neg (by simp),Array.getElem?_push,if_pos rfl]; rfl
  have h2:(((W.alloc (.cells (idc x).toArray 72)).alloc (.cells (idc y).toArray 72)).drewN n).heap[W.heap.size+1]? = some (.cells (y.1.map Xak).toArray 72 (0,0)):=by
   show ((W.heap.push _).push _)[W.heap.size+1]? = _
   rw [Array.getElem?_push,if_pos (by simp)]; rfl
  have h:=X9i (((W.alloc (.cells (idc x).toArray 72)).alloc (.cells (idc y).toArray 72)).drewN n) (Xyg h1 x.2 (by decide)) (Xyg h2 y.2 (by decide))
  rw [x.2,y.2] at h
  exact h
 generalize Xrt x y=r at hc ⊢
 go_enter func148,ntmps148
 go_wp2
 go_quiet (first | (go_at_call 64; refine Calls.quiet_of_same (hc _)))
 rename_i nq
 go_wp2
 go_ret
 exact ⟨rfl,nq,_,by rw [alloc_eq_grow,alloc_eq_grow,grow_grow]; rfl⟩
end
section
attribute [local irreducible] JC JO JR JQ andThen inBlock OpV Gives Xah JM JS
theorem Xr9 {x:Int} {l:List Int}:orL (x::l) < 0↔x < 0∨x=0∧orL l < 0:=by
 show (if x≠0 then x else orL l) < 0↔_
 by_cases h:x=0
 ·subst h; simp
 ·simp [h]
theorem Xyh {a b:Int}:cmpI a b < 0↔a < b:=by
 unfold cmpI
 split
 ·simp [*]
 ·split <;> simp [*]
theorem X9k {a b:Int}:cmpI a b=0↔a=b:=by
 unfold cmpI
 split
 ·constructor <;> intro h <;> omega
 ·split
  ·constructor <;> intro h <;> omega
  ·constructor <;> intro h <;> omega
theorem Xyi {a b:ByteArray}:cmpS a b < 0↔Xax a b=true:=by rw [← X2k,decide_eq_true_eq]
theorem Xuc {a b:ByteArray}:cmpS a b=0↔a=b:=by have:=@X2l a b; rwa [decide_eq_decide] at this
def ordL (a b:Pair_):List Int:=[cmpS a.key b.key,cmpS a.elem b.elem,cmpI a.ev.node b.ev.node,cmpI a.ev.seq b.ev.seq]
def ordP (a b:Pair_):Int:=orL (ordL a b)
def Xcg (a b:Pair_):Bool:=decide (ordP a b < 0)
def PLt (a b:Pair_):Prop:=Xax a.key b.key=true∨a.key=b.key∧(Xax a.elem b.elem=true∨a.elem=b.elem∧(a.ev.node < b.ev.node∨a.ev.node=b.ev.node∧a.ev.seq < b.ev.seq))
theorem Xef {a b:Pair_}:Xcg a b=true↔PLt a b:=by
 unfold Xcg ordP ordL PLt
 rw [decide_eq_true_eq,Xr9,Xr9,Xr9,Xr9,Xyi,Xuc,Xyi,Xuc,Xyh,X9k,Xyh]
 simp [orL]
theorem PLt.irrefl (a:Pair_):¬ PLt a a:=by
 unfold PLt
 simp [Xdo]
theorem PLt.trans {a b c:Pair_} (h:PLt a b) (k:PLt b c):PLt a c:=by
 unfold PLt at *
 rcases h with h | ⟨h1,h⟩
 ·rcases k with k | ⟨k1,_⟩
  ·exact .inl (Xb8 h k)
  ·exact .inl (k1 ▸ h)
 ·rcases k with k | ⟨k1,k⟩
  ·exact .inl (h1 ▸ k)
  ·refine .inr ⟨h1.trans k1,?_⟩
   rcases h with h | ⟨h2,h⟩
   ·rcases k with k | ⟨k2,_⟩
    ·exact .inl (Xb8 h k)
    ·exact .inl (k2 ▸ h)
   ·rcases k with k | ⟨k2,k⟩
    ·exact .inl (h2 ▸ k)
    ·exact .inr ⟨h2.trans k2,by omega⟩
theorem PLt.total {a b:Pair_} (h:a≠b):PLt a b∨PLt b a:=by
 unfold PLt
 by_cases h1:a.key=b.key
 ·by_cases h2:a.elem=b.elem
  ·have h3:a.ev.node≠b.ev.node∨a.ev.seq≠b.ev.seq:=by
    rcases Decidable.em (a.ev.node=b.ev.node) with e | e
    ·refine .inr fun e'=>h ?_
     obtain ⟨_,_,⟨_,_⟩⟩:=a
     obtain ⟨_,_,⟨_,_⟩⟩:=b
     simp only at h1 h2 e e'
     subst h1 h2 e e'
     rfl
    ·exact .inl e
   rcases Int.lt_trichotomy a.ev.node b.ev.node with x | x | x
   ·exact .inl (.inr ⟨h1, .inr ⟨h2, .inl x⟩⟩)
   ·rcases Int.lt_trichotomy a.ev.seq b.ev.seq with y | y | y
    ·exact .inl (.inr ⟨h1, .inr ⟨h2, .inr ⟨x,y⟩⟩⟩)
    ·omega
    ·exact .inr (.inr ⟨h1.symm, .inr ⟨h2.symm, .inr ⟨x.symm,y⟩⟩⟩)
   ·exact .inr (.inr ⟨h1.symm, .inr ⟨h2.symm, .inl x⟩⟩)
  ·rcases Xcu h2 with x | x
   ·exact .inl (.inr ⟨h1, .inl x⟩)
   ·exact .inr (.inr ⟨h1.symm, .inl x⟩)
 ·rcases Xcu h1 with x | x
  ·exact .inl (.inl x)
  ·exact .inr (.inl x)
theorem Xhf (a:Pair_):Xcg a a=false:=by rw [← Bool.not_eq_true,Xef]; exact PLt.irrefl a
theorem Xf4 {a b c:Pair_} (h:Xcg a b=true) (k:Xcg b c=true):Xcg a c=true:=by rw [Xef] at *; exact h.trans k
theorem Xl4 {a b:Pair_} (h:Xcg a b=false) (k:Xcg b a=false):a=b:=by
 rw [← Bool.not_eq_true,Xef] at *
 rcases Classical.em (a=b) with e | e
 ·exact e
 ·exact absurd (PLt.total e) (fun x=>x.elim h k)
theorem Xl5 {a b c:Pair_} (h:Xcg b a=false) (k:Xcg c b=false):Xcg c a=false:=by
 cases hx:Xcg c a with
 | false=>rfl
 | true =>
  exfalso
  rcases Classical.em (a=b) with e | e
  ·subst e; rw [hx] at k; cases k
  ·have h1:Xcg a b=true:=by
    rcases PLt.total e with x | x
    ·exact Xef.2 x
    ·rw [Xef.2 x] at h; cases h
   rw [Xf4 hx h1] at k; cases k
theorem X2o:Go.Sort.SWO (Go.Proofs.ltOf ordP) where
 irrefl x:=Xhf x
 trans x y z h1 h2:=Xf4 h1 h2
 ntrans x y z h1 h2:=Xl5 h2 h1
def Xht (L:List Pair_):List Pair_:=L.mergeSort (fun x y=>!Xcg y x)
theorem Xf5 (L:List Pair_):(Xht L).length=L.length:=by simp [Xht]
theorem Xhg (L:List Pair_):(Xht L).Perm L:=List.mergeSort_perm _ _
theorem Xoe {L:List Pair_} {x:Pair_}:x∈Xht L↔x∈L:=(Xhg L).mem_iff
theorem Xgf (L:List Pair_):(Xht L).Pairwise (fun x y=>Xcg y x=false):=by
 have:=List.pairwise_mergeSort (le:=fun x y=>!Xcg y x) (fun a b c h1 h2=>by
  simp only [Bool.not_eq_true'] at *
  exact Xl5 h1 h2) (fun a b=>by
  cases h1:Xcg b a with
  | false=>rfl
  | true =>
   cases h2:Xcg a b with
   | false=>rfl
   | true=>have:=Xf4 h1 h2; rw [Xhf] at this; cases this) L
 simpa [Xht] using this
theorem Xud {L M:List Pair_} (h:L.Perm M) (h1:L.Pairwise (fun x y=>Xcg y x=false)) (h2:M.Pairwise (fun x y=>Xcg y x=false)):L=M :=
 List.Perm.eq_of_pairwise (le:=fun x y=>Xcg y x=false) (fun a b _ _ h1 h2=>Xl4 h2 h1) h1 h2 h
theorem Xzx {L M:List Pair_} (h:L.Perm M):Xht L=Xht M :=
 Xud (((Xhg L).trans h).trans (Xhg M).symm) (Xgf L) (Xgf M)
def Xcj (p:Pair_):Bool:=Xdh p.key && Xdh p.elem && decide (0≤p.ev.node) && decide (p.ev.node < 8) && decide (1≤p.ev.seq)
def Xh2 (L:List Pair_) (i:Nat):Bool :=
 match L[i]? with
 | some c=>Xcj c && (match L[i - 1]? with | some b=>decide (i=0) || Xcg b c | none=>true)
 | none=>true
def Xb2 (L:List Pair_):Bool:=Xjf L.length (Xh2 L)
theorem Xka {L:List Pair_} {i:Nat} (h:i < L.length):Xh2 L i=(Xcj L[i] && (decide (i=0) || Xcg (L[i - 1]'(by omega)) L[i])):=by
 unfold Xh2
 rw [List.getElem?_eq_getElem h,List.getElem?_eq_getElem (show i - 1 < L.length by omega)]
theorem Xeg {L:List Pair_}:Xb2 L=true↔(∀ p∈L,Xcj p=true)∧L.Pairwise (fun x y=>Xcg x y=true):=by
 unfold Xb2 Xjf
 rw [List.all_eq_true]
 constructor
 ·intro h
  have h1:∀ i (hi:i < L.length),Xcj L[i]=true:=fun i hi=>by
   have:=h i (List.mem_range.2 hi)
   rw [Xka hi,Bool.and_eq_true] at this; exact this.1
  have h2:∀ i (hi:i+1 < L.length),Xcg L[i] L[i+1]=true:=fun i hi=>by
   have:=h (i+1) (List.mem_range.2 hi)
   rw [Xka hi] at this
   simp only [Nat.add_sub_cancel,Bool.and_eq_true,Bool.or_eq_true,decide_eq_true_eq] at this
   exact this.2.resolve_left (by omega)
  refine ⟨fun p hp=>?_,List.pairwise_iff_getElem.2 fun i j hi hj hij=>?_⟩
  ·obtain ⟨i,hi,rfl⟩:=List.getElem_of_mem hp; exact h1 i hi
  ·induction j with
   | zero=>omega
   | succ j ih =>
    rcases Nat.lt_or_ge i j with hl | hl
    ·exact Xf4 (ih (by omega) hl) (h2 j hj)
    ·obtain rfl:i=j:=by omega
     exact h2 i hj
 ·rintro ⟨h1,h2⟩ i hi
  have hi':=List.mem_range.1 hi
  rw [Xka hi',h1 _ (List.getElem_mem hi'),Bool.true_and,Bool.or_eq_true,decide_eq_true_eq]
  rcases Nat.eq_zero_or_pos i with e | e
  ·exact .inl e
  ·exact .inr (List.pairwise_iff_getElem.1 h2 (i - 1) i (by omega) hi' (by omega))
theorem Xbg {L:List Pair_} (h:Xb2 L=true):L.Nodup:=by
 refine ((Xeg.1 h).2).imp fun {a b} hab e=>?_
 subst e
 rw [Xhf] at hab; cases hab
theorem Xl6 {L:List Pair_} (hn:L.Nodup) (h:∀ p∈L,Xcj p=true):Xb2 (Xht L)=true:=by
 rw [Xeg]
 refine ⟨fun p hp=>h p (Xoe.1 hp),?_⟩
 have h1:=Xgf L
 have h2:(Xht L).Nodup:=(Xhg L).nodup_iff.2 hn
 refine h1.imp₂ (fun {a b} hab hne=>?_) h2
 rcases PLt.total hne with x | x
 ·exact Xef.2 x
 ·rw [Xef.2 x] at hab; cases hab
def addP (L:List Pair_) (p:Pair_):List Pair_:=if (Xb2 L && Xcj p)=true then Xht (addK L p) else []
def Xmn (key elem:ByteArray) (p:Pair_):Bool:=decide (p.key=key) && decide (p.elem=elem)
def delP (L:List Pair_) (key elem:ByteArray):List Pair_:=if Xb2 L=true then L.filter (fun p=>!Xmn key elem p) else []
def Xwu (base a b:List Pair_) (p:Pair_):Bool:=(decide (p∈a) && decide (p∈b)) || !decide (p∈base)
def Xmo (base a b:List Pair_) (L:List Pair_):List Pair_:=L.foldl (fun S p=>if Xwu base a b p then addK S p else S) []
def Xh3 (base a b:List Pair_):List Pair_:=if (Xb2 base && Xb2 a && Xb2 b)=true then Xht (Xmo base a b (a++b)) else []
theorem Xzy (base a b L:List Pair_) (p:Pair_):Xmo base a b (L++[p])=if Xwu base a b p then addK (Xmo base a b L) p else Xmo base a b L:=by simp [Xmo]
theorem Xjg (base a b:List Pair_):∀ L,(Xmo base a b L).Nodup:=by
 intro L
 unfold Xmo
 have:∀ (L S:List Pair_),S.Nodup→(L.foldl (fun S p=>if Xwu base a b p then addK S p else S) S).Nodup:=by
  intro L
  induction L with
  | nil=>exact fun S h=>h
  | cons p L ih =>
   intro S h
   rw [List.foldl_cons]
   refine ih _ ?_
   split
   ·exact Xcz h p
   ·exact h
 exact this L [] List.nodup_nil
theorem Xof {base a b:List Pair_}:∀ {L:List Pair_} {p:Pair_},p∈Xmo base a b L→p∈L:=by
 intro L p h
 have:∀ (L S:List Pair_),(∀ q,q∈L.foldl (fun S p=>if Xwu base a b p then addK S p else S) S→q∈S∨q∈L):=by
  intro L
  induction L with
  | nil=>exact fun S q h=>.inl h
  | cons x L ih =>
   intro S q h
   rw [List.foldl_cons] at h
   rcases ih _ q h with h | h
   ·split at h
    ·rcases Xe6.1 h with h | h
     ·exact .inl h
     ·exact .inr (by simp [h])
    ·exact .inl h
   ·exact .inr (List.mem_cons_of_mem _ h)
 exact (this L [] p h).resolve_left (by simp)
theorem Xwv (L:List Pair_) (p:Pair_):Xb2 (addP L p)=true:=by
 unfold addP
 split
 ·rename_i h
  rw [Bool.and_eq_true] at h
  refine Xl6 (Xcz (Xbg h.1) p) fun q hq=>?_
  rcases Xe6.1 hq with hq | rfl
  ·exact (Xeg.1 h.1).1 q hq
  ·exact h.2
 ·rfl
theorem Xww (L:List Pair_) (key elem:ByteArray):Xb2 (delP L key elem)=true:=by
 unfold delP
 split
 ·rename_i h
  rw [Xeg] at *
  exact ⟨fun p hp=>h.1 p ((List.mem_filter.1 hp).1),h.2.sublist List.filter_sublist⟩
 ·rfl
theorem Xsa (base a b:List Pair_):Xb2 (Xh3 base a b)=true:=by
 unfold Xh3
 split
 ·rename_i h
  simp only [Bool.and_eq_true] at h
  refine Xl6 (Xjg _ _ _ _) fun q hq=>?_
  rcases List.mem_append.1 (Xof hq) with hq | hq
  ·exact (Xeg.1 h.1.2).1 q hq
  ·exact (Xeg.1 h.2).1 q hq
 ·rfl
theorem X9l {w0 w:World} {F:Nat→Prop} {Γ:List Fact} {b k:Nat} {el:TypeId} {L:List ByteArray} {junk:List Value} (m:Int) (hl:L.length≤12) (ho:Hold w0 F (.own b el (L.map strV++junk)::Γ) w) :
  Calls prog 287 ⟨[.slice (some ⟨b,0,none⟩) L.length k, .int .i64 0, .int .i64 (L.length:Int), .int .i64 m]⟩ w fun x w'=>∃ S:Xep L,x = .returned (.tuple ⟨[]⟩)∧Hold w0 F (.own b el (S.1.map strV++junk)::Γ) w':=by
 refine Xa4 (v:=fun _=>.tuple ⟨[]⟩) (B:=fun S:Xep L=>.own b el (S.1.map strV++junk)::Γ) func287 rfl ntmps287 rfl rfl _ ho ?_
 refine wz4 ?_
 refine Xao (fun (_:Nat)=>[(0, .slice (some ⟨b,0,none⟩) L.length k),(1, .int .i64 0),(2, .int .i64 (L.length:Int)),(3, .int .i64 m)])
  (fun _=>.own b el (L.map strV++junk)::Γ) (fun _=>True) (fun _=>0) 0 trivial iI ?_
 rintro _ _
 refine wA ?_
 refine JC.test (fun h1=>?_) (fun h1=>?_)
 ·refine wz14 ?_
  refine Xal (v:=fun _=>.tuple ⟨[]⟩) (B:=fun S:Xep L=>.own b el (S.1.map strV++junk)::Γ) rfl (fun w1 hw=>Xrz (by omega) hw) ?_
  intro S
  refine wz5 ?_
  first | exact Xd0 S rfl (fun w ho=>ho) | exact CT.done S rfl (fun w ho=>ho)
 ·exfalso; omega
theorem Xzz (n:Nat) (hn:n < 256):Gives prog 190 [.int .u64 (n:Int)] w F (fun y:Int=>.int .i64 y) (fun _=>[]):=by
 refine Xaa func190 rfl ntmps190 rfl rfl [] (.start w F) ?_
 refine wz10 ?_
 refine JC.test (fun h1=>by omega) (fun _=>?_)
 refine wA ?_
 refine JC.test (fun h1=>by omega) (fun _=>?_)
 refine wA ?_
 refine JC.test (fun h1=>by omega) (fun _=>?_)
 refine wz14 ?_
 refine Wf Xaz rfl ?_
 refine JO.reslot 21 (.int .u8 ((n:Nat):Int)) (by congr 1; simp [IntKind.wrap,IntKind.bits,IntKind.signed]; omega) ?_
 refine wz13 ?_
 refine Wf (OpV.indexStr (k:=n) (Nat.lt_of_lt_of_le hn (Nat.le_of_eq (by kernel_rfl)))) rfl ?_
 refine wz13 ?_
 refine Wf Xaz rfl ?_
 refine wz13 ?_
 refine Wf Xcs rfl ?_
 refine wz10 ?_
 exact Xac (Y:=Int) _ rfl
theorem Xyj (n:Nat) (hn:n < 256):Gives prog 122 [.int .u64 (n:Int)] w F (fun y:Int=>.int .i64 y) (fun _=>[]):=by
 refine Xaa func122 rfl ntmps122 rfl rfl [] (.start w F) ?_
 refine wz7 ?_
 refine JR.call (v:=fun y:Int=>.int .i64 y) (B:=fun _=>[]) rfl (fun w1 hw=>Xzz w1 _ n hn) ?_
 intro m
 dsimp only [List.nil_append]
 refine wz10 ?_
 exact Xac (Y:=Int) m rfl
theorem X58 {w0 w:World} {F:Nat→Prop} {Γ:List Fact} {b k:Nat} {el:TypeId} {L:List ByteArray} {junk:List Value} (hl:L.length≤12) (ho:Hold w0 F (.own b el (L.map strV++junk)::Γ) w) :
  Calls prog 236 ⟨[.slice (some ⟨b,0,none⟩) L.length k]⟩ w fun x w'=>∃ S:Xep L,x = .returned (.tuple ⟨[]⟩)∧Hold w0 F (.own b el (S.1.map strV++junk)::Γ) w':=by
 refine Xa4 (v:=fun _=>.tuple ⟨[]⟩) (B:=fun S:Xep L=>.own b el (S.1.map strV++junk)::Γ) func236 rfl ntmps236 rfl rfl _ ho ?_
 refine wz4 ?_
 refine Wf Xaz rfl ?_
 refine JO.reslot 8 (.int .u64 ((L.length:Nat):Int)) (by congr 1; simp [IntKind.wrap,IntKind.bits,IntKind.signed]; omega) ?_
 refine wz13 ?_
 refine JR.call (v:=fun y:Int=>.int .i64 y) (B:=fun _=>[]) rfl (fun w1 hw=>Xyj w1 _ L.length (by omega)) ?_
 intro m
 dsimp only [List.nil_append]
 refine wz13 ?_
 refine Xal (v:=fun _=>.tuple ⟨[]⟩) (B:=fun S:Xep L=>.own b el (S.1.map strV++junk)::Γ) rfl (fun w1 hw=>X9l m hl hw) ?_
 intro S
 refine wz10 ?_
 exact Xd0 S rfl (fun w ho=>ho)
instance:MKey prog 9 strV:=MKey.str (by kernel_rfl)
abbrev Cts:=List (ByteArray × Int)
def ctsM (M:Cts):List (ByteArray × Value):=M.map fun p=>(p.1, .int .i64 p.2)
def getI (M:Cts) (k:ByteArray):Int:=match M.find? (fun p=>decide (p.1=k)) with | some p=>p.2 | none=>0
def updI (M:Cts) (k:ByteArray) (v:Int):Cts :=
 match M.findIdx? (fun p=>decide (p.1=k)) with
 | some i=>M.modify i fun _=>(k,v)
 | none=>M++[(k,v)]
theorem Xh4 (M:Cts):(ctsM M).map (·.1)=M.map (·.1):=by simp [ctsM,Function.comp_def]
theorem Xog (M:Cts):(ctsM M).length=M.length:=by simp [ctsM]
theorem Xk9 (M:Cts) (k:ByteArray):(Xbl (ctsM M) k).getD (.int .i64 0) = .int .i64 (getI M k):=by
 unfold Xbl ctsM getI
 rw [List.find?_map]
 simp only [Function.comp_def]
 cases M.find? (fun p=>decide (p.1=k)) <;> rfl
theorem X2p (M:Cts) (k:ByteArray) (v:Int):upd (ctsM M) k (.int .i64 v)=ctsM (updI M k v):=by
 unfold upd plc updI ctsM
 rw [List.findIdx?_map]
 simp only [Function.comp_def]
 cases M.findIdx? (fun p=>decide (p.1=k)) with
 | none=>simp
 | some i =>
  simp only
  apply List.ext_getElem?
  intro j
  simp only [List.getElem?_modify,List.getElem?_map]
  by_cases h:i=j
  ·subst h; cases M[i]? <;> simp
  ·simp [h]
theorem Xkb (M:Cts) (k:ByteArray) (v:Int):(updI M k v).map (·.1)=addK (M.map (·.1)) k:=by
 unfold updI addK
 cases h:M.findIdx? (fun p=>decide (p.1=k)) with
 | none =>
  have:k∉M.map (·.1):=by
   intro hk
   obtain ⟨p,hp,rfl⟩:=List.mem_map.1 hk
   have:=List.findIdx?_eq_none_iff.1 h p hp
   simp at this
  rw [if_neg this]; simp
 | some i =>
  obtain ⟨h1,h2,h3⟩:=List.findIdx?_eq_some_iff_getElem.1 h
  have hk:M[i].1=k:=by simpa using h2
  rw [if_pos (List.mem_map.2 ⟨M[i],List.getElem_mem h1,hk⟩)]
  apply List.ext_getElem?
  intro j
  simp only [List.getElem?_map,List.getElem?_modify]
  by_cases hj:i=j
  ·subst hj; rw [List.getElem?_eq_getElem h1]; simp [hk]
  ·simp [hj]
theorem Xla {M:Cts} (h:(M.map (·.1)).Nodup) (k:ByteArray) (v:Int):((updI M k v).map (·.1)).Nodup:=by rw [Xkb]; exact Xcz h k
def addS (t:Int) (M:Cts) (c:Ctr_):Cts:=updI M c.key (IntKind.i64.wrap (getI M c.key+IntKind.i64.wrap (t * c.n)))
theorem Xcp (t:Int):∀ (L:List Ctr_) {M:Cts},(M.map (·.1)).Nodup→((L.foldl (addS t) M).map (·.1)).Nodup
 | [],_,h=>h
 | c::L,M,h=>Xcp t L (Xla h _ _)
theorem Xm5 {w0 w:World} {F:Nat→Prop} {Γ:List Fact} {b:Nat} (M:Cts) (t:Int) (L:List Ctr_) (a:Option Addr) (k:Nat) (hn:(M.map (·.1)).Nodup) (hl:L.length < 9223372036854775807) (ho:Hold w0 F (.omap b (ents strV (ctsM M)) (ctsM M).length::.st (sl a k L)::Γ) w) :
  Calls prog 110 ⟨[.map (some b), .slice a L.length k, .int .i64 t]⟩ w fun x w'=>∃ _:Unit,x = .returned (.tuple ⟨[]⟩)∧Hold w0 F (.omap b (ents strV (ctsM (L.foldl (addS t) M))) (ctsM (L.foldl (addS t) M)).length::.st (sl a k L)::Γ) w':=by
 refine Xa4 (v:=fun _:Unit=>.tuple ⟨[]⟩) (B:=fun _=>.omap b (ents strV (ctsM (L.foldl (addS t) M))) (ctsM (L.foldl (addS t) M)).length::.st (sl a k L)::Γ) func110 rfl ntmps110 rfl rfl _ ho ?_
 refine wz4 ?_
 refine Xc8 (fun (i:Nat) (N:Cts)=>[(0, .map (some b)),(2, .int .i64 t),(8, .slice a L.length k),(9, .int .i64 (L.length:Int)),(10, .int .i64 (i:Int))])
  (fun i N=>.omap b (ents strV (ctsM N)) (ctsM N).length::.st (sl a k L)::Γ) (fun i N=>i≤L.length∧N=(L.take i).foldl (addS t) M) (fun i _=>L.length - i) 0 M ⟨Nat.zero_le _,rfl⟩ iI ?_
 rintro i N ⟨hi,hN⟩
 have hnd:=Xcp t (L.take i) hn
 rw [← hN] at hnd
 refine wz11 ?_
 refine JC.test (fun hlt=>?_) (fun hge=>?_)
 ·have hlt':i < L.length:=by omega
  have hnx:(L.take (i+1)).foldl (addS t) M=addS t ((L.take i).foldl (addS t) M) L[i]:=by rw [List.take_succ_eq_append_getElem hlt',List.foldl_append]; rfl
  rw [← hN] at hnx
  obtain ⟨c,hc⟩:∃ c,c=L[i]:=⟨_,rfl⟩
  rw [← hc] at hnx
  refine wz14 ?_
  refine Xg9 rfl hlt' ?_
  intro b3 o3
  rw [← hc]
  (repeat (refine wE ?_; intro _)); refine wA ?_
  refine Wf (Xa7 (M:=ctsM N) (v:=.int .i64 (getI N c.key)) c.key (by rw [Xh4]; exact hnd) (Xk9 _ _)) rfl ?_
  refine wz6 ?_
  refine Wf X5r rfl ?_
  refine wz13 ?_
  refine Wf Xcs rfl ?_
  refine wz13 ?_
  refine Xb5 (M:=ctsM N) (k:=c.key) (.inl rfl) (by rw [Xh4]; exact hnd) ?_
  rw [X2p]
  have e:updI N c.key (IntKind.i64.wrap (getI N c.key+IntKind.i64.wrap (t * c.n)))=(L.take (i+1)).foldl (addS t) M:=hnx.symm
  rw [e]
  refine wz2 ?_
  exact ⟨i+1,_,⟨by omega,rfl⟩,by omega,iI⟩
 ·obtain rfl:i=L.length:=by omega
  rw [List.take_length] at hN
  rw [← hN]
  refine wz3 ?_
  exact Xd0 () rfl (fun w ho=>ho)
end
def Xz0:Go.Shelf.Ren:=⟨fun | 6=>147 | 14=>220 | 15=>122 | 20=>270 | 21=>271 | 22=>272 | 23=>273 | 24=>274 | 25=>275 | 26=>276 | 27=>277 | 28=>189 | 29=>190 | 46=>310 | 47=>243 | 48=>244 | 49=>311 | 50=>312 | 57=>327 | n=>n,fun | 22=>29 | 24=>72 | 25=>189 | 39=>175 | 45=>225 | 46=>226 | 50=>230 | 53=>195 | 55=>192 | 66=>274 | 70=>278 | 76=>317 | 77=>318 | n=>n,fun | n=>n⟩
open Go.Shelf Go.Proofs in
theorem X8g:SlLaysF0.n6 prog Xz0 where
 mixed:=by kernel_rfl
 f6:=⟨ "slices.SortFunc[[]anabranch/api.ID,anabranch/api.ID]", by decide,func147.trans (congrArg some (by kernel_rfl))⟩
 f14:=⟨ "slices.pdqsortCmpFunc[anabranch/api.ID]", by decide,func220.trans (congrArg some (by kernel_rfl))⟩
 f15:=func122.trans (congrArg some (by kernel_rfl))
 f20:=⟨ "slices.insertionSortCmpFunc[anabranch/api.ID]", by decide,func270.trans (congrArg some (by kernel_rfl))⟩
 f21:=⟨ "slices.heapSortCmpFunc[anabranch/api.ID]", by decide,func271.trans (congrArg some (by kernel_rfl))⟩
 f22:=⟨ "slices.breakPatternsCmpFunc[anabranch/api.ID]", by decide,func272.trans (congrArg some (by kernel_rfl))⟩
 f23:=⟨ "slices.choosePivotCmpFunc[anabranch/api.ID]", by decide,func273.trans (congrArg some (by kernel_rfl))⟩
 f24:=⟨ "slices.reverseRangeCmpFunc[anabranch/api.ID]", by decide,func274.trans (congrArg some (by kernel_rfl))⟩
 f25:=⟨ "slices.partialInsertionSortCmpFunc[anabranch/api.ID]", by decide,func275.trans (congrArg some (by kernel_rfl))⟩
 f26:=⟨ "slices.partitionEqualCmpFunc[anabranch/api.ID]", by decide,func276.trans (congrArg some (by kernel_rfl))⟩
 f27:=⟨ "slices.partitionCmpFunc[anabranch/api.ID]", by decide,func277.trans (congrArg some (by kernel_rfl))⟩
 f28:=func189.trans (congrArg some (by kernel_rfl))
 f29:=func190.trans (congrArg some (by kernel_rfl))
 f46:=⟨ "slices.siftDownCmpFunc[anabranch/api.ID]", by decide,func310.trans (congrArg some (by kernel_rfl))⟩
 f47:=func243.trans (congrArg some (by kernel_rfl))
 f48:=func244.trans (congrArg some (by kernel_rfl))
 f49:=⟨ "slices.medianAdjacentCmpFunc[anabranch/api.ID]", by decide,func311.trans (congrArg some (by kernel_rfl))⟩
 f50:=⟨ "slices.medianCmpFunc[anabranch/api.ID]", by decide,func312.trans (congrArg some (by kernel_rfl))⟩
 f57:=⟨ "slices.order2CmpFunc[anabranch/api.ID]", by decide,func327.trans (congrArg some (by kernel_rfl))⟩
 t0:=underlying0
 a0:=Tryz.isAgg0
 z0:=Tryz.sizeOf0
 v0:=Tryz.zeroValue0
 t3:=underlying3
 a3:=Tryz.isAgg3
 z3:=Tryz.sizeOf3
 v3:=Tryz.zeroValue3
 t4:=underlying4
 a4:=Tryz.isAgg4
 z4:=Tryz.sizeOf4
 v4:=Tryz.zeroValue4
 t5:=underlying5
 a5:=Tryz.isAgg5
 z5:=Tryz.sizeOf5
 v5:=Tryz.zeroValue5
 t9:=underlying9
 a9:=Tryz.isAgg9
 z9:=Tryz.sizeOf9
 v9:=Tryz.zeroValue9
 t22:=underlying29
 a22:=Tryz.isAgg29
 z22:=Tryz.sizeOf29
 v22:=Tryz.zeroValue29
 t25:=underlying189
 a25:=Tryz.isAgg189
 z25:=Tryz.sizeOf189
 v25:=Tryz.zeroValue189
 t39:=underlying175
 a39:=Tryz.isAgg175
 z39:=Tryz.sizeOf175
 v39:=Tryz.zeroValue175
 t45:=underlying225
 a45:=Tryz.isAgg225
 z45:=Tryz.sizeOf225
 v45:=Tryz.zeroValue225
 t46:=underlying226
 a46:=Tryz.isAgg226
 z46:=Tryz.sizeOf226
 v46:=Tryz.zeroValue226
 t50:=underlying230
 a50:=Tryz.isAgg230
 z50:=Tryz.sizeOf230
 v50:=Tryz.zeroValue230
 t53:=underlying195
 a53:=Tryz.isAgg195
 z53:=Tryz.sizeOf195
 v53:=Tryz.zeroValue195
 t55:=underlying192
 a55:=Tryz.isAgg192
 z55:=Tryz.sizeOf192
 v55:=Tryz.zeroValue192
 t66:=underlying274
 a66:=Tryz.isAgg274
 z66:=Tryz.sizeOf274
 v66:=Tryz.zeroValue274
 t70:=underlying278
 a70:=Tryz.isAgg278
 z70:=Tryz.sizeOf278
 v70:=Tryz.zeroValue278
 t76:=underlying317
 a76:=Tryz.isAgg317
 z76:=Tryz.sizeOf317
 v76:=Tryz.zeroValue317
 t77:=underlying318
 a77:=Tryz.isAgg318
 z77:=Tryz.sizeOf318
 v77:=Tryz.zeroValue318
section
attribute [local irreducible] JC JO JR JQ andThen inBlock OpV Gives Xah JM JS
section
attribute [local irreducible] ents
def Xe7 (L:List ID):List ID:=L.foldl addK []
theorem Xmp (L S:List ID) (h:S.Nodup):(L.foldl addK S).Nodup:=by
 induction L generalizing S with
 | nil=>exact h
 | cons a L ih=>exact ih _ (Xcz h a)
theorem Xpr (L S:List ID) (x:ID):x∈L.foldl addK S↔x∈S∨x∈L:=by
 induction L generalizing S with
 | nil=>simp
 | cons a L ih=>rw [List.foldl_cons,ih,Xe6]; simp [or_assoc]
theorem Xcw (L:List ID):(Xe7 L).Nodup:=Xmp L [] List.nodup_nil
theorem Xgp (L:List ID) (x:ID):x∈Xe7 L↔x∈L:=by simp [Xe7,Xpr]
theorem Xue:Xe7 []=[]:=rfl
theorem Xqo (L:List ID) (x:ID):Xe7 (L++[x])=addK (Xe7 L) x:=by simp [Xe7]
theorem Xh5 (L:List ID):(Xe7 L).length≤L.length:=by
 have:∀ (L S:List ID),(L.foldl addK S).length≤S.length+L.length:=by
  intro L
  induction L with
  | nil=>simp
  | cons a L ih =>
   intro S
   have h1:=ih (addK S a)
   have h2:(addK S a).length≤S.length+1:=by unfold addK; split <;> simp
   simp only [List.foldl_cons,List.length_cons]; omega
 simpa [Xe7] using this L []
theorem X8h (a:Option Addr) (c:Nat) (L:List ID) (h:(sl a c L).holds F w) :
  Gives prog 90 [.slice a L.length c] w F (fun b:Nat=>.map (some b)) (fun b=>[.omap b (ents idV (sety (Xe7 L))) (Xe7 L).length]):=by
 have hL:L.length < 9223372036854775807:=by have:=h.2.2.1; simp only [lim] at this; omega
 refine Xaa func90 rfl ntmps90 rfl rfl [.st (sl a c L)] (.start1 h) ?_
 refine wz10 ?_
 refine Xk0 idV rfl ?_
 intro m
 refine wz4 ?_
 refine Xao (fun k:Nat=>[(3, .map (some m)),(7, .slice a L.length c),(8, .int .i64 (L.length:Int)),(9, .int .i64 (k:Int))])
  (fun k=>[.omap m (ents idV (sety (Xe7 (L.take k)))) (Xe7 (L.take k)).length, .st (sl a c L)])
  (fun k=>k≤L.length) (fun k=>L.length - k) 0 (Nat.zero_le _) (by simp only [List.take_zero,Xue]; exact iI) ?_
 intro k hk
 refine wz11 ?_
 refine JC.test (fun hlt=>?_) (fun hge=>?_)
 ·have hlt':k < L.length:=by omega
  refine wz14 ?_
  refine Xcf rfl hlt' ?_
  intro b o
  (repeat (refine wE ?_; intro _)); refine wA ?_
  refine Xj0 L[k] (Xcw _) ?_
  refine wz2 ?_
  refine ⟨k+1,by omega,by omega,?_⟩
  rw [List.take_succ_eq_append_getElem hlt',Xqo]
  exact iI
 ·refine wz3 ?_
  refine CT.done m rfl (fun w ho=>?_)
  rw [List.take_of_length_le (by omega)] at ho
  exact ho.ent
theorem X9m:Go.Sort.SWO (Go.Proofs.ltOf Xrt) where
 irrefl x:=Xn2 x
 trans x y z h1 h2:=Xql h1 h2
 ntrans x y z h1 h2:=Xk5 h2 h1
theorem Xuf {w0 w:World} {F:Nat→Prop} {Γ:List Fact} {a:Option Addr} {c el:Nat} {L:List ID} (ho:Hold w0 F (.res (buf a c el L)::Γ) w) :
  Calls prog 147 ⟨[.slice a L.length c, .func (.func 148) ⟨[]⟩ ⟨[]⟩]⟩ w fun x w'=>∃ y:Unit,x = .returned (.tuple ⟨[]⟩)∧Hold w0 F (.res (buf a c el (Xdf L))::Γ) w':=by
 refine X2n ho (fun p cap w=>Go.Proofs.AnyF.slices_SortFunc_none X8g p cap _ w) (fun b cap d hH hb hs=>?_)
 exact Go.Proofs.AnyQ.slices_SortFunc_total X8g 32 Tryz.isAgg72 Tryz.sizeOf72 idc Xce (fun x=>One.ok (cs:=idc x)) Xrt X9m 148 #[] b 0 cap d w
  (Body.ok (P:=prog) (f:=148)) (fun m os dk _ x y=>X9j (Go.Proofs.sortWorldK idc 32 w b 0 m dk os) x y) hH hb hs (fun x y h1 h2=>Xk4 h1 h2)
theorem Xda {S:List Nat} {n:Nat} (h:S.Nodup) (hlt:∀ i∈S,i < n):S.length≤n:=by
 have hp:((List.range n).filter (fun i=>decide (i∈S))).Perm S:=by
  refine (List.perm_ext_iff_of_nodup (List.nodup_range.filter _) h).2 fun i=>?_
  simp only [List.mem_filter,List.mem_range,decide_eq_true_eq]
  exact ⟨fun h=>h.2,fun hi=>⟨hlt i hi,hi⟩⟩
 have:=List.length_filter_le (fun i=>decide (i∈S)) (List.range n)
 rw [hp.length_eq] at this
 simpa using this
theorem Xlb {S:List Nat} {n:Nat} (h:S.Nodup) (hlt:∀ i∈S,i < n) (hall:∀ i,i < n→i∈S):S.Perm (List.range n):=by
 refine (List.perm_ext_iff_of_nodup h List.nodup_range).2 fun i=>?_
 rw [List.mem_range]
 exact ⟨hlt i,hall i⟩
theorem Xoh (L:List ID):(List.range L.length).filterMap (L[·]?)=L:=by
 induction L with
 | nil=>rfl
 | cons a L ih =>
  rw [List.length_cons,List.range_succ_eq_map,List.filterMap_cons]
  simp only [List.getElem?_cons_zero,List.filterMap_map]
  congr 1
theorem Xyk (b:Nat) (L:List ID) (hnd:L.Nodup) (hl:L.length≤34359738368) (h:(rmap b (ents idV (sety L)) L.length).holds F w) :
  GivesBuf prog 91 [.map (some b)] w F 72 (Xdf L):=by
 refine Xaa func91 rfl ntmps91 rfl rfl [.st (rmap b (ents idV (sety L)) L.length)] (.start1 h) ?_
 refine JC.buf_nil (α:=ID) 72 ?_
 refine wz10 ?_
 refine Xns rfl ?_
 intro r
 refine wz4 ?_
 refine Xdw (fun (S:List Nat) (out:List ID) p q=>[(3, .slice p out.length q),(6, .pointer (some ⟨r,0,none⟩))])
  (fun S out p q=>[.res (buf p q 72 out), .obj r (.mapIter (some b) L.length S.toArray L.length), .st (rmap b (ents idV (sety L)) L.length)])
  (fun S out p q=>S.Nodup∧(∀ i∈S,i < L.length)∧out=S.filterMap (L[·]?)∧out.length=S.length) (fun S _ _ _=>L.length - S.length) [] [] none 0 ⟨List.nodup_nil,by simp,rfl,rfl⟩ iI ?_
 intro S out p q ⟨hS1,hS2,hout,hlen⟩
 have hSl:S.length≤L.length:=Xda hS1 hS2
 refine wz14 ?_
 refine Xro rfl hS2 (fun hall=>?_) (fun j hj hjS=>?_)
 ·refine wA ?_
  refine Xal (v:=fun _:Unit=>.tuple ⟨[]⟩) rfl (fun w1 hw=>Xuf hw) ?_
  intro _
  refine wz10 ?_
  have hp:out.Perm L:=by
   rw [hout]
   have h2:=(Xlb hS1 hS2 hall).filterMap (L[·]?)
   rwa [Xoh] at h2
  refine CT.done (p,q) ?_ (fun w ho=>?_)
  ·simp only [Xad,hp.length_eq,Xhz]
  ·rw [← Xzs hp]; exact ho.ent
 ·refine wA ?_
  refine Wf (Xk1 hj) rfl ?_
  (repeat (refine wE ?_; intro _)); refine wA ?_
  have hlt:S.length < L.length:=by
   have:=Xda (S:=S++[j]) (n:=L.length) (List.nodup_append.2 ⟨hS1,by simp,fun x hx y hy=>by simp at hy; subst hy; exact fun e=>hjS (e ▸ hx)⟩) (fun i hi=>by
    rcases List.mem_append.1 hi with hi | hi
    ·exact hS2 i hi
    ·simp at hi; subst hi; exact hj)
   simp at this; omega
  refine Xay rfl (by exact ⟨rfl,rfl,by decide⟩) (by omega) ?_
  intro a2 c2
  refine wz2 ?_
  refine ⟨S++[j],out++[L[j]],a2,c2,⟨List.nodup_append.2 ⟨hS1,by simp,fun x hx y hy=>by simp at hy; subst hy; exact fun e=>hjS (e ▸ hx)⟩,fun i hi=>?_,?_,by simp [hlen]⟩,by simp; omega,iI⟩
  ·rcases List.mem_append.1 hi with hi | hi
   ·exact hS2 i hi
   ·simp at hi; subst hi; exact hj
  ·simp [hout,hj]
def Xe1 (b:List ID) (want:Bool) (a:List ID):List ID:=a.filter (fun x=>decide (x∈b) == want)
theorem Xwx (b:List ID) (want:Bool):Xe1 b want []=[]:=rfl
theorem Xl7 (b:List ID) (want:Bool) (L:List ID) (j:Nat) (h:j < L.length):Xe1 b want (L.take (j+1))=if decide (L[j]∈b)=want then Xe1 b want (L.take j)++[L[j]] else Xe1 b want (L.take j):=by
 rw [List.take_succ_eq_append_getElem h]
 simp only [Xe1,List.filter_append,List.filter_cons,List.filter_nil,beq_iff_eq]
 split <;> simp
theorem Xps (b:List ID) (want:Bool) (L:List ID):(Xe1 b want L).length≤L.length:=List.length_filter_le _ _
def Xb3 (a b:List ID) (want:Bool):List ID:=Xdf (Xe7 (Xe1 b want a))
theorem Xyl (a b:Option Addr) (c k:Nat) (L M:List ID) (want:Bool) (h:(sl a c L).holds F w) (h':(sl b k M).holds F w) (hl:L.length≤34359738368) :
  GivesBuf prog 157 [.slice a L.length c, .slice b M.length k, .bool want] w F 72 (Xb3 L M want):=by
 refine Xaa func157 rfl ntmps157 rfl rfl [.st (sl a c L), .st (sl b k M)] (.start2 h h') ?_
 refine wz10 ?_
 refine JR.call1 rfl (fun w1 hw=>X8h w1 _ b k M hw.get) ?_
 intro m
 refine wz13 ?_
 refine Xk0 idV rfl ?_
 intro u
 refine wz4 ?_
 refine Xao (fun j:Nat=>[(2, .bool want),(7, .map (some m)),(8, .map (some u)),(14, .slice a L.length c),(15, .int .i64 (L.length:Int)),(16, .int .i64 (j:Int))])
  (fun j=>[.omap u (ents idV (sety (Xe7 (Xe1 M want (L.take j))))) (Xe7 (Xe1 M want (L.take j))).length, .omap m (ents idV (sety (Xe7 M))) (Xe7 M).length, .st (sl a c L)])
  (fun j=>j≤L.length) (fun j=>L.length - j) 0 (Nat.zero_le _) (by simp only [List.take_zero,Xwx,Xue]; exact iI) ?_
 intro j hj
 refine wz11 ?_
 refine JC.test (fun hlt=>?_) (fun hge=>?_)
 ·have hlt':j < L.length:=by omega
  refine wz14 ?_
  refine Xcf rfl hlt' ?_
  intro b1 o1
  (repeat (refine wE ?_; intro _)); refine wA ?_
  refine Wf (Xip L[j] (Xcw _)) rfl ?_
  refine wA ?_
  refine JC.test (fun hy=>?_) (fun hn=>?_)
  ·refine wz9 ?_
   refine Xj0 L[j] (Xcw _) ?_
   refine wz2 ?_
   refine ⟨j+1,by omega,by omega,?_⟩
   have:decide (L[j]∈M)=want:=by simpa [Xgp] using hy
   rw [Xl7 M want L j hlt',if_pos this,Xqo]
   exact iI
  ·refine wz2 ?_
   refine ⟨j+1,by omega,by omega,?_⟩
   have:¬ decide (L[j]∈M)=want:=by simpa [Xgp] using hn
   rw [Xl7 M want L j hlt',if_neg this]
   exact iI
 ·refine JC.more (fun w ho=>ho.pubMap) ?_
  refine wz3 ?_
  refine JR.callBuf rfl (fun w1 hw=>Xyk w1 _ u (Xe7 (Xe1 M want (L.take j))) (Xcw _) (Nat.le_trans (Xh5 _) (Nat.le_trans (Xps _ _ _) (Nat.le_trans (List.length_take_le' _ _) hl))) hw.get) ?_
  intro a2 c2
  refine wz10 ?_
  have:L.take j=L:=List.take_of_length_le (by omega)
  rw [this]
  exact CT.done (a2,c2) rfl (fun w ho=>by unfold Xb3; exact ho.ent)
end
theorem Xhh (K:List ByteArray):∃ S:List ByteArray,S.Perm K∧S.Pairwise (fun a b=>Xax b a=false):=by
 refine ⟨K.mergeSort (fun a b=>!Xax b a),List.mergeSort_perm _ _,?_⟩
 have:=List.pairwise_mergeSort (le:=fun a b=>!Xax b a) (fun a b c h1 h2=>?_) (fun a b=>?_) K
 ·exact this.imp fun h=>by simpa using h
 ·simp only [Bool.not_eq_true'] at *
  exact Xn9 h1 h2
 ·simp only [Bool.or_eq_true,Bool.not_eq_true']
  cases h:Xax b a with
  | false=>exact .inl rfl
  | true=>exact .inr (Xfl h)
noncomputable def sortK (K:List ByteArray):List ByteArray:=Classical.choose (Xhh K)
theorem Xfg (K:List ByteArray):(sortK K).Perm K:=(Classical.choose_spec (Xhh K)).1
theorem Xug (K:List ByteArray):(sortK K).Pairwise (fun a b=>Xax b a=false):=(Classical.choose_spec (Xhh K)).2
theorem X59 {K S:List ByteArray} (hp:S.Perm K) (ho:S.Pairwise (fun a b=>Xax b a=false)):S=sortK K:=by
 refine List.Perm.eq_of_pairwise (le:=fun a b=>Xax b a=false) (fun a b _ _ h1 h2=>?_) ho (Xug K) (hp.trans (Xfg K).symm)
 by_cases e:a=b
 ·exact e
 ·rcases Xcu e with h | h
  ·rw [h] at h2; cases h2
  ·rw [h] at h1; cases h1
def one1 (M:Cts) (k:ByteArray):Option Ctr_:=if getI M k≠0 then some ⟨k,getI M k⟩ else none
noncomputable def ctsL (M:Cts):List Ctr_:=(sortK (M.map (·.1))).filterMap (one1 M)
theorem X2q (k:ByteArray) (n:Int) :
  GivesV prog 176 [.string k, .int .i64 n] w F (.tuple ⟨[.agg ⟨[.string k, .int .i64 n]⟩, .bool (decide (n≠0))]⟩):=by
 refine Xaa func176 rfl ntmps176 rfl rfl [] (.start w F) ?_
 (repeat (refine wE ?_; intro _)); refine wA ?_
 refine Wf (OpV.build [.string k, .int .i64 n] (by kernel_rfl)) rfl ?_
 refine wA ?_
 exact Xac () rfl
theorem Xsb:GivesV prog 314 [.slice none 0 0, .int .i64 0, .int .i64 0] w F (.tuple ⟨[]⟩):=by
 refine Xaa func314 rfl ntmps314 rfl rfl [] (.start w F) ?_
 refine wA ?_
 refine Xao (fun (_:Nat)=>[(2, .int .i64 0),(6, .int .i64 1)]) (fun _=>[]) (fun _=>True) (fun _=>0) 0 trivial iI ?_
 rintro _ _
 refine wA ?_
 exact Xd0 () rfl (fun w ho=>ho)
theorem X9n (m:Int):GivesV prog 287 [.slice none 0 0, .int .i64 0, .int .i64 0, .int .i64 m] w F (.tuple ⟨[]⟩):=by
 refine Xaa func287 rfl ntmps287 rfl rfl [] (.start w F) ?_
 refine wz4 ?_
 refine Xao (fun (_:Nat)=>[(0, .slice none 0 0),(1, .int .i64 0),(2, .int .i64 0)]) (fun _=>[]) (fun _=>True) (fun _=>0) 0 trivial iI ?_
 rintro _ _
 refine wA ?_
 refine JR.callV rfl (fun w1 hw=>Xsb w1 _) ?_
 refine wz5 ?_
 exact CT.done () rfl (fun w ho=>ho)
theorem X2r:GivesV prog 236 [.slice none 0 0] w F (.tuple ⟨[]⟩):=by
 refine Xaa func236 rfl ntmps236 rfl rfl [] (.start w F) ?_
 refine wz4 ?_
 refine Wf Xaz rfl ?_
 refine JO.reslot 8 (.int .u64 ((0:Nat):Int)) rfl ?_
 refine wz13 ?_
 refine JR.call (v:=fun y:Int=>.int .i64 y) (B:=fun _=>[]) rfl (fun w1 hw=>Xyj w1 _ 0 (by omega)) ?_
 intro m
 dsimp only [List.nil_append]
 refine wz13 ?_
 refine JR.callV rfl (fun w1 hw=>X9n w1 _ m) ?_
 refine wz10 ?_
 exact Xd0 () rfl (fun w ho=>ho)
theorem Xpt (M:Cts):(List.range (ctsM M).length).filterMap (fun i=>(M[i]?).map (·.1))=M.map (·.1):=by
 rw [Xog]
 induction M with
 | nil=>rfl
 | cons a M ih =>
  rw [List.length_cons,List.range_succ_eq_map,List.filterMap_cons]
  simp only [List.getElem?_cons_zero,Option.map_some,List.filterMap_map,List.map_cons]
  congr 1
theorem Xz1 (b:Nat) (M:Cts) (hn:(M.map (·.1)).Nodup) (hl:M.length≤12) (h:(rmap b (ents strV (ctsM M)) (ctsM M).length).holds F w) :
  GivesBuf prog 175 [.map (some b), .func (.func 176) ⟨[]⟩ ⟨[]⟩] w F 97 (ctsL M):=by
 have hkl:=Xog M
 refine Xaa func175 rfl ntmps175 rfl rfl [.st (rmap b (ents strV (ctsM M)) (ctsM M).length)] (.start1 h) ?_
 refine JC.buf_nil (α:=ByteArray) 9 ?_
 refine wz10 ?_
 refine JR.range (M:=ctsM M) rfl ?_
 intro r
 refine wz4 ?_
 refine Xdw (fun (S:List Nat) (out:List ByteArray) p q=>[(0, .map (some b)),(1, .func (.func 176) ⟨[]⟩ ⟨[]⟩),(5, .slice p out.length q),(13, .pointer (some ⟨r,0,none⟩))])
  (fun S out p q=>[.res (buf p q 9 out), .obj r (.mapIter (some b) (ctsM M).length S.toArray (ctsM M).length), .st (rmap b (ents strV (ctsM M)) (ctsM M).length)])
  (fun S out p q=>S.Nodup∧(∀ i∈S,i < (ctsM M).length)∧out=S.filterMap (fun i=>(M[i]?).map (·.1))∧out.length=S.length∧(out=[]→p=none∧q=0)) (fun S _ _ _=>(ctsM M).length - S.length) [] [] none 0 ⟨List.nodup_nil,by simp,rfl,rfl,fun _=>⟨rfl,rfl⟩⟩ iI ?_
 intro S out p q ⟨hS1,hS2,hout,hlen,hne⟩
 have hSl:S.length≤(ctsM M).length:=Xda hS1 hS2
 refine wz14 ?_
 refine JR.next (M:=ctsM M) rfl hS2 (fun hall=>?_) (fun j hj hjS=>?_)
 ·have hp:out.Perm (M.map (·.1)):=by
   rw [hout]
   have h2:=(Xlb hS1 hS2 hall).filterMap (fun i=>(M[i]?).map (·.1))
   rwa [Xpt] at h2
  have hol:out.length=M.length:=by rw [hp.length_eq,List.length_map]
  repeat (first|refine Wd ?_|refine We rfl ?_|refine Wf (by first|exact Va|exact Vb|exact Vc|exact Vd|exact Ve|exact Vf|exact Vg|exact Vh|exact Vi|exact Vj|exact Vk (by omega)|exact Vl|exact Vm|exact Vn|exact Vo|exact Vp|exact Vq|exact Vr|exact Vs (by omega)|exact Vt (by omega)|exact Vu (by omega)|exact Vv (by omega)|exact Vw|exact Vx|exact Vy|exact Vz|exact VA|exact VB|exact VC|exact VD|exact VE|exact VF) rfl ?_|(refine Wg rfl ?_; intro _)|(refine Wh rfl ?_; intro _)|refine Wi ?_|refine Wv rfl rfl ?_)
  repeat (first|refine Wa ?_|refine Wb ?_|refine Wj ?_|refine Wk ?_|refine Wl ?_|refine Wm ?_|refine Wn ?_|refine Wo ?_|refine Wp ?_|refine Wq rfl ?_|refine Wr ?_)
  refine Xdz (fun p2:Option Addr × Nat=>[(0, .map (some b)),(1, .func (.func 176) ⟨[]⟩ ⟨[]⟩),(5, .slice p2.1 (sortK (M.map (·.1))).length p2.2)])
   (fun p2=>[.st (sl p2.1 p2.2 (sortK (M.map (·.1)))), .st (rmap b (ents strV (ctsM M)) (ctsM M).length)]) ?_ ?_
  ·by_cases h0:out=[]
   ·obtain ⟨rfl,rfl⟩:=hne h0
    subst h0
    have hS0:sortK (M.map (·.1))=[]:=((Xfg _).trans hp.symm).eq_nil
    rw [hS0]
    refine wz14 ?_
    refine JR.callV rfl (fun w1 hw=>X2r w1 _) ?_
    refine JO.more (fun w1 ho=>ho.add (A:=sl (α:=ByteArray) none 0 []) Xan) ?_
    refine wz10 ?_
    exact ⟨rfl,(none,0),iI⟩
   ·refine Xwl h0 (fun b0 junk e1 e2 e3 e4=>?_)
    subst e1
    refine wz14 ?_
    refine Xal (v:=fun _=>.tuple ⟨[]⟩) (B:=fun T:Xep out=>.own b0 9 (T.1.map strV++junk)::.obj r (.mapIter (some b) (ctsM M).length S.toArray (ctsM M).length)::.st (rmap b (ents strV (ctsM M)) (ctsM M).length)::[]) rfl (fun w1 hw=>X58 (by omega) hw) ?_
    intro T
    have eT:T.1=sortK (M.map (·.1)):=X59 (T.2.1.trans hp) T.2.2
    have eL:out.length=(sortK (M.map (·.1))).length:=by rw [← eT,T.2.1.length_eq]
    refine JO.more (fun w1 ho=>ho.pubStrs (k:=q) (by rw [T.2.1.length_eq]; exact e2) e3 (by rw [T.2.1.length_eq]; exact e4)) ?_
    rw [eT]
    refine JO.reslot 5 (.slice (some ⟨b0,0,none⟩) (sortK (M.map (·.1))).length q) (by rw [eL]) ?_
    refine wz10 ?_
    exact ⟨rfl,(some ⟨b0,0,none⟩,q),iI⟩
  rintro ⟨p2,q2⟩
  dsimp only
  generalize hK:sortK (M.map (·.1))=K
  have hKl:K.length≤12:=by rw [← hK,(Xfg _).length_eq,List.length_map]; exact hl
  have hgoal:ctsL M=K.filterMap (one1 M):=by rw [ctsL,hK]
  rw [hgoal]
  have hnM:((ctsM M).map (·.1)).Nodup:=by rw [Xh4]; exact hn
  refine wz4 ?_
  refine JC.buf_nil (α:=Ctr_) 97 ?_
  refine Xdw (fun (i:Nat) (o2:List Ctr_) p3 q3=>[(0, .map (some b)),(1, .func (.func 176) ⟨[]⟩ ⟨[]⟩),(7, .slice p3 o2.length q3),(24, .slice p2 K.length q2),(25, .int .i64 (K.length:Int)),(26, .int .i64 (i:Int))])
   (fun i o2 p3 q3=>[.res (buf p3 q3 97 o2), .st (sl p2 q2 K), .st (rmap b (ents strV (ctsM M)) (ctsM M).length)])
   (fun i o2 _ _=>i≤K.length∧o2=(K.take i).filterMap (one1 M)∧o2.length≤i) (fun i _ _ _=>K.length - i) 0 [] none 0 ⟨Nat.zero_le _,by simp,by simp⟩ iI ?_
  rintro i o2 p3 q3 ⟨hi,ho2,hol2⟩
  refine wz11 ?_
  refine JC.test (fun hlt=>?_) (fun hge=>?_)
  ·have hlt':i < K.length:=by omega
   have hnx:(K.take (i+1)).filterMap (one1 M)=o2++(one1 M K[i]).toList:=by rw [List.take_succ_eq_append_getElem hlt',List.filterMap_append,ho2]; simp [List.filterMap_cons]; cases one1 M K[i] <;> rfl
   obtain ⟨key,hkey⟩:∃ key,key=K[i]:=⟨_,rfl⟩
   rw [← hkey] at hnx
   refine wz14 ?_
   refine JR.indexStr rfl hlt' ?_
   intro b3 o3
   rw [← hkey]
   refine wz9 ?_
   refine Wf (Xa7 (M:=ctsM M) (v:=.int .i64 (getI M key)) key hnM (Xk9 _ _)) rfl ?_
   refine wz13 ?_
   refine JR.callV rfl (fun w1 hw=>X2q w1 _ key (getI M key)) ?_
   (repeat (refine wE ?_; intro _)); refine wA ?_
   refine JC.test (fun hx=>?_) (fun hx=>?_)
   ·have e1:one1 M key=some ⟨key,getI M key⟩:=if_pos hx
    rw [e1] at hnx
    (repeat (refine wE ?_; intro _)); refine wA ?_
    refine Xay (u:=(⟨key,getI M key⟩:Ctr_)) rfl (by exact ⟨rfl,rfl,by decide⟩) (by omega) ?_
    intro p4 q4
    refine wz2 ?_
    exact ⟨i+1,o2++[⟨key,getI M key⟩],p4,q4,⟨by omega,hnx.symm,by simp; omega⟩,by omega,iI⟩
   ·have e1:one1 M key=none:=if_neg hx
    rw [e1] at hnx
    refine wz2 ?_
    exact ⟨i+1,o2,p3,q3,⟨by omega,by rw [hnx]; simp,by omega⟩,by omega,iI⟩
  ·obtain rfl:i=K.length:=by omega
   rw [List.take_length] at ho2
   rw [← ho2]
   refine wz3 ?_
   exact Xac (p3,q3) rfl
 ·have hjM:j < M.length:=by omega
  have hkj:(ctsM M)[j].1=M[j].1:=by simp [ctsM]
  refine wA ?_
  refine Wf (OpV.entry (M:=ctsM M) hj) rfl ?_
  (repeat (refine wE ?_; intro _)); refine wA ?_
  have hlt:S.length < (ctsM M).length:=by
   have:=Xda (S:=S++[j]) (n:=(ctsM M).length) (List.nodup_append.2 ⟨hS1,by simp,fun x hx y hy=>by simp at hy; subst hy; exact fun e=>hjS (e ▸ hx)⟩) (fun i hi=>by
    rcases List.mem_append.1 hi with hi | hi
    ·exact hS2 i hi
    ·simp at hi; subst hi; exact hj)
   simp at this; omega
  refine Xay (u:=(ctsM M)[j].1) rfl (by exact ⟨rfl,rfl,by decide⟩) (by omega) ?_
  intro a2 c2
  refine wz2 ?_
  refine ⟨S++[j],out++[(ctsM M)[j].1],a2,c2,⟨List.nodup_append.2 ⟨hS1,by simp,fun x hx y hy=>by simp at hy; subst hy; exact fun e=>hjS (e ▸ hx)⟩,fun i hi=>?_,?_,by simp [hlen],by simp⟩,by simp; omega,iI⟩
  ·rcases List.mem_append.1 hi with hi | hi
   ·exact hS2 i hi
   ·simp at hi; subst hi; exact hj
  ·rw [hkj,hout,List.filterMap_append]; simp [hjM]
theorem Xuh (b:Nat) (M:Cts) (hn:(M.map (·.1)).Nodup) (hl:M.length≤12) (h:(rmap b (ents strV (ctsM M)) (ctsM M).length).holds F w) :
  GivesBuf prog 111 [.map (some b)] w F 97 (ctsL M):=by
 refine Xaa func111 rfl ntmps111 rfl rfl [.st (rmap b (ents strV (ctsM M)) (ctsM M).length)] (.start1 h) ?_
 refine wz10 ?_
 refine JR.callBuf rfl (fun w1 hw=>Xz1 w1 _ b M hn hl hw.get) ?_
 intro p q
 refine wz10 ?_
 exact Xac (p,q) rfl
theorem X2s (M:Cts) (k:ByteArray) (v:Int):(updI M k v).length≤M.length+1:=by
 unfold updI
 split
 ·rw [List.length_modify]; omega
 ·rw [List.length_append,List.length_singleton]; exact Nat.le_refl _
theorem X2t (t:Int):∀ (L:List Ctr_) (M:Cts),(L.foldl (addS t) M).length≤M.length+L.length
 | [],M=>by simp
 | c::L,M=>by
  have h1:=X2t t L (addS t M c)
  have h2:=X2s M c.key (IntKind.i64.wrap (getI M c.key+IntKind.i64.wrap (t * c.n)))
  have h3:addS t M c=updI M c.key (IntKind.i64.wrap (getI M c.key+IntKind.i64.wrap (t * c.n))):=rfl
  rw [List.foldl_cons,List.length_cons]
  rw [h3] at h1 ⊢
  omega
noncomputable def incT (L:List Ctr_) (key:ByteArray) (n:Int):List Ctr_ :=
 if Xdp L && Xdh key then ctsL (updI (L.foldl (addS 1) []) key (IntKind.i64.wrap (getI (L.foldl (addS 1) []) key+n))) else []
theorem X9o (a:Option Addr) (k:Nat) (L:List Ctr_) (key:ByteArray) (n:Int) (h:(sl a k L).holds F w) (hs:∀ c∈L,c.key.size < 4611686018427387904) (hk:key.size < 4611686018427387904) (hl:L.length≤11) :
  GivesBuf prog 49 [.slice a L.length k, .string key, .int .i64 n] w F 97 (incT L key n):=by
 refine Xaa func49 rfl ntmps49 rfl rfl [.st (sl a k L)] (.start1 h) ?_
 refine wz10 ?_
 refine JR.callV rfl (fun w1 hw=>Xn6 w1 _ a k L hw.get hs) ?_
 cases hm:Xdp L with
 | false =>
  have e:incT L key n=[]:=if_neg (by rw [hm]; exact Bool.false_ne_true)
  rw [e]
  refine wz8 ?_
  exact CT.done (none,0) rfl (fun w ho=>ho.bufNil)
 | true =>
 refine wz7 ?_
 refine JR.callV rfl (fun w1 hw=>Xe0 w1 _ key hk) ?_
 cases hko:Xdh key with
 | false =>
  have e:incT L key n=[]:=if_neg (by rw [hm,hko]; exact Bool.false_ne_true)
  rw [e]
  refine wz8 ?_
  exact CT.done (none,0) rfl (fun w ho=>ho.bufNil)
 | true =>
 have e:incT L key n=ctsL (updI (L.foldl (addS 1) []) key (IntKind.i64.wrap (getI (L.foldl (addS 1) []) key+n))):=if_pos (by rw [hm,hko]; rfl)
 rw [e]
 refine wz7 ?_
 refine JR.makeMap strV rfl ?_
 intro b
 refine wz10 ?_
 refine Xal (v:=fun _:Unit=>.tuple ⟨[]⟩) (B:=fun _=>.omap b (ents strV (ctsM (L.foldl (addS 1) []))) (ctsM (L.foldl (addS 1) [])).length::.st (sl a k L)::[]) rfl (fun w1 hw=>Xm5 [] 1 L a k (by simp) (by omega) hw) ?_
 rintro ⟨⟩
 have hN:=Xcp 1 L (M:=[]) (by simp)
 have hNl:=X2t 1 L []
 generalize L.foldl (addS 1) []=N at hN hNl
 rw [List.length_nil] at hNl
 refine wz10 ?_
 refine Wf (Xa7 (M:=ctsM N) (v:=.int .i64 (getI N key)) key (by rw [Xh4]; exact hN) (Xk9 _ _)) rfl ?_
 refine wz6 ?_
 refine Wf Xcs rfl ?_
 refine wz13 ?_
 refine Xb5 (M:=ctsM N) (k:=key) (.inl rfl) (by rw [Xh4]; exact hN) ?_
 rw [X2p]
 have hU:=Xla hN key (IntKind.i64.wrap (getI N key+n))
 have hUl:=X2s N key (IntKind.i64.wrap (getI N key+n))
 generalize updI N key (IntKind.i64.wrap (getI N key+n))=U at hU hUl
 refine JO.more (fun w1 ho=>ho.pubMap) ?_
 refine wz10 ?_
 refine JR.callBuf rfl (fun w1 hw=>Xuh w1 _ b U hU (by omega) hw.get) ?_
 intro p q
 refine wz10 ?_
 exact Xac (p,q) rfl
theorem Xdb (t:Int) {K:List ByteArray}:∀ (L:List Ctr_) {M:Cts},(∀ k∈M.map (·.1),k∈K)→(∀ c∈L,c.key∈K)→∀ k∈(L.foldl (addS t) M).map (·.1),k∈K
 | [],_,h,_=>h
 | c::L,M,h,hL=>by
  rw [List.foldl_cons]
  refine Xdb t L (fun k hk=>?_) (fun x hx=>hL x (List.mem_cons_of_mem _ hx))
  unfold addS at hk
  rw [Xkb,Xe6] at hk
  rcases hk with hk | rfl
  ·exact h k hk
  ·exact hL c (List.mem_cons_self ..)
theorem Xui {S K:List ByteArray} (hn:S.Nodup) (h:∀ k∈S,k∈K):S.length≤K.length:=by
 induction S generalizing K with
 | nil=>exact Nat.zero_le _
 | cons a S ih =>
  rw [List.nodup_cons] at hn
  have ha:=h a (List.mem_cons_self ..)
  have h1:=ih (K:=K.filter (fun k=>decide (k≠a))) hn.2 (fun k hk=>List.mem_filter.2 ⟨h k (List.mem_cons_of_mem _ hk),decide_eq_true (by rintro rfl; exact hn.1 hk)⟩)
  have h2:(K.filter (fun k=>decide (k≠a))).length < K.length:=List.length_filter_lt_length_iff_exists.2 ⟨a,ha,by simp⟩
  rw [List.length_cons]; omega
noncomputable def mergeT (base a b:List Ctr_):List Ctr_ :=
 if Xdp base && Xdp a && Xdp b then ctsL (base.foldl (addS (-1)) (b.foldl (addS 1) (a.foldl (addS 1) []))) else []
theorem X2u (p1 p2 p3:Option Addr) (k1 k2 k3:Nat) (base L N:List Ctr_) (K:List ByteArray) (h1:(sl p1 k1 base).holds F w) (h2:(sl p2 k2 L).holds F w) (h3:(sl p3 k3 N).holds F w)
  (hK:K.length≤12) (hb:∀ c∈base,c.key∈K) (hL:∀ c∈L,c.key∈K) (hN:∀ c∈N,c.key∈K) (hs:∀ k∈K,k.size < 4611686018427387904) :
  GivesBuf prog 231 [.slice p1 base.length k1, .slice p2 L.length k2, .slice p3 N.length k3] w F 97 (mergeT base L N):=by
 have l1:base.length < 9223372036854775807:=by have:=h1.2.2.1; simp only [lim] at this; omega
 have l2:L.length < 9223372036854775807:=by have:=h2.2.2.1; simp only [lim] at this; omega
 have l3:N.length < 9223372036854775807:=by have:=h3.2.2.1; simp only [lim] at this; omega
 refine Xaa func231 rfl ntmps231 rfl rfl [.st (sl p1 k1 base), .st (sl p2 k2 L), .st (sl p3 k3 N)] (.start3 h1 h2 h3) ?_
 refine wz10 ?_
 refine JR.callV rfl (fun w1 hw=>Xn6 w1 _ p1 k1 base hw.get (fun c hc=>hs _ (hb c hc))) ?_
 cases m1:Xdp base with
 | false =>
  rw [show mergeT base L N=[] from if_neg (by rw [m1]; exact Bool.false_ne_true)]
  refine wz8 ?_
  exact CT.done (none,0) rfl (fun w ho=>ho.bufNil)
 | true =>
 refine wz7 ?_
 refine JR.callV rfl (fun w1 hw=>Xn6 w1 _ p2 k2 L hw.get (fun c hc=>hs _ (hL c hc))) ?_
 cases m2:Xdp L with
 | false =>
  rw [show mergeT base L N=[] from if_neg (by rw [m1,m2]; exact Bool.false_ne_true)]
  refine wz8 ?_
  exact CT.done (none,0) rfl (fun w ho=>ho.bufNil)
 | true =>
 refine wz7 ?_
 refine JR.callV rfl (fun w1 hw=>Xn6 w1 _ p3 k3 N hw.get (fun c hc=>hs _ (hN c hc))) ?_
 cases m3:Xdp N with
 | false =>
  rw [show mergeT base L N=[] from if_neg (by rw [m1,m2,m3]; exact Bool.false_ne_true)]
  refine wz8 ?_
  exact CT.done (none,0) rfl (fun w ho=>ho.bufNil)
 | true =>
 rw [show mergeT base L N=ctsL (base.foldl (addS (-1)) (N.foldl (addS 1) (L.foldl (addS 1) []))) from if_pos (by rw [m1,m2,m3]; rfl)]
 have n1:=Xcp 1 L (M:=[]) (by simp)
 have n2:=Xcp 1 N n1
 have n3:=Xcp (-1) base n2
 have s3:=Xdb (-1) base (Xdb 1 N (Xdb 1 L (M:=[]) (K:=K) (by simp) hL) hN) hb
 have hl3:=Xui n3 s3
 rw [List.length_map] at hl3
 refine wz7 ?_
 refine JR.makeMap strV rfl ?_
 intro b
 refine wz10 ?_
 refine JR.more (Γ':=.omap b (ents strV (ctsM [])) (ctsM []).length::.st (sl p2 k2 L)::.st (sl p1 k1 base)::.st (sl p3 k3 N)::[]) (fun w1 ho=>(ho.ent:Hold _ _ (.omap b (ents strV ([]:List (ByteArray × Value))) ([]:List (ByteArray × Value)).length::.st (sl p2 k2 L)::.st (sl p1 k1 base)::.st (sl p3 k3 N)::[]) w1)) ?_
 refine Xal (v:=fun _:Unit=>.tuple ⟨[]⟩) (B:=fun _=>.omap b (ents strV (ctsM (L.foldl (addS 1) []))) (ctsM (L.foldl (addS 1) [])).length::.st (sl p2 k2 L)::.st (sl p1 k1 base)::.st (sl p3 k3 N)::[]) rfl (fun w1 hw=>Xm5 [] 1 L p2 k2 (by simp) l2 hw) ?_
 rintro ⟨⟩
 generalize L.foldl (addS 1) []=A at n1 n2 n3 s3 hl3
 refine wz10 ?_
 refine JR.more (Γ':=.omap b (ents strV (ctsM A)) (ctsM A).length::.st (sl p3 k3 N)::.st (sl p1 k1 base)::[]) (fun w1 ho=>ho.ent) ?_
 refine Xal (v:=fun _:Unit=>.tuple ⟨[]⟩) (B:=fun _=>.omap b (ents strV (ctsM (N.foldl (addS 1) A))) (ctsM (N.foldl (addS 1) A)).length::.st (sl p3 k3 N)::.st (sl p1 k1 base)::[]) rfl (fun w1 hw=>Xm5 A 1 N p3 k3 n1 l3 hw) ?_
 rintro ⟨⟩
 generalize N.foldl (addS 1) A=A2 at n2 n3 s3 hl3
 refine wz10 ?_
 refine JR.more (Γ':=.omap b (ents strV (ctsM A2)) (ctsM A2).length::.st (sl p1 k1 base)::[]) (fun w1 ho=>ho.ent) ?_
 refine Xal (v:=fun _:Unit=>.tuple ⟨[]⟩) (B:=fun _=>.omap b (ents strV (ctsM (base.foldl (addS (-1)) A2))) (ctsM (base.foldl (addS (-1)) A2)).length::.st (sl p1 k1 base)::[]) rfl (fun w1 hw=>Xm5 A2 (-1) base p1 k1 n2 l1 hw) ?_
 rintro ⟨⟩
 generalize base.foldl (addS (-1)) A2=A3 at n3 s3 hl3
 refine JO.more (fun w1 ho=>ho.pubMap) ?_
 refine wz10 ?_
 refine JR.callBuf rfl (fun w1 hw=>Xuh w1 _ b A3 n3 (by omega) hw.get) ?_
 intro p q
 refine wz10 ?_
 exact Xac (p,q) rfl
theorem Xfh {L:List Ctr_}:Xdp L=true↔(∀ c∈L,Xdh c.key=true∧c.n≠0)∧L.Pairwise (fun a b=>Xax a.key b.key=true):=by
 unfold Xdp Xjf
 rw [List.all_eq_true]
 constructor
 ·intro h
  have h1:∀ i (hi:i < L.length),Xdh L[i].key=true∧L[i].n≠0:=fun i hi=>by
   have:=h i (List.mem_range.2 hi)
   rw [Xm2 hi] at this
   simp only [Bool.and_eq_true,decide_eq_true_eq] at this
   exact this.1
  have h2:∀ i (hi:i+1 < L.length),Xax L[i].key L[i+1].key=true:=fun i hi=>by
   have:=h (i+1) (List.mem_range.2 hi)
   rw [Xm2 hi] at this
   simp only [Nat.add_sub_cancel,Bool.and_eq_true,Bool.or_eq_true,decide_eq_true_eq] at this
   exact this.2.resolve_left (by omega)
  refine ⟨fun p hp=>?_,List.pairwise_iff_getElem.2 fun i j hi hj hij=>?_⟩
  ·obtain ⟨i,hi,rfl⟩:=List.getElem_of_mem hp; exact h1 i hi
  ·induction j with
   | zero=>omega
   | succ j ih =>
    rcases Nat.lt_or_ge i j with hl | hl
    ·exact Xb8 (ih (by omega) hl) (h2 j hj)
    ·obtain rfl:i=j:=by omega
     exact h2 i hj
 ·rintro ⟨h1,h2⟩ i hi
  have hi':=List.mem_range.1 hi
  have h3:=h1 _ (List.getElem_mem hi')
  rw [Xm2 hi',h3.1,decide_eq_true h3.2,Bool.true_and,Bool.true_and,Bool.or_eq_true,decide_eq_true_eq]
  rcases Nat.eq_zero_or_pos i with e | e
  ·exact .inl e
  ·exact .inr (List.pairwise_iff_getElem.1 h2 (i - 1) i (by omega) hi' (by omega))
theorem Xsc {M:Cts} {c:Ctr_} (h:c∈ctsL M):c.key∈M.map (·.1)∧c.n≠0:=by
 unfold ctsL at h
 obtain ⟨k,hk,ho⟩:=List.mem_filterMap.1 h
 unfold one1 at ho
 split at ho
 ·rename_i hn
  injection ho with ho
  subst ho
  exact ⟨(Xfg _).mem_iff.1 hk,hn⟩
 ·cases ho
theorem X9p {M:Cts} (hn:(M.map (·.1)).Nodup):(ctsL M).Pairwise (fun a b=>Xax a.key b.key=true):=by
 unfold ctsL
 have h2:(sortK (M.map (·.1))).Nodup:=(Xfg _).nodup_iff.2 hn
 have h3:(sortK (M.map (·.1))).Pairwise (fun a b=>Xax a b=true):=(Xug _).imp₂ (fun {a b} hab hne=>by
  rcases Xcu hne with x | x
  ·exact x
  ·rw [x] at hab; cases hab) h2
 rw [List.pairwise_filterMap]
 refine h3.imp fun {a b} hab x hx y hy=>?_
 unfold one1 at hx hy
 split at hx
 ·split at hy
  ·simp only [Option.some.injEq] at hx hy
   subst hx hy
   exact hab
  ·cases hy
 ·cases hx
theorem Xqp {M:Cts} (hn:(M.map (·.1)).Nodup) (hk:∀ k∈M.map (·.1),Xdh k=true):Xdp (ctsL M)=true :=
 Xfh.2 ⟨fun c hc=>⟨hk _ (Xsc hc).1,(Xsc hc).2⟩,X9p hn⟩
theorem X6a {L:List Ctr_} {key:ByteArray} {n:Int} {c:Ctr_} (h:c∈incT L key n):(∃ d∈L,d.key=c.key)∨c.key=key:=by
 unfold incT at h
 split at h
 ·have h1:=(Xsc h).1
  rw [Xkb] at h1
  rcases Xe6.1 h1 with h1 | h1
  ·have h2:=Xdb 1 (K:=L.map (·.key)) L (M:=[]) (by simp) (fun d hd=>List.mem_map.2 ⟨d,hd,rfl⟩) _ h1
   obtain ⟨d,hd,e⟩:=List.mem_map.1 h2
   exact .inl ⟨d,hd,e⟩
  ·exact .inr h1
 ·cases h
theorem X9q (L:List Ctr_) (key:ByteArray) (n:Int):Xdp (incT L key n)=true:=by
 unfold incT
 split
 ·rename_i h
  rw [Bool.and_eq_true] at h
  refine Xqp (Xla (Xcp 1 L (by simp)) _ _) fun k hk=>?_
  rw [Xkb] at hk
  rcases Xe6.1 hk with hk | rfl
  ·have h2:=Xdb 1 (K:=L.map (·.key)) L (M:=[]) (by simp) (fun d hd=>List.mem_map.2 ⟨d,hd,rfl⟩) _ hk
   obtain ⟨d,hd,rfl⟩:=List.mem_map.1 h2
   exact ((Xfh.1 h.1).1 d hd).1
  ·exact h.2
 ·rfl
theorem Xz2 {B L N:List Ctr_} {c:Ctr_} (h:c∈mergeT B L N):∃ d,(d∈B∨d∈L∨d∈N)∧d.key=c.key:=by
 unfold mergeT at h
 split at h
 ·have h1:=(Xsc h).1
  have hs:=Xdb (-1) (K:=(B++(L++N)).map (·.key)) B (Xdb 1 N (Xdb 1 L (M:=[]) (by simp) (fun d hd=>List.mem_map.2 ⟨d,by simp [hd],rfl⟩)) (fun d hd=>List.mem_map.2 ⟨d,by simp [hd],rfl⟩)) (fun d hd=>List.mem_map.2 ⟨d,by simp [hd],rfl⟩) _ h1
  obtain ⟨d,hd,e⟩:=List.mem_map.1 hs
  refine ⟨d,?_,e⟩
  rcases List.mem_append.1 hd with hd | hd
  ·exact .inl hd
  ·exact .inr (List.mem_append.1 hd)
 ·cases h
theorem Xz3 (B L N:List Ctr_):Xdp (mergeT B L N)=true:=by
 by_cases h:(Xdp B && Xdp L && Xdp N)=true
 ·have h0:=h
  simp only [Bool.and_eq_true] at h
  unfold mergeT
  rw [if_pos h0]
  refine Xqp (Xcp (-1) B (Xcp 1 N (Xcp 1 L (by simp)))) fun k hk=>?_
  have hs:=Xdb (-1) (K:=(B++(L++N)).map (·.key)) B (Xdb 1 N (Xdb 1 L (M:=[]) (by simp) (fun d hd=>List.mem_map.2 ⟨d,by simp [hd],rfl⟩)) (fun d hd=>List.mem_map.2 ⟨d,by simp [hd],rfl⟩)) (fun d hd=>List.mem_map.2 ⟨d,by simp [hd],rfl⟩) _ hk
  obtain ⟨d,hd,rfl⟩:=List.mem_map.1 hs
  rcases List.mem_append.1 hd with hd | hd
  ·exact ((Xfh.1 h.1.1).1 d hd).1
  ·rcases List.mem_append.1 hd with hd | hd
   ·exact ((Xfh.1 h.1.2).1 d hd).1
   ·exact ((Xfh.1 h.2).1 d hd).1
 ·unfold mergeT
  rw [if_neg h]; rfl
structure State_ where
 c:List Ctr_
 r:List Reg_
 p:List Pair_
def st0:State_:=⟨[],[],[]⟩
def Xgq (s:State_):Bool:=Xdp s.c && Xd9 s.r && Xb2 s.p
def Xz4 (e:Ev_):Bool:=decide (0≤e.node) && decide (e.node < 8) && decide (0 < e.seq) && decide (e.seq≤1048576)
noncomputable def stDone (s:State_) (o:Op_) (ev:Ev_) (gen:Int):State_ :=
 if o.kind=0 then ⟨incT s.c o.key o.n,s.r,s.p⟩
 else if o.kind=1 then ⟨s.c,Xdi s.r ⟨o.key,o.elem,gen,ev⟩,s.p⟩
 else if o.kind=2 then ⟨s.c,s.r,addP s.p ⟨o.key,o.elem,ev⟩⟩
 else ⟨s.c,s.r,delP s.p o.key o.elem⟩
def doOk (s:State_) (o:Op_) (ev:Ev_) (gen:Int):Bool:=Xgq s && Xc0 o && Xz4 ev && decide (1≤gen)
noncomputable def stDo (s:State_) (o:Op_) (ev:Ev_) (gen:Int):State_ × Int:=if doOk s o ev gen then (stDone s o ev gen,0) else (st0,1)
noncomputable def stMerge (b x y:State_):State_ × Int:=if Xgq b && Xgq x && Xgq y then (⟨mergeT b.c x.c y.c,Xc6 x.r y.r,Xh3 b.p x.p y.p⟩,0) else (st0,1)
theorem X6b (s:State_) (o:Op_) (ev:Ev_) (gen:Int):Xgq (stDo s o ev gen).1=true:=by
 unfold stDo
 split
 ·rename_i h
  simp only [doOk,Bool.and_eq_true] at h
  have hs:=h.1.1.1
  simp only [Xgq,Bool.and_eq_true] at hs
  unfold stDone
  split
  ·simp only [Xgq,X9q,hs,Bool.and_self]
  ·split
   ·simp only [Xgq,Xzw,hs,Bool.and_self]
   ·split
    ·simp only [Xgq,Xwv,hs,Bool.and_self]
    ·simp only [Xgq,Xww,hs,Bool.and_self]
 ·rfl
theorem Xwy (b x y:State_):Xgq (stMerge b x y).1=true:=by
 unfold stMerge
 split
 ·simp only [Xgq,Xz3,Xt8,Xsa,Bool.and_self]
 ·rfl
structure Held (K:List ByteArray) (R:List Reg_) (Q:List Pair_) (s:State_):Prop where
 may:Xgq s=true
 c:∀ c∈s.c,c.key∈K
 r:∀ r∈s.r,r∈R
 p:∀ p∈s.p,p∈Q
theorem X8i (K:List ByteArray) (R:List Reg_) (Q:List Pair_):Held K R Q st0:=⟨rfl,by simp [st0],by simp [st0],by simp [st0]⟩
theorem Held.doS {K:List ByteArray} {R:List Reg_} {Q:List Pair_} {s:State_} (h:Held K R Q s) {o:Op_} {ev:Ev_} {gen:Int} (h1:o.key∈K) (h2:(⟨o.key,o.elem,gen,ev⟩:Reg_)∈R) (h3:(⟨o.key,o.elem,ev⟩:Pair_)∈Q):Held K R Q (stDo s o ev gen).1:=by
 refine ⟨X6b _ _ _ _,?_,?_,?_⟩ <;> unfold stDo <;> split <;> (try (intro x hx; cases hx)) <;> unfold stDone
 ·split
  ·intro x hx
   rcases X6a hx with ⟨d,hd,e⟩ | e
   ·rw [← e]; exact h.c d hd
   ·rw [e]; exact h1
  ·split
   ·exact h.c
   ·split <;> exact h.c
 ·split
  ·exact h.r
  ·split
   ·intro x hx
    simp only [Xdi] at hx
    split at hx
    ·rcases Xj9 _ hx with hx | hx
     ·exact h.r x hx
     ·simp at hx; subst hx; exact h2
    ·cases hx
   ·split <;> exact h.r
 ·split
  ·exact h.p
  ·split
   ·exact h.p
   ·split
    ·intro x hx
     simp only [addP] at hx
     split at hx
     ·rcases Xe6.1 (Xoe.1 hx) with hx | hx
      ·exact h.p x hx
      ·subst hx; exact h3
     ·cases hx
    ·intro x hx
     simp only [delP] at hx
     split at hx
     ·exact h.p x (List.mem_filter.1 hx).1
     ·cases hx
theorem Held.merge {K:List ByteArray} {R:List Reg_} {Q:List Pair_} {b x y:State_} (hb:Held K R Q b) (hx:Held K R Q x) (hy:Held K R Q y):Held K R Q (stMerge b x y).1:=by
 refine ⟨Xwy _ _ _,?_,?_,?_⟩ <;> unfold stMerge <;> split <;> (try (intro z hz; cases hz; done))
 ·intro z hz
  obtain ⟨d,hd,e⟩:=Xz2 hz
  rw [← e]
  rcases hd with hd | hd | hd
  ·exact hb.c d hd
  ·exact hx.c d hd
  ·exact hy.c d hd
 ·intro z hz
  simp only [Xc6] at hz
  split at hz
  ·rcases Xj9 _ hz with hz | hz
   ·exact hx.r z hz
   ·exact hy.r z hz
  ·cases hz
 ·intro z hz
  simp only [Xh3] at hz
  split at hz
  ·rcases List.mem_append.1 (Xof (Xoe.1 hz)) with hz | hz
   ·exact hx.p z hz
   ·exact hy.p z hz
  ·cases hz
theorem Xlc {α:Type} {S K:List α} (hn:S.Nodup) (h:∀ k∈S,k∈K):S.length≤K.length:=hn.length_le_of_subset h
theorem Held.lens {K:List ByteArray} {R:List Reg_} {Q:List Pair_} {s:State_} (h:Held K R Q s):s.c.length≤K.length∧s.r.length≤R.length∧s.p.length≤Q.length:=by
 have hm:=h.may
 simp only [Xgq,Bool.and_eq_true] at hm
 refine ⟨?_,?_,?_⟩
 ·have h1:(s.c.map (·.key)).Nodup:=by
   rw [List.Nodup,List.pairwise_map]
   exact (Xfh.1 hm.1.1).2.imp fun {a b} hab e=>by rw [e,Xdo] at hab; cases hab
  have:=Xui h1 (K:=K) (fun k hk=>by obtain ⟨d,hd,rfl⟩:=List.mem_map.1 hk; exact h.c d hd)
  simpa using this
 ·exact Xlc ((Xoc.1 (Xhe hm.1.2)).imp fun {a b} hab e=>by rw [e,Xdo] at hab; cases hab) h.r
 ·exact Xlc (Xbg hm.2) h.p
end
section
variable {F:Fence} {n:Nat} {P:Program}
theorem Xkc {α:Type} {g:Operand} {ps:Array Tmp} {assign body:Code} {Q:Exit→Act→World→Prop} {a:Act} {w:World}
  (hro:F.round=none) (h1:1≤n) {gf:Nat} {lb:Array Value} (hg:a.eval g = .func (.func gf) #[] lb) (hFg:F.fn gf) (eg:∀ args w,(callFunc gf args).run P w = .ok (.enter gf args) w)
  {encs:α→Array Value} {xs:List α} {bx:Nat} {t:TypeId} {vx:Value}
  (hseq:∀ (l:Nat) (J:List α→World→Prop),(∀ s W v,J s W→Boxed W bx t v→∀ v',J s (W.setCell ⟨bx,0,none⟩ v')) →
   (∀ pre x W v,pre++[x] <+: xs→J pre W→Boxed W bx t v→YieldAt F (n - 1 - 1) P l (encs x) W fun e W'=>e = .returned (.bool true)∧J (pre++[x]) W'∧Boxed W' bx t v) →
   ∀ W,Boxed W bx t vx→J [] W→CallsIn F (n - 1) P gf (#[.func (.yield l) #[] #[]]++lb) W fun e W'=>(∃ v,e = .returned v)∧J xs W')
  (hps:∀ x,(encs x).size=ps.size) (hbx:Boxed w bx t vx)
  (I:List α→World→Prop) (hIp:∀ s W k o o',I s W→w.heap.size≤k→W.heap[k]? = some o→o.isCells=false→I s (W.putObj k o')) (hIa:∀ s W o,I s W→w.heap.size≤W.heap.size→I s (W.alloc o))
  (hIx:∀ s W v,I s W→Boxed W bx t v→∀ v',I s (W.setCell ⟨bx,0,none⟩ v')) (h0:I [] w) (a₁:α→Act)
  (hassign:∀ (l:Nat) (x:α) (W:World) (K:Act→World→Prop),K (a₁ x) W →
   assign.wpIn (F.inRound l) (n - 1 - 1) P (Exit.then K (fun _ _ _=>False)) { tmps:=(ps.zip (encs x)).foldl (fun t (p,v)=>t.setIfInBounds p v) a.tmps,defers:=[] } W)
  (hbody:∀ (l:Nat) (pre:List α) (x:α) (W:World) (v:Value),pre++[x] <+: xs→I pre W→Boxed W bx t v→w.heap.size≤W.heap.size→body.wpIn (F.inRound l) (n - 1 - 1) P (ownPostK (fun _ W'=>Boxed W' bx t v) I (fun _ _ _=>False) (pre++[x]) W) (a₁ x) W)
  (hdone:∀ (D:Nat) (W:World),I xs W→w.heap.size≤D→W.heap[D]? = some (.deferred (some []))→Q .normal { a with defers:={ target:=.collected D,args:=#[] }::a.defers } W) :
  (Code.rangeFunc g ps assign body).wpIn F n P Q a w:=by
 refine wpIn_rangeFunc ?_
 intro fn hfn
 rw [hro]
 obtain ⟨rec,hrec⟩:∃ rec:LoopState→Option Code→Loop,rec=fun st pe=>{ state:=st,pending:=pe,fn,tmps:=a.tmps,params:=ps,assign,body,defers:=w.heap.size }:=⟨_,rfl⟩
 obtain ⟨W1,hW1⟩:∃ W1,(w.alloc (.deferred (some []))).alloc (.loop (rec .ready none))=W1:=⟨_,rfl⟩
 have hL1:W1.heap[w.heap.size+1]? = some (.loop (rec .ready none)):=by
  rw [← hW1]; have:=World.alloc_heap_new (w.alloc (.deferred (some []))) (.loop (rec .ready none)); rwa [World.size_alloc] at this
 have hK1:W1.heap[w.heap.size]? = some (.deferred (some [])):=by
  rw [← hW1]; exact (Below.heap_alloc _ _ _ (by simp)).trans (World.alloc_heap_new w _)
 have hI1:I [] W1:=by rw [← hW1]; exact hIa _ _ _ (hIa _ _ _ h0 (Nat.le_refl _)) (by simp)
 have hbx1:Boxed W1 bx t vx:=by rw [← hW1]; exact (hbx.alloc _).alloc _
 have hblt:bx < w.heap.size:=hbx.lt
 refine ⟨w.heap.size+1,[{ target:=.collected w.heap.size,args:=#[] }],W1,{ target:=.fn (.func gf) lb,args:=#[.func (.yield (w.heap.size+1)) #[] #[]] },W1,gf,
  #[.func (.yield (w.heap.size+1)) #[] #[]]++lb,W1,?_,?_,?_,?_,fun _=>h1,?_⟩
 ·rw [← hW1,hrec]; exact run_enterLoop_outer _ _ _ _ _
 ·simp only [resolve,hg]
  simp [go_sem]
 ·intro f' hf'; simp [Target.leads] at hf'; subst hf'; exact hFg
 ·simp [invoke,go_sem,eg]
 ·have bput:∀ (W:World) (k:Nat) (o o':Obj) (v:Value),Boxed W bx t v→w.heap.size≤k→Boxed (W.putObj k o') bx t v:=fun W k o o' v hb hk=>(World.putObj_heap_other (by omega)).trans hb
  refine (hseq (w.heap.size+1)
   (fun pre W=>I pre W∧W.heap[w.heap.size+1]? = some (.loop (rec .ready none))∧W.heap[w.heap.size]? = some (.deferred (some [])))
   ?_ ?_ W1 hbx1 ⟨hI1,hL1,hK1⟩).mono ?_
  ·rintro s W v ⟨hi,hl,hk⟩ hb v'
   exact ⟨hIx s W v hi hb v',(Below.heap_setCell W ⟨bx,0,none⟩ v' _ (by simp; omega)).trans hl,(Below.heap_setCell W ⟨bx,0,none⟩ v' _ (by simp; omega)).trans hk⟩
  ·rintro pre x W v hpre ⟨hi,hl,hk⟩ hb
   have hlt:w.heap.size+1 < W.heap.size:=(Array.getElem?_eq_some_iff.1 hl).1
   have hy:=run_yield (P:=P) (args:=encs x) hl (by rw [hrec]; exact hps x)
   rw [hrec] at hy
   refine ⟨fn,_,assign,body,hy,roundIn_of_wpIn hfn (hassign _ x W _ ⟨_,run_beginRound hl (by rw [hrec]),?_⟩)⟩
   have hl2:(W.putObj (w.heap.size+1) (.loop { rec .ready none with state:=.busy })).heap[w.heap.size+1]? = some (.loop { rec .ready none with state:=.busy }):=World.putObj_heap_same hlt
   have hk2:(W.putObj (w.heap.size+1) (.loop { rec .ready none with state:=.busy })).heap[w.heap.size]? = some (.deferred (some [])):=(World.putObj_heap_other (by omega)).trans hk
   have hb2:Boxed (W.putObj (w.heap.size+1) (.loop { rec .ready none with state:=.busy })) bx t v:=bput _ _ (.loop (rec .ready none)) _ _ hb (by omega)
   refine wpIn_mono (hbody _ pre x _ v hpre (hIp _ _ _ _ _ hi (by omega) hl rfl) hb2 (by simp; omega)) ?_
   rintro e a3 W3 hp
   cases e with
   | normal =>
    obtain ⟨hk3,hb3,hi3⟩:=hp
    have hl3:=hk3.same _ _ hl2 rfl
    have hend:=run_endRound (P:=P) none hl3
    rw [hrec] at hend
    have hl4:(W3.putObj (w.heap.size+1) (.loop (rec .ready none))).heap[w.heap.size+1]? = some (.loop (rec .ready none)):=World.putObj_heap_same (Array.getElem?_eq_some_iff.1 hl3).1
    refine ⟨_,_,hend,rfl,⟨hIp _ _ _ _ _ hi3 (by omega) hl3 rfl,?_,(World.putObj_heap_other (by omega)).trans (hk3.same _ _ hk2 rfl)⟩,bput _ _ (.loop (rec .ready none)) _ _ hb3 (by omega)⟩
    rw [hrec] at hl4 ⊢
    exact hl4
   | ret=>exact hp.2.elim
   | exit id=>exact hp.2.elim
   | goto t=>exact hp.2.elim
   | panic ch=>exact hp.elim
   | outgrown=>exact hp.elim
  ·rintro e W2 ⟨⟨v,rfl⟩,hi,hl,hk⟩
   exact ⟨none,_,by have:=run_endLoop (P:=P) hl (by rw [hrec]; simp); rw [hrec] at this; exact this,hdone _ _ (hIp _ _ _ _ _ hi (by omega) hl rfl) (Nat.le_refl _) ((World.putObj_heap_other (by omega)).trans hk)⟩
end
section
open Go Go.RowKit Go.Shelf Go.Proofs
attribute [local go_sem] Oper.semAt_some
def numF:Nat→Nat→List UInt8
 | 0,n=>[UInt8.ofNat n]
 | f+1,n=>if 127 < n then (UInt8.ofNat n ||| 128)::numF f (n / 128) else [UInt8.ofNat n]
def numL (n:Nat):List UInt8:=numF 9 n
theorem Xoi:∀ (f n:Nat),(numF f n).length≤f+1
 | 0,_=>by simp [numF]
 | f+1,n=>by
  simp only [numF]
  split
  ·have:=Xoi f (n / 128)
   simp only [List.length_cons]; omega
  ·simp
theorem Xa8 (n:Nat):(numL n).length≤10:=Xoi 9 n
theorem X2v {n:Nat} (h:n≤127):((UInt8.ofNat n).toNat:Int)=(n:Int):=by rw [UInt8.toNat_ofNat']; omega
theorem Xym (n:Nat):((UInt8.ofNat n ||| 128).toNat:Int)=bits BinOp.or IntKind.u8 ((n:Int) % 256) 128:=by
 have h1:((n:Int) % 256)=((n % 256:Nat):Int):=by omega
 have h2:=u8_or_nat (n % 256) 128 (by omega) (by omega)
 rw [h1]
 refine Eq.trans ?_ h2.symm
 rw [UInt8.toNat_or,UInt8.toNat_ofNat']
 rfl
def X8j (W:World) (bx:Nat):Nat:=match W.cell? ⟨bx,0,none⟩ with
 | some (.int _ k)=>k.toNat
 | _=>0
set_option maxRecDepth 100000 in
theorem Xz5 (l bx m:Nat) (hm:m < 18446744073709551616) (t:TypeId) (J:List UInt8→World→Prop)
  (hJ:∀ s W v,J s W→Boxed W bx t v→∀ v',J s (W.setCell ⟨bx,0,none⟩ v'))
  (hY:∀ pre x W v,pre++[x] <+: numL m→J pre W→Boxed W bx t v→YieldAt Fence.wide 2 prog l #[.int .u8 ((x:UInt8).toNat:Int)] W fun e W' =>
   e = .returned (.bool true)∧J (pre++[x]) W'∧Boxed W' bx t v)
  (W:World) (hB:Boxed W bx t (.int .u64 (m:Int))) (h0:J [] W) :
  CallsIn Fence.wide 3 prog 278 #[.func (.yield l) #[] #[], .pointer (some ⟨bx,0,none⟩)] W fun e W'=>(∃ v,e = .returned v)∧J (numL m) W':=by
 refine callsIn_of_wp func278 rfl trivial ?_ rfl
 simp only [ntmps278,List.size_toArray,List.length_cons,List.length_nil,Nat.reduceAdd,Nat.reduceSub,Array.replicate_succ,Array.replicate_zero,List.push_toArray,List.append_toArray,List.nil_append,List.cons_append]
 gi_wp2
 gi_loopw [] (fun wr=>∃ (pre:List UInt8) (f n:Nat),n < 128 ^ (f+1)∧n < 18446744073709551616∧Boxed wr bx t (.int .u64 (n:Int))∧numL m=pre++numF f n∧J pre wr) (fun wr=>X8j wr bx)
 case atStart =>
  exact ⟨[],9,m,by omega,hm,hB,rfl,h0⟩
 case round =>
  obtain ⟨pre,f,n,hf,hn,hB,hL,hJs⟩:=hrel
  have hc:=hB.cell
  have hfz:=hB.frozen
  by_cases h127:127 < n
  ·have hgt:(127:Int) < (n:Int):=by omega
   obtain ⟨fn,tmps,assign,body,hy,hR⟩:=hY pre (UInt8.ofNat n ||| 128) wr _ (by
    cases f with
    | zero=>simp at hf; omega
    | succ f=>exact ⟨numF f (n / 128),by rw [hL,numF,if_pos h127]; simp⟩) hJs hB
   rw [Xym] at hy
   gi_wp2
   refine hR.mono ?_
   rintro e W3 ⟨rfl,hJ3,hB3⟩
   have hc3:=hB3.cell
   have hfz3:=hB3.frozen
   gi_wp2
   have hdiv:((n:Int) / 128)=((n / 128:Nat):Int):=by omega
   go_roundw
   case rel =>
    rw [hdiv]
    cases f with
    | zero=>simp at hf; omega
    | succ f =>
     refine ⟨pre++[UInt8.ofNat n ||| 128],f,n / 128,?_,by omega,hB3.set _,?_,hJ _ _ _ hJ3 hB3 _⟩
     ·rw [Nat.pow_succ] at hf; omega
     ·rw [hL,numF,if_pos h127]; simp
   case measure =>
    rw [hdiv]
    simp only [X8j,(hB3.set _).cell,hc,Int.toNat_natCast]
    omega
  ·have hgt:¬ (127:Int) < (n:Int):=by omega
   have hlast:numF f n=[UInt8.ofNat n]:=by
    cases f with
    | zero=>rfl
    | succ f=>rw [numF,if_neg h127]
   rw [hlast] at hL
   obtain ⟨fn,tmps,assign,body,hy,hR⟩:=hY pre (UInt8.ofNat n) wr _ ⟨[],by rw [hL]; simp⟩ hJs hB
   rw [X2v (by omega)] at hy
   gi_wp2
   refine hR.mono ?_
   rintro e W3 ⟨rfl,hJ3,hB3⟩
   gi_wp2
   go_end0
   rw [hL]
   exact ⟨⟨_,rfl⟩,hJ3⟩
theorem X2w (m:Nat) (w:World) :
  CallsIn Fence.wide 3 prog 222 #[.int .u64 (m:Int)] w fun e w'=>e = .returned (.func (.func 278) #[] #[.pointer (some ⟨w.heap.size,0,none⟩)])∧w'=w.alloc (.cells #[.int .u64 (m:Int)] 192):=by
 refine callsIn_of_wp func222 rfl trivial ?_ rfl
 simp only [ntmps222,List.size_toArray,List.length_cons,List.length_nil,Nat.reduceAdd,Nat.reduceSub,Array.replicate_succ,Array.replicate_zero,List.push_toArray,List.append_toArray,List.nil_append,List.cons_append]
 gi_wp2
 go_ret
 exact ⟨rfl,rfl⟩
theorem X2x:(prog.info? 5).map (fun i=>(i.zero,i.size,i.bytes))=some (some (.int .u8 0),1,1):=by kernel_rfl
set_option maxRecDepth 100000 in
theorem Ybk (m:Nat) (hm:m < 18446744073709551616) (w:World) :
  CallsIn Fence.wide 4 prog 150 #[.int .u64 (m:Int)] w fun e W'=>∃ v,e = .returned v∧W'.ownsRow w.heap.size 5 1 v (numL m).length ((numL m).map Xak)∧Below w.heap.size w W':=by
 obtain ⟨i0,hi,hz0,hz1,hz2⟩:=info_parts X2x
 refine callsIn_of_wp_marks func150 rfl trivial ?_ rfl
 simp only [ntmps150,List.size_toArray,List.length_cons,List.length_nil,Nat.reduceAdd,Nat.reduceSub,Array.replicate_succ,Array.replicate_zero,List.push_toArray,List.append_toArray,List.nil_append,List.cons_append]
 gi_wp2
 refine ⟨trivial,(X2w m _).mono ?_⟩
 rintro e w' ⟨rfl,rfl⟩
 gi_wp2
 obtain ⟨w1,hw1⟩:∃ w1,(w.alloc (.cells #[.slice none 0 0] 47)).alloc (.cells #[.int .u64 (m:Int)] 192)=w1:=⟨_,rfl⟩
 have hsz:w1.heap.size=w.heap.size+2:=by rw [← hw1]; simp
 have bO:Boxed w1 w.heap.size 47 (.slice none 0 0):=by rw [← hw1]; exact (Boxed.new w _ _).alloc _
 have bN:Boxed w1 (w.heap.size+1) 192 (.int .u64 (m:Int)):=by
  rw [← hw1]
  have:=Boxed.new (w.alloc (.cells #[.slice none 0 0] 47)) 192 (.int .u64 (m:Int))
  rwa [World.size_alloc] at this
 have hB0:Below w.heap.size w w1:=by rw [← hw1]; exact ((Below.refl _ w).alloc (Nat.le_refl _) _).alloc (by simp) _
 rw [hw1]
 clear hw1
 refine Xkc rfl (by decide) (gf:=278) (lb:=#[.pointer (some ⟨w.heap.size+1,0,none⟩)]) rfl trivial (enters_of func278 (by kernel_rfl) rfl)
  (encs:=fun x:UInt8=>#[.int .u8 (x.toNat:Int)]) (xs:=numL m) (bx:=w.heap.size+1) (t:=192) (vx:=.int .u64 (m:Int))
  (fun l J hJ hY W hB h0=>Xz5 l _ m hm _ J hJ hY W hB h0) (fun _=>rfl) bN
  (fun pre W=>(∃ v,Boxed W w.heap.size 47 v∧W.ownsRow w.heap.size 5 1 v pre.length (pre.map Xak))∧Below w.heap.size w W)
  ?hIp ?hIa ?hIx ⟨⟨_,bO,World.ownsRow_nil _ _ _ _⟩,hB0⟩
  (fun x=>{ tmps:=#[.int .u64 (m:Int),undef, .slice none 0 0, .pointer (some ⟨w.heap.size,0,none⟩), .int .u8 (x.toNat:Int), .int .u64 (m:Int), .func (.func 278) #[] #[.pointer (some ⟨w.heap.size+1,0,none⟩)], .int .u8 (x.toNat:Int),undef,undef,undef,undef,undef],defers:=[] }) ?assign ?body ?done
 case hIp =>
  rintro s W k o o' ⟨⟨v,hv,hr⟩,hB⟩ hk ho hc
  refine ⟨⟨v,hv.kept (grownBy_putObj' W k o') (fun e=>by injection e; omega),ownsRow_putObj hr o' ho hc⟩,?_⟩
  exact hB.grown (grownBy_putObj' W k o') (by have:=(Array.getElem?_eq_some_iff.1 ho).1; omega) (fun j e=>by cases e; omega)
 case hIa =>
  rintro s W o ⟨⟨v,hv,hr⟩,hB⟩ hk
  exact ⟨⟨v,hv.alloc _,hr.alloc _⟩,hB.alloc (by omega) _⟩
 case hIx =>
  rintro s W u ⟨⟨v,hv,hr⟩,hB⟩ hb u'
  exact ⟨⟨v,hv.kept (grownBy_setCell' W _ u') (fun e=>by injection e; omega),hr.kept (grownBy_setCell' W _ u') (.inr (hb.not_row (by decide) hr).symm)⟩,hB.setCell (p:=⟨w.heap.size+1,0,none⟩) (by simp) _⟩
 case assign =>
  intro l x W K hK
  gi_wp2
  exact hK
 case body =>
  rintro l pre x W u hpre ⟨⟨v,hv,hrow⟩,hB⟩ hbx hW
  have hc:=hv.cell
  have hpl:pre.length≤10:=by
   have h1:=List.IsPrefix.length_le hpre
   have h2:=Xa8 m
   simp at h1
   omega
  gi_wp2_with (gi_at_builtin; refine wpListIn_append_own _ rfl _ _ 47 rfl w.heap.size 5 i0 (.int .u8 0) 1 1 underlying47 hi hz0 hz1 hz2 rfl (by decide) _ _ _ rfl (hrow.alloc _) ⟨W.heap.size,0,none⟩ 1 1 [.int .u8 (x.toNat:Int)] rfl rfl (cell_one_new _ _ _) (by simp [Value.oneCell']) (by simp only [maxLen]; omega) (by omega) (by have:=hB.size; simp; omega) ?_; intro v' w1' hown' hgrow _; obtain ⟨g',cap',rfl⟩:=ownsRow_succ hown'; obtain ⟨hv1,hv2,hr2,hk2,hb2⟩:=hv.appended (by decide) hrow hB.size (Nat.le_refl _) hown' hgrow; have hc1:=hv1.cell; have hf1:=hv1.frozen)
  refine ⟨hk2,?_,⟨_,hv2,by simpa [Xak] using hr2⟩,hB.trans hb2⟩
  have h1:=((hbx.alloc (.cells #[.int .u8 (x.toNat:Int)] 5)).kept hgrow (hbx.not_row (by decide) hrow))
  exact h1.kept (grownBy_setCell' _ _ _) (fun e=>by injection e; omega)
 case done =>
  rintro D W ⟨⟨v,hv,hrow⟩,hB⟩ hD hK
  have hc:=hv.cell
  gi_wp2
  refine ⟨by simp, .inl ⟨_,_,rfl,run_takeDeferred hK,?_⟩⟩
  exact ⟨_,results_tmp rfl _ _ _,v,rfl,ownsRow_putObj hrow _ hK rfl,hB.trans (belowK_b (w:=w) (Nat.le_refl _) W D _ _ (by omega) hK rfl rfl)⟩
end
section
attribute [local irreducible] JC JO JR JQ andThen inBlock OpV Gives Xah JM JS
section
attribute [local irreducible] ents
theorem Xjh (a b:Option Addr) (c k:Nat) (L M:List ID) (h:(sl a c L).holds F w) (h':(sl b k M).holds F w) (hl:L.length≤34359738368) :
  GivesBuf prog 96 [.slice a L.length c, .slice b M.length k] w F 72 (Xb3 L M false):=by
 refine Xaa func96 rfl ntmps96 rfl rfl [.st (sl a c L), .st (sl b k M)] (.start2 h h') ?_
 refine wz10 ?_
 refine JR.callBuf rfl (fun w1 hw=>Xyl w1 _ a b c k L M false hw.get hw.get hl) ?_
 intro a2 c2
 refine wz10 ?_
 exact Xac (a2,c2) rfl
abbrev opV (o:Op_):Value:=.agg ⟨[.int .i64 o.kind, .string o.key, .string o.elem, .int .i64 o.n]⟩
def X6c (P:Program) (fid:FuncId) (p:Op_→Bool):Prop :=
 ∀ (w:World) (G:Nat→Prop) (o:Op_),o.key.size < 4611686018427387904→o.elem.size < 4611686018427387904→GivesV P fid [opV o] w G (.bool (p o))
def Xqq (o:Op_):Bool:=decide (o.n≠0) && decide (-1048576≤o.n) && decide (o.n≤1048576) && decide (o.elem=ByteArray.mk #[])
def Xsd (o:Op_):Bool:=decide (o.n=0) && Xdh o.elem
theorem Ybl:X6c prog 164 Xqq:=by
 intro w F o h1 h2
 refine Xaa func164 rfl ntmps164 rfl rfl [] (.start w F) ?_
 (repeat (refine wE ?_; intro _)); refine wA ?_
 refine JO.test 6 (fun h=>?_) (fun h=>?_)
 ·refine wA ?_
  refine JO.test 11 (fun h=>?_) (fun h=>?_)
  ·refine wA ?_
   refine JO.test 16 (fun h=>?_) (fun h=>?_)
   ·refine wA ?_
    refine Xac () ?_
    simp [Xad,Xqq, *]
   ·refine wz8 ?_
    refine Xac () ?_
    simp [Xad,Xqq, *]
  ·refine wz8 ?_
   refine Xac () ?_
   simp [Xad,Xqq, *]
 ·refine wz8 ?_
  refine Xac () ?_
  simp [Xad,Xqq, *]
theorem Ybm:X6c prog 169 Xsd:=by
 intro w F o h1 h2
 refine Xaa func169 rfl ntmps169 rfl rfl [] (.start w F) ?_
 (repeat (refine wE ?_; intro _)); refine wA ?_
 refine JO.test 6 (fun h=>?_) (fun h=>?_)
 ·refine wz6 ?_
  refine JR.callV rfl (fun w1 hw=>Xe0 w1 _ _ h2) ?_
  refine wz8 ?_
  refine Xac () ?_
  simp [Xad,Xsd, *]
 ·refine wz8 ?_
  refine Xac () ?_
  simp [Xad,Xsd, *]
abbrev fnV (f:FuncId):Value:=.func (.func f) ⟨[]⟩ ⟨[]⟩
abbrev X2y:Value:=.agg ⟨[fnV 164,fnV 165,fnV 166]⟩
abbrev Xyn:Value:=.agg ⟨[fnV 169,fnV 170,fnV 172]⟩
def kindsM:List (Int × Value):=[]++[(0,X2y)]++[(1,Xyn)]++[(2,Xyn)]++[(3,Xyn)]
theorem Xkd:Gives prog 105 [] w F (fun b:Nat=>.map (some b)) (fun b=>[.omap b (ents intV kindsM) kindsM.length]):=by
 refine Xaa func105 rfl ntmps105 rfl rfl [] (.start w F) ?_
 refine wz10 ?_
 refine Wf (OpV.build [fnV 164,fnV 165,fnV 166] (by kernel_rfl)) rfl ?_
 (repeat (refine wE ?_; intro _)); refine wA ?_
 refine Wf (OpV.build [fnV 169,fnV 170,fnV 172] (by kernel_rfl)) rfl ?_
 (repeat (refine wE ?_; intro _)); refine wA ?_
 refine JR.makeMap intV rfl ?_
 intro m
 refine wz6 ?_
 refine JR.insert (0:Int) (by decide) rfl ?_
 refine wz6 ?_
 refine JR.insert (1:Int) (by simp) (by simp [plc]) ?_
 refine wz6 ?_
 refine JR.insert (2:Int) (by simp) (by simp [plc]) ?_
 refine wz6 ?_
 refine JR.insert (3:Int) (by simp) (by simp [plc]) ?_
 refine wz10 ?_
 exact CT.done m rfl (fun w ho=>by unfold kindsM; exact ho.ent)
abbrev Xwz:Value:=.agg ⟨[.nilFunc, .nilFunc, .nilFunc]⟩
theorem Xh6:(kindsM.map (·.1)).Nodup:=by decide
theorem Xw0 (k:Int):(k=0∧(Xbl kindsM k).getD Xwz=X2y∧(Xbl kindsM k).isSome=true)∨((k=1∨k=2∨k=3)∧(Xbl kindsM k).getD Xwz=Xyn∧(Xbl kindsM k).isSome=true) ∨
  ((¬ k=0∧¬ (k=1∨k=2∨k=3))∧(Xbl kindsM k).getD Xwz=Xwz∧(Xbl kindsM k).isSome=false):=by
 by_cases h0:k=0
 ·subst h0; exact .inl ⟨rfl,rfl,rfl⟩
 by_cases h1:k=1
 ·subst h1; exact .inr (.inl ⟨by simp,rfl,rfl⟩)
 by_cases h2:k=2
 ·subst h2; exact .inr (.inl ⟨by simp,rfl,rfl⟩)
 by_cases h3:k=3
 ·subst h3; exact .inr (.inl ⟨by simp,rfl,rfl⟩)
 refine .inr (.inr ⟨⟨h0,by simp [h1,h2,h3]⟩,?_⟩)
 have:Xbl kindsM k=none:=by
  simp [Xbl,kindsM,Ne.symm h0,Ne.symm h1,Ne.symm h2,Ne.symm h3]
 rw [this]; exact ⟨rfl,rfl⟩
structure KindOf (f1:Value) (is:Bool) (o:Op_):Prop where
 no:is=false→Xc0 o=false
 yes:is=true→∃ (fid:FuncId) (_:Body prog fid) (p:Op_→Bool),f1=fnV fid∧X6c prog fid p∧Xc0 o=(Xdh o.key && p o)
theorem Xoj:X6c prog 45 Xc0:=by
 intro w F o hk he
 obtain ⟨f1,f2,f3,is,hone,h1,h2,hK⟩:∃ f1 f2 f3 is,One [f1,f2,f3]∧(Xbl kindsM o.kind).getD Xwz = .agg ⟨[f1,f2,f3]⟩∧(Xbl kindsM o.kind).isSome=is∧KindOf f1 is o:=by
  rcases Xw0 o.kind with ⟨h0,h1,h2⟩ | ⟨h0,h1,h2⟩ | ⟨h0,h1,h2⟩
  ·refine ⟨_,_,_,_,iI,h1,h2,nofun,fun _=>⟨_,iI,_,rfl,Ybl,?_⟩⟩
   simp only [Xc0,h0,if_true,Xqq]; rfl
  ·have h3:¬ o.kind=0:=by omega
   refine ⟨_,_,_,_,iI,h1,h2,nofun,fun _=>⟨_,iI,_,rfl,Ybm,?_⟩⟩
   simp only [Xc0,h3,if_false,h0,if_true,Xsd]
  ·exact ⟨_,_,_,_,iI,h1,h2,fun _=>by simp only [Xc0,h0.1,if_false,h0.2],nofun⟩
 refine Xaa func45 rfl ntmps45 rfl rfl [] (.start w F) ?_
 (repeat (refine wE ?_; intro _)); refine wA ?_
 rename_i bo
 refine Xb1 8 mixed ?_
 refine JM.tv 1 ?_
 refine JM.tv 2 ?_
 refine Xx8 0 7 (by kernel_rfl) rfl rfl rfl rfl rfl rfl rfl rfl (JS.call1 rfl (fun w1 hw=>Xkd w1 _) fun m=>?_) (JS.alloc rfl fun kb=>JM.one 0 (by kernel_rfl) rfl rfl rfl rfl (JS.call1 rfl (fun w1 hw=>Xkd w1 _) fun m=>?_))
 all_goals
  refine JM.take 3 rfl (by kernel_rfl) rfl (Xb6 o.kind Xh6 h1 h2) rfl rfl ?_
  refine JM.tv 4 ?_
  refine JM.tv 5 ?_
 ·refine Xx8 6 7 (by kernel_rfl) rfl rfl rfl rfl rfl rfl rfl rfl (JS.val Vq rfl ?_) (JS.alloc rfl fun kb=>?_)
  ·refine JM.one 7 (by kernel_rfl) rfl rfl rfl rfl (JS.alloc rfl fun kb=>?_)
   refine Xam 8 (by kernel_rfl) rfl rfl rfl (Wi (Wd ⟨rfl,?_⟩))
   refine Xam 9 (by kernel_rfl) rfl rfl rfl (Wf Vb rfl (Wd ⟨rfl,?_⟩))
   refine JM.nil (by kernel_rfl) ?_
   refine Wa ?_
   refine JC.ent (e':=[(1, .pointer (some ⟨bo,0,none⟩)),(3, .pointer (some ⟨kb,0,none⟩)),(4, .bool is)]) (Γ':=[.own kb 152 [f1,f2,f3], .own bo 26 [.int .i64 o.kind, .string o.key, .string o.elem, .int .i64 o.n]]) iI ?_
   cases is with
   | false =>
    refine wz8 ?_
    refine Xac () ?_
    simp only [Xad,hK.no rfl]
   | true =>
    obtain ⟨fid,hbody,p,rfl,hp,hmay⟩:=hK.yes rfl
    refine wz9 ?_
    refine JR.callV rfl (fun w1 hw=>Xe0 w1 _ _ hk) ?_
    refine wz6 ?_
    refine JO.test 18 (fun hy=>?_) (fun hn=>?_)
    ·refine wz6 ?_
     refine JR.callV rfl (fun w1 hw=>hp w1 _ o hk he) ?_
     refine wz8 ?_
     refine Xac () ?_
     simp [Xad,hmay,hy]
    ·refine wz8 ?_
     refine Xac () ?_
     simp [Xad,hmay,hn]
  ·refine Xqa 6 8 (by kernel_rfl) rfl rfl rfl rfl rfl rfl rfl (JS.val Vq rfl ?_) (Wi (Wd ⟨rfl,?_⟩))
   ·refine Xam 8 (by kernel_rfl) rfl rfl rfl (Wi (Wd ⟨rfl,?_⟩))
    refine Xam 9 (by kernel_rfl) rfl rfl rfl (Wf Vb rfl (Wd ⟨rfl,?_⟩))
    refine JM.nil (by kernel_rfl) ?_
    refine Wa ?_
    refine JC.ent (e':=[(1, .pointer (some ⟨bo,0,none⟩)),(3, .pointer (some ⟨kb,0,none⟩)),(4, .bool is)]) (Γ':=[.own kb 152 [f1,f2,f3], .own bo 26 [.int .i64 o.kind, .string o.key, .string o.elem, .int .i64 o.n]]) iI ?_
    cases is with
    | false =>
     refine wz8 ?_
     refine Xac () ?_
     simp only [Xad,hK.no rfl]
    | true =>
     obtain ⟨fid,hbody,p,rfl,hp,hmay⟩:=hK.yes rfl
     refine wz9 ?_
     refine JR.callV rfl (fun w1 hw=>Xe0 w1 _ _ hk) ?_
     refine wz6 ?_
     refine JO.test 18 (fun hy=>?_) (fun hn=>?_)
     ·refine wz6 ?_
      refine JR.callV rfl (fun w1 hw=>hp w1 _ o hk he) ?_
      refine wz8 ?_
      refine Xac () ?_
      simp [Xad,hmay,hy]
     ·refine wz8 ?_
      refine Xac () ?_
      simp [Xad,hmay,hn]
   ·refine JM.one 6 (by kernel_rfl) rfl rfl rfl rfl (JS.val Vq rfl ?_)
    refine Xam 9 (by kernel_rfl) rfl rfl rfl (Wf Vb rfl (Wd ⟨rfl,?_⟩))
    refine JM.nil (by kernel_rfl) ?_
    refine Wa ?_
    refine JC.ent (e':=[(1, .pointer (some ⟨bo,0,none⟩)),(3, .pointer (some ⟨kb,0,none⟩)),(4, .bool is)]) (Γ':=[.own kb 152 [f1,f2,f3], .own bo 26 [.int .i64 o.kind, .string o.key, .string o.elem, .int .i64 o.n]]) iI ?_
    cases is with
    | false =>
     refine wz8 ?_
     refine Xac () ?_
     simp only [Xad,hK.no rfl]
    | true =>
     obtain ⟨fid,hbody,p,rfl,hp,hmay⟩:=hK.yes rfl
     refine wz9 ?_
     refine JR.callV rfl (fun w1 hw=>Xe0 w1 _ _ hk) ?_
     refine wz6 ?_
     refine JO.test 18 (fun hy=>?_) (fun hn=>?_)
     ·refine wz6 ?_
      refine JR.callV rfl (fun w1 hw=>hp w1 _ o hk he) ?_
      refine wz8 ?_
      refine Xac () ?_
      simp [Xad,hmay,hy]
     ·refine wz8 ?_
      refine Xac () ?_
      simp [Xad,hmay,hn]
 ·refine Xqa 6 8 (by kernel_rfl) rfl rfl rfl rfl rfl rfl rfl (JS.val Vq rfl ?_) (Wi (Wd ⟨rfl,?_⟩))
  ·refine Xam 8 (by kernel_rfl) rfl rfl rfl (Wi (Wd ⟨rfl,?_⟩))
   refine Xam 9 (by kernel_rfl) rfl rfl rfl (Wf Vb rfl (Wd ⟨rfl,?_⟩))
   refine JM.nil (by kernel_rfl) ?_
   refine Wa ?_
   refine JC.ent (e':=[(1, .pointer (some ⟨bo,0,none⟩)),(3, .pointer (some ⟨kb,0,none⟩)),(4, .bool is)]) (Γ':=[.own kb 152 [f1,f2,f3], .own bo 26 [.int .i64 o.kind, .string o.key, .string o.elem, .int .i64 o.n]]) iI ?_
   cases is with
   | false =>
    refine wz8 ?_
    refine Xac () ?_
    simp only [Xad,hK.no rfl]
   | true =>
    obtain ⟨fid,hbody,p,rfl,hp,hmay⟩:=hK.yes rfl
    refine wz9 ?_
    refine JR.callV rfl (fun w1 hw=>Xe0 w1 _ _ hk) ?_
    refine wz6 ?_
    refine JO.test 18 (fun hy=>?_) (fun hn=>?_)
    ·refine wz6 ?_
     refine JR.callV rfl (fun w1 hw=>hp w1 _ o hk he) ?_
     refine wz8 ?_
     refine Xac () ?_
     simp [Xad,hmay,hy]
    ·refine wz8 ?_
     refine Xac () ?_
     simp [Xad,hmay,hn]
  ·refine JM.one 6 (by kernel_rfl) rfl rfl rfl rfl (JS.val Vq rfl ?_)
   refine Xam 9 (by kernel_rfl) rfl rfl rfl (Wf Vb rfl (Wd ⟨rfl,?_⟩))
   refine JM.nil (by kernel_rfl) ?_
   refine Wa ?_
   refine JC.ent (e':=[(1, .pointer (some ⟨bo,0,none⟩)),(3, .pointer (some ⟨kb,0,none⟩)),(4, .bool is)]) (Γ':=[.own kb 152 [f1,f2,f3], .own bo 26 [.int .i64 o.kind, .string o.key, .string o.elem, .int .i64 o.n]]) iI ?_
   cases is with
   | false =>
    refine wz8 ?_
    refine Xac () ?_
    simp only [Xad,hK.no rfl]
   | true =>
    obtain ⟨fid,hbody,p,rfl,hp,hmay⟩:=hK.yes rfl
    refine wz9 ?_
    refine JR.callV rfl (fun w1 hw=>Xe0 w1 _ _ hk) ?_
    refine wz6 ?_
    refine JO.test 18 (fun hy=>?_) (fun hn=>?_)
    ·refine wz6 ?_
     refine JR.callV rfl (fun w1 hw=>hp w1 _ o hk he) ?_
     refine wz8 ?_
     refine Xac () ?_
     simp [Xad,hmay,hy]
    ·refine wz8 ?_
     refine Xac () ?_
     simp [Xad,hmay,hn]
end
abbrev Xap (c:Commit) (a:Option Addr) (k:Nat):Value :=
 .agg ⟨[.int .i64 c.ev.node, .int .i64 c.ev.seq, .int .i64 c.gen, .slice a c.parents.length k, .int .i64 c.op.kind, .string c.op.key, .string c.op.elem, .int .i64 c.op.n]⟩
def Xmq (c:Commit):Prop:=c.op.key.size < 4611686018427387904∧c.op.elem.size < 4611686018427387904
theorem Xeh (c:Commit) (a:Option Addr) (k:Nat) (h:(sl a k c.parents).holds F w) (ht:Xmq c) :
  GivesV prog 41 [Xap c a k] w F (.bool (may c)):=by
 have hL:c.parents.length < 9223372036854775807:=by have:=h.2.2.1; simp only [lim] at this; omega
 refine Xaa func41 rfl ntmps41 rfl rfl [.st (sl a k c.parents)] (.start1 h) ?_
 (repeat (refine wE ?_; intro _)); refine wA ?_
 refine JR.callV rfl (fun w1 hw=>Xn4 w1 _ _ _ _) ?_
 refine wz7 ?_
 refine JO.test 11 (fun h1=>?_) (fun h1=>?_)
 ·refine wz8 ?_
  refine Xac () ?_
  simp [Xad,may,h1]
 have h1:inB c.gen 1 1048576=true:=Classical.not_not.1 h1
 refine wz5 ?_
 refine JO.test 15 (fun h2=>?_) (fun h2=>?_)
 ·refine wz8 ?_
  refine Xac () ?_
  have:8 < c.parents.length:=by omega
  simp [Xad,may,this]
 refine wz6 ?_
 refine JR.callV rfl (fun w1 hw=>X2d w1 _ a k _ hw.get) ?_
 refine wz7 ?_
 refine JO.test 21 (fun h3=>?_) (fun h3=>?_)
 ·refine wz8 ?_
  refine Xac () ?_
  simp [Xad,may,h3]
 have h3:Xiy c.parents=true:=Classical.not_not.1 h3
 have h2:¬ 8 < c.parents.length:=by omega
 have e0:(decide ((c.parents.length:Int)=0))=decide (c.parents.length=0):=decide_eq_decide.2 (by omega)
 refine wA ?_
 refine JC.test (fun h4=>?_) (fun h4=>?_)
 ·refine wz9 ?_
  refine Xac () ?_
  rw [e0] at h4
  have:(decide (c.gen=1) != decide (c.parents.length=0))=true:=by rw [bne_iff_ne]; exact h4
  simp only [Xad,may,this,Bool.or_true,if_true]
 have h4:(decide (c.gen=1) != decide (c.parents.length=0))=false:=by
  rw [e0] at h4
  rw [Classical.not_not.1 h4,bne_self_eq_false]
 have hmay:may c=if c.ev.node = -1 then decide (2≤c.parents.length) && decide (c.ev.seq=0) && decide (c.op=op0) else inB c.ev.node 0 7 && inB c.ev.seq 1 1048576 && Xc0 c.op:=by
  simp only [may,h1,h2,h3,h4,decide_false,Bool.not_true,Bool.or_false,Bool.false_eq_true,if_false]
 rw [hmay]
 refine wA ?_
 refine JC.test (fun h5=>?_) (fun h5=>?_)
 ·rw [if_pos h5]
  refine wz10 ?_
  refine JO.test 35 (fun h6=>?_) (fun h6=>?_)
  ·refine wz6 ?_
   refine JO.test 41 (fun h7=>?_) (fun h7=>?_)
   ·refine wz6 ?_
    refine Wf (OpV.build [.int .i64 0, .string .empty, .string .empty, .int .i64 0] (by kernel_rfl)) rfl ?_
    refine wA ?_
    refine Xac () ?_
    have h8:2≤c.parents.length:=by omega
    have e1:(decide (2≤c.parents.length) && decide (c.ev.seq=0) && decide (c.op=op0))=decide (c.op=op0):=by
     rw [decide_eq_true h8,decide_eq_true h7,Bool.true_and,Bool.true_and]
    rw [e1]
    rfl
   ·refine wz8 ?_
    refine Xac () ?_
    simp [Xad,h7]
  ·refine wz8 ?_
   refine Xac () ?_
   have:¬ 2≤c.parents.length:=by omega
   simp [Xad,this]
 ·rw [if_neg h5]
  refine wz1 ?_
  refine JR.callV rfl (fun w1 hw=>Xn4 w1 _ _ _ _) ?_
  refine wz6 ?_
  refine JO.test 51 (fun h6=>?_) (fun h6=>?_)
  ·refine wz6 ?_
   refine JR.callV rfl (fun w1 hw=>Xn4 w1 _ _ _ _) ?_
   refine wz6 ?_
   refine JO.test 57 (fun h7=>?_) (fun h7=>?_)
   ·refine wz6 ?_
    refine JR.callV rfl (fun w1 hw=>Xoj w1 _ c.op ht.1 ht.2) ?_
    refine wz8 ?_
    refine Xac () ?_
    simp [Xad,h6,h7]
   ·refine wz8 ?_
    refine Xac () ?_
    simp [Xad,h7]
  ·refine wz8 ?_
   refine Xac () ?_
   simp [Xad,h6]
theorem Xes (c:Commit) (a:Option Addr) (k:Nat) (h:(sl a k c.parents).holds F w) (ht:Xmq c) :
  GivesV prog 83 [Xap c a k] w F (.bool (merge c)):=by
 refine Xaa func83 rfl ntmps83 rfl rfl [.st (sl a k c.parents)] (.start1 h) ?_
 (repeat (refine wE ?_; intro _)); refine wA ?_
 refine JO.test 7 (fun h1=>?_) (fun h1=>?_)
 ·refine wz6 ?_
  refine JR.callV rfl (fun w1 hw=>Xeh w1 _ c a k hw.get ht) ?_
  refine wz8 ?_
  refine Xac () ?_
  simp [Xad,merge,h1]
 ·refine wz8 ?_
  refine Xac () ?_
  simp [Xad,merge,h1]
theorem Xok (c d:Commit) (a b:Option Addr) (k m:Nat) (h:(sl a k c.parents).holds F w) (h':(sl b m d.parents).holds F w) :
  GivesV prog 143 [Xap c a k,Xap d b m] w F (.bool (decide (c=d))):=by
 have key:∀ (c d:Commit),c=d↔c.ev=d.ev∧c.gen=d.gen∧c.op=d.op∧c.parents=d.parents:=by
  intro c d
  cases c; cases d
  simp only [Commit.mk.injEq]
  constructor
  ·rintro ⟨h1,h2,h3,h4⟩; exact ⟨h1,h2,h4,h3⟩
  ·rintro ⟨h1,h2,h3,h4⟩; exact ⟨h1,h2,h4,h3⟩
 refine Xaa func143 rfl ntmps143 rfl rfl [.st (sl a k c.parents), .st (sl b m d.parents)] (.start2 h h') ?_
 (repeat (refine wE ?_; intro _)); refine wA ?_
 refine JO.test 10 (fun h1=>?_) (fun h1=>?_)
 ·refine wz6 ?_
  refine JO.test 17 (fun h2=>?_) (fun h2=>?_)
  ·refine wA ?_
   refine JO.test 24 (fun h3=>?_) (fun h3=>?_)
   ·refine wz6 ?_
    refine JR.callV rfl (fun w1 hw=>X2a w1 _ a b k m _ _ hw.get hw.get) ?_
    refine wz8 ?_
    refine Xac () ?_
    have h1:c.ev=d.ev:=h1
    have h3:c.op=d.op:=h3
    simp [Xad,key,h1,h2,h3]
   ·refine wz8 ?_
    refine Xac () ?_
    have h3:¬ c.op=d.op:=h3
    simp [Xad,key,h3]
  ·refine wz8 ?_
   refine Xac () ?_
   simp [Xad,key,h2]
 ·refine wz8 ?_
  refine Xac () ?_
  have h1:¬ c.ev=d.ev:=h1
  simp [Xad,key,h1]
def fine (c:Commit):Prop:=Xmq c∧c.parents.length≤34359738368
theorem Xfn (a:Option Addr) (c:Nat) (L:List Commit) (h:(sl a c L).holds F w) (hl:L.length≤34359738368) (hf:∀ x∈L,fine x) :
  GivesBuf prog 193 [.slice a L.length c] w F 31 L:=by
 refine Xaa func193 rfl ntmps193 rfl rfl [.st (sl a c L)] (.start1 h) ?_
 refine JC.buf_nil (α:=Commit) 31 ?_
 refine wz4 ?_
 refine Xdw (fun (k:Nat) (out:List Commit) p q=>[(3, .slice p out.length q),(6, .slice a L.length c),(7, .int .i64 (L.length:Int)),(8, .int .i64 (k:Int))]) (fun (k:Nat) (out:List Commit) p q=>[.st (sl a c L), .res (buf p q 31 out)])
  (fun k out p q=>k≤L.length∧out=L.take k) (fun k _ _ _=>L.length - k) 0 [] none 0 ⟨Nat.zero_le _,rfl⟩ iI ?_
 intro k out p q ⟨hk,hout⟩
 refine wz11 ?_
 refine JC.test (fun hlt=>?_) (fun hge=>?_)
 ·have hlt':k < L.length:=by omega
  refine wz14 ?_
  refine Xaq rfl (by omega) ?_
  intro b o p' q'
  (repeat (refine wE ?_; intro _)); refine wA ?_
  refine JR.callSl rfl (fun w hw=>Xt4 w _ p' q' _ (hw.sat (.st (sl p' q' _)) (by simp)) (hf _ (List.getElem_mem hlt')).2) ?_
  intro a' c'
  (repeat (refine wE ?_; intro _)); refine wA ?_
  refine Xay rfl (by exact ⟨rfl,rfl,by decide⟩) (by subst hout; simp; omega) ?_
  intro a2 c2
  refine wz2 ?_
  exact ⟨k+1,out++[L[k]],a2,c2,⟨by omega,by rw [hout,List.take_succ_eq_append_getElem (by omega)]⟩,by omega,iI⟩
 ·refine wz3 ?_
  obtain rfl:out=L:=by rw [hout,List.take_of_length_le (by omega)]
  exact Xac (p,q) rfl
theorem Yca (w0 w:World) (F:Nat→Prop) (L:List Commit) (c:Commit) (a:Option Addr) (k b:Nat) (h:(sl a k c.parents).holds F w0) (hb:(ro b 0 [.int .i64 c.ev.node, .int .i64 c.ev.seq, .int .i64 c.gen, .slice a c.parents.length k, .int .i64 c.op.kind, .string c.op.key, .string c.op.elem, .int .i64 c.op.n]).holds F w0)
  (hw:Bel w0.heap.size w0 w) :
  Asks prog w L 191 [.pointer (some ⟨b,0,none⟩)] (fun d=>decide (c=d)):=by
 intro w' G x a' q _ hb' hs
 have hbel:=hw.trans (hb'.mono hw.size)
 have h:=(sl a k c.parents).within _ _ h
 have hb:=(ro b 0 [.int .i64 c.ev.node, .int .i64 c.ev.seq, .int .i64 c.gen, .slice a c.parents.length k, .int .i64 c.op.kind, .string c.op.key, .string c.op.elem, .int .i64 c.op.n]).within _ _ hb
 have h1:(sl a k c.parents).holds (fun k=>(F k∧k < w0.heap.size)∨G k) w':=Asn.mono _ _ _ _ (fun k hk=>.inl hk) (Asn.frame _ _ _ _ (fun k hk=>hbel.block k hk.2) h)
 have h2:(ro b 0 [.int .i64 c.ev.node, .int .i64 c.ev.seq, .int .i64 c.gen, .slice a c.parents.length k, .int .i64 c.op.kind, .string c.op.key, .string c.op.elem, .int .i64 c.op.n]).holds (fun k=>(F k∧k < w0.heap.size)∨G k) w':=Asn.mono _ _ _ _ (fun k hk=>.inl hk) (Asn.frame _ _ _ _ (fun k hk=>hbel.block k hk.2) hb)
 have h3:(sl a' q x.parents).holds (fun k=>(F k∧k < w0.heap.size)∨G k) w':=Asn.mono _ _ _ _ (fun k hk=>.inr hk) hs
 show GivesV prog 191 [Xap x a' q, .pointer (some ⟨b,0,none⟩)] w' G (.bool (decide (c=x)))
 refine GivesV.any (F:=fun k=>(F k∧k < w0.heap.size)∨G k) ?_
 refine Xaa func191 rfl ntmps191 rfl rfl [.st (sl a k c.parents), .st (ro b 0 [.int .i64 c.ev.node, .int .i64 c.ev.seq, .int .i64 c.gen, .slice a c.parents.length k, .int .i64 c.op.kind, .string c.op.key, .string c.op.elem, .int .i64 c.op.n]), .st (sl a' q x.parents)] (.start3 h1 h2 h3) ?_
 (repeat (refine wE ?_; intro _)); refine wA ?_
 refine JR.callV rfl (fun w1 hw=>Xok w1 _ c x a a' k q hw.get hw.get) ?_
 refine wz10 ?_
 refine Xac () ?_
 rfl
def Xbt (L:List Commit) (c:Commit):List Commit:=if !may c || merge c || L.any (fun d=>decide (c=d)) then L else (L++[c]).drop (L.length+1 - 8)
theorem X6d (a b:Option Addr) (k m:Nat) (L:List Commit) (c:Commit) (h:(sl a k L).holds F w) (h':(sl b m c.parents).holds F w) (hl:L.length < 34359738368) (hf:∀ x∈L,fine x) (hc:fine c) :
  Xdd prog 130 [.slice a L.length k,Xap c b m] w F (Xbt L c):=by
 have hL:L.length < 9223372036854775800:=by omega
 refine Xaa func130 rfl ntmps130 rfl rfl [.st (sl a k L), .st (sl b m c.parents)] (.start2 h h') ?_
 (repeat (refine wE ?_; intro _)); refine wA ?_
 rename_i bc
 refine JR.pubOwn bc ?_
 refine JR.callV rfl (fun w1 hw=>Xeh w1 _ c b m hw.get hc.1) ?_
 refine wz7 ?_
 refine JO.test 11 (fun h1=>?_) (fun h1=>?_)
 ·have e1:Xbt L c=L:=by simp [Xbt,h1]
  rw [e1]
  refine wz8 ?_
  refine JR.callBuf rfl (fun w1 hw=>Xfn w1 _ a k L hw.get (by omega) hf) ?_
  intro a2 c2
  refine wz9 ?_
  exact CT.done (a2,c2) rfl (fun w ho=>Hold.left (Γ:=[.st (sl a2 c2 L)]) (ho.pub))
 have h1:may c=true:=Classical.not_not.1 h1
 refine wz6 ?_
 refine JR.callV rfl (fun w1 hw=>Xes w1 _ c b m hw.get hc.1) ?_
 refine wz7 ?_
 refine JO.test 15 (fun h2=>?_) (fun h2=>?_)
 ·have e1:Xbt L c=L:=by simp [Xbt,h2]
  rw [e1]
  refine wz8 ?_
  refine JR.callBuf rfl (fun w1 hw=>Xfn w1 _ a k L hw.get (by omega) hf) ?_
  intro a2 c2
  refine wz9 ?_
  exact CT.done (a2,c2) rfl (fun w ho=>Hold.left (Γ:=[.st (sl a2 c2 L)]) (ho.pub))
 have h2:merge c=false:=by simpa using h2
 refine wz6 ?_
 refine JR.callV rfl (fun w1 hw=>Xiz w1 _ a k L hw.get _ _ _ (Yca w1 w1 _ L c b m bc hw.get hw.get (Bel.refl _ _))) ?_
 refine wz7 ?_
 refine JC.test (fun h3=>?_) (fun h3=>?_)
 ·have e1:Xbt L c=L:=by simp only [Xbt,h3,Bool.or_true,if_true]
  rw [e1]
  refine wz14 ?_
  refine JR.callBuf rfl (fun w1 hw=>Xfn w1 _ a k L hw.get (by omega) hf) ?_
  intro a2 c2
  refine wz9 ?_
  exact CT.done (a2,c2) rfl (fun w ho=>Hold.left (Γ:=[.st (sl a2 c2 L)]) (ho.pub))
 have h3:L.any (fun d=>decide (c=d))=false:=Bool.eq_false_iff.2 h3
 have e1:Xbt L c=(L++[c]).drop (L.length+1 - 8):=by simp only [Xbt,h1,h2,h3,Bool.not_true,Bool.or_self,Bool.false_eq_true,if_false]
 rw [e1]
 refine wz14 ?_
 refine JC.more (Γ':=[.st (sl a L.length L), .st (ro bc 0 [.int .i64 c.ev.node, .int .i64 c.ev.seq, .int .i64 c.gen, .slice b c.parents.length m, .int .i64 c.op.kind, .string c.op.key, .string c.op.elem, .int .i64 c.op.n]), .st (sl a k L), .st (sl b m c.parents)]) (fun w1 ho=>?_) ?_
 ·have hs:(sl a k L).holds _ w1:=ho.get
  refine ho.add ?_
  have:=Xgb hs (k:=L.length) (c':=L.length) (Nat.le_refl _) ⟨Nat.le_refl _,hs.1⟩
  rwa [List.take_length] at this
 have hLc:(L++[c]).length < 34359738370:=by simp only [List.length_append,List.length_singleton]; omega
 refine Xb1 11 mixed ?_
 refine JM.tv 0 ?_
 refine JM.tv 1 ?_
 refine JM.tv 2 ?_
 refine JM.tv 3 ?_
 refine JM.tv 4 ?_
 refine JM.take 5 rfl (by kernel_rfl) rfl (Xpq (fun w1 ho=>(Hold.get (A:=sl a k L) ho).1)) rfl rfl ?_
 refine JM.tv 6 ?_
 refine JM.one 7 (by kernel_rfl) rfl rfl rfl rfl (Xtr rfl ⟨rfl,by decide,by decide,by decide⟩ fun lb=>?_)
 refine JM.one 8 (by kernel_rfl) rfl rfl rfl rfl (JS.appendFull (L:=L) (u:=c) rfl (by exact ⟨rfl,rfl,by decide⟩) hl fun a3 c3=>?_)
 refine JM.more (fun w1 ho=>ho.pub) ?_
 refine JM.one 9 (by kernel_rfl) rfl rfl rfl rfl (JS.callBuf rfl (fun w1 hw=>Xfn w1 _ a3 c3 (L++[c]) hw.get (by simp; omega) (by simpa [or_imp,forall_and] using ⟨hf,hc⟩)) fun a4 c4=>?_)
 refine JM.one 10 (by kernel_rfl) rfl rfl rfl rfl (JS.val Vb rfl ?_)
 refine JM.nil (by kernel_rfl) ?_
 refine Wa ?_
 refine JC.more (fun w1 ho=>ho.pub) ?_
 refine wA ?_
 refine Wf OpV.max rfl ?_
 refine JO.reslot 36 (.int .i64 (((L++[c]).length - 8:Nat):Int)) (by congr 1; simp only [List.length_append,List.length_singleton]; omega) ?_
 refine wz13 ?_
 refine Xb4 (L:=L++[c]) (k:=(L++[c]).length - 8) rfl rfl (Nat.sub_le _ _) ?_
 intro a5 c5
 refine wz10 ?_
 have e2:(L++[c]).length - 8=L.length+1 - 8:=by simp
 rw [← e2]
 exact Xac (a5,c5) rfl
theorem Xi8 {w0 w:World} {F:Nat→Prop} {Γ:List Fact} {a:Option Addr} {c:Nat} {L:List Commit} (i:Nat) (hi:i < L.length) (ho:Hold w0 F (.res (buf a c 31 L)::Γ) w) :
  Calls prog 249 ⟨[.slice a L.length c, .int .i64 (i:Int), .int .i64 ((i+1:Nat):Int)]⟩ w fun x w'=>∃ y:Unit,x = .returned (.slice a (L.eraseIdx i).length c)∧Hold w0 F (.res (buf a c 31 (L.eraseIdx i))::Γ) w':=by
 obtain ⟨b,rfl⟩:∃ b,a=some ⟨b,0,none⟩:=by
  obtain ⟨_,q,h1,h2,_⟩:(buf a c 31 L).holds _ w:=ho.sat (.res (buf a c 31 L)) (by simp)
  rcases h2.2 with ⟨hv,hn⟩ | ⟨g,cap,cur,hv,_⟩
  ·omega
  ·injection hv with e1 e2 e3
   exact ⟨g,e1⟩
 obtain ⟨_,_,hlim,_,_,_,hc,_⟩:=Xg6 (ho.sat (.res (buf (some ⟨b,0,none⟩) c 31 L)) (by simp))
 have hL:L.length < 9223372036854775000:=by simp only [lim] at hlim; omega
 have he:L.eraseIdx i=L.take i++L.drop (i+1):=List.eraseIdx_eq_take_drop_succ ..
 have hel:(L.eraseIdx i).length=L.length - 1:=List.length_eraseIdx_of_lt hi
 refine Xa4 func249 rfl ntmps249 rfl rfl _ ho ?_
 refine wz4 ?_
 refine Wf (Xwb (l:=i) (k:=i+1) (q:=L.length) (fun _ _=>⟨by omega,by omega,hc⟩)) rfl ?_
 refine wz4 ?_
 refine JC.test (fun h=>?_) (fun h=>?_)
 ·omega
 refine wz2 ?_
 refine Xb1 6 mixed ?_
 refine JM.tv 0 ?_
 refine JM.tv 1 ?_
 refine JM.take 2 rfl (by kernel_rfl) rfl (Xa6 (k:=i) (fun _ _=>by omega)) rfl rfl ?_
 refine JM.tv 3 ?_
 refine JM.tv 4 ?_
 refine JM.take 5 rfl (by kernel_rfl) rfl (Xbp (l:=i+1) (fun _ _=>⟨by omega,hc⟩)) rfl rfl ?_
 refine Xam 6 (by kernel_rfl) rfl rfl rfl ?_
 refine Xts (L:=L) (j:=i+1) rfl rfl (by omega) (by omega) (fun hm=>by rw [if_neg (by omega)]; rfl) ?_
 refine Wd ⟨rfl,?_⟩
 refine Xam 7 (by kernel_rfl) rfl rfl rfl (Wf Vb rfl (Wd ⟨rfl,?_⟩))
 refine JM.nil (by kernel_rfl) ?_
 refine Wa ?_
 refine JC.reslot 0 (.slice (some ⟨b,0,none⟩) (L.eraseIdx i).length c) (by rw [hel]; congr 1 <;> omega) ?_
 rw [← he]
 refine wz4 ?_
 refine Wf (Xrp (l:=(L.eraseIdx i).length) (k:=L.length) (fun _ _=>⟨by omega,by omega⟩)) rfl ?_
 refine wz13 ?_
 refine JR.clear (b:=b) (c:=c) (L:=L.eraseIdx i) (l:=(L.eraseIdx i).length) (m:=L.length - (L.eraseIdx i).length) (by exact ⟨rfl,rfl⟩) (Nat.le_refl _) (by omega) (fun hm=>by rw [if_neg (by omega)]) ?_
 refine wz10 ?_
 exact CT.done () rfl (fun w ho=>ho)
def Xld (have_:List ID) (c:Commit):Bool:=decide ((Xb3 c.parents have_ false).length=0)
theorem X9r (w0 w:World) (F:Nat→Prop) (H:List ID) (a:Option Addr) (k b:Nat) (h:(sl a k H).holds F w0) (hb:(ro b 0 [.slice a H.length k]).holds F w0) (hw:Bel w0.heap.size w0 w) (L:List Commit) (hL:∀ x∈L,fine x) :
  Asks prog w L 248 [.pointer (some ⟨b,0,none⟩)] (Xld H):=by
 intro w' G x a' q hx hb' hs
 have hxl:=(hL x hx).2
 have hbel:=hw.trans (hb'.mono hw.size)
 have h:=(sl a k H).within _ _ h
 have hb:=(ro b 0 [.slice a H.length k]).within _ _ hb
 have h1:(sl a k H).holds (fun k=>(F k∧k < w0.heap.size)∨G k) w':=Asn.mono _ _ _ _ (fun k hk=>.inl hk) (Asn.frame _ _ _ _ (fun k hk=>hbel.block k hk.2) h)
 have h2:(ro b 0 [.slice a H.length k]).holds (fun k=>(F k∧k < w0.heap.size)∨G k) w':=Asn.mono _ _ _ _ (fun k hk=>.inl hk) (Asn.frame _ _ _ _ (fun k hk=>hbel.block k hk.2) hb)
 have h3:(sl a' q x.parents).holds (fun k=>(F k∧k < w0.heap.size)∨G k) w':=Asn.mono _ _ _ _ (fun k hk=>.inr hk) hs
 show GivesV prog 248 [Xap x a' q, .pointer (some ⟨b,0,none⟩)] w' G (.bool (Xld H x))
 refine GivesV.any (F:=fun k=>(F k∧k < w0.heap.size)∨G k) ?_
 refine Xaa func248 rfl ntmps248 rfl rfl [.st (sl a k H), .st (ro b 0 [.slice a H.length k]), .st (sl a' q x.parents)] (.start3 h1 h2 h3) ?_
 (repeat (refine wE ?_; intro _)); refine wA ?_
 refine JR.callBuf rfl (fun w1 hw=>Xjh w1 _ a' a q k x.parents H hw.get hw.get hxl) ?_
 intro a2 c2
 refine wA ?_
 refine Xac () ?_
 simp only [Xad,Xld]
 congr 1
 exact decide_eq_decide.2 (by omega)
def commit0:Commit:=⟨⟨0,0⟩,0,[],op0⟩
def Xbe (L:List Commit) (H:List ID):Commit × List Commit × Bool :=
 match L.findIdx? (Xld H) with
 | some i=>(L.getD i commit0,L.eraseIdx i,true)
 | none=>(commit0,L,false)
theorem Xz6 (a b:Option Addr) (k m:Nat) (L:List Commit) (H:List ID) (h:(sl a k L).holds F w) (h':(sl b m H).holds F w) (hl:L.length < 34359738368) (hf:∀ x∈L,fine x) :
  Gives prog 194 [.slice a L.length k, .slice b H.length m] w F
   (fun y:(Option Addr × Nat) × (Option Addr × Nat)=>.tuple ⟨[Xap (Xbe L H).1 y.1.1 y.1.2, .slice y.2.1 (Xbe L H).2.1.length y.2.2, .bool (Xbe L H).2.2]⟩)
   (fun y=>[.st (sl y.1.1 y.1.2 (Xbe L H).1.parents), .st (sl y.2.1 y.2.2 (Xbe L H).2.1)]):=by
 have hL:L.length < 9223372036854775800:=by omega
 refine Xaa func194 rfl ntmps194 rfl rfl [.st (sl a k L), .st (sl b m H)] (.start2 h h') ?_
 (repeat (refine wE ?_; intro _)); refine wA ?_
 rename_i bh bc
 refine JR.pubOwn bh ?_
 refine JR.callBuf rfl (fun w1 hw=>Xfn w1 _ a k L hw.get (by omega) hf) ?_
 intro a2 c2
 refine wA ?_
 refine JR.callV rfl (fun w1 hw=>(Xgo w1 (fun _=>True) a2 c2 L hw.bufSlOf _ _ _ (X9r w1 w1 _ H b m bh hw.get hw.get (Bel.refl _ _) L hf)).any) ?_
 refine wz2 ?_
 cases hfi:L.findIdx? (Xld H) with
 | none =>
  have e1:Xbe L H=(commit0,L,false):=by simp [Xbe,hfi]
  rw [e1]
  refine JC.test (fun hlt=>?_) (fun hge=>?_)
  ·refine JC.pub 7 ?_
   intro a3 c3 hv
   injection hv with e1 _ e3
   subst e1 e3
   refine wz14 ?_
   refine Wf (OpV.build [.int .i64 0, .int .i64 0, .int .i64 0, .slice none 0 0, .int .i64 0, .string .empty, .string .empty, .int .i64 0] (by kernel_rfl)) rfl ?_
   refine wz9 ?_
   exact CT.done ((none,0),(a2,c2)) rfl (fun w ho=>(ho.ent:Hold _ _ [.st (sl a2 c2 L)] w).add Xan)
  ·simp [idxV] at hge
 | some i =>
  obtain ⟨hi,_,_⟩:=List.findIdx?_eq_some_iff_getElem.1 hfi
  have e1:Xbe L H=(L[i],L.eraseIdx i,true):=by simp [Xbe,hfi,hi]
  rw [e1]
  refine JC.test (fun hlt=>?_) (fun hge=>?_)
  ·simp only [idxV] at hlt; omega
  have hne:L≠[]:=by intro h; subst h; simp at hi
  refine JC.pure (fun w ho=>Xj1 (ho.sat (.res (buf a2 c2 31 L)) (by simp)) hne) ?_
  rintro ⟨b2,rfl⟩
  refine JC.reslot 8 (.int .i64 (i:Int)) rfl ?_
  refine wz14 ?_
  refine Wf (Xdm hi) rfl ?_
  refine We rfl ?_
  refine Xmj (k:=i) rfl hi rfl ?_
  intro p q
  (repeat (refine wE ?_; intro _)); refine wA ?_
  refine Xb1 5 mixed ?_
  refine JM.tv 1 ?_
  refine JM.tv 2 ?_
  refine JM.tv 3 ?_
  refine JM.take 4 rfl (by kernel_rfl) rfl (Vk (by omega)) rfl rfl ?_
  refine Xqa 0 5 (by kernel_rfl) rfl rfl rfl rfl rfl rfl rfl (JS.val Vc rfl ?_)
   (Xal (v:=fun _:Unit=>.slice (some ⟨b2,0,none⟩) (L.eraseIdx i).length c2) rfl (fun w1 hw=>Xi8 i hi (hw.perm (BufAt.ok (b:=b2)))) fun _=>Wd ⟨rfl,?_⟩)
  ·refine Xam 5 (by kernel_rfl) rfl rfl rfl ?_
   refine Xal (v:=fun _:Unit=>.slice (some ⟨b2,0,none⟩) (L.eraseIdx i).length c2) rfl (fun w1 hw=>Xi8 i hi (hw.perm (BufAt.ok (b:=b2)))) fun _=>Wd ⟨rfl,?_⟩
   refine Xam 6 (by kernel_rfl) rfl rfl rfl (Wi (Wd ⟨rfl,?_⟩))
   refine Xam 7 (by kernel_rfl) rfl rfl rfl (Wf Vb rfl (Wd ⟨rfl,?_⟩))
   refine Xam 8 (by kernel_rfl) rfl rfl rfl (Wf Vb rfl (Wd ⟨rfl,?_⟩))
   refine JM.nil (by kernel_rfl) ?_
   refine Wa ?_
   refine JC.pub 5 ?_
   intro a3 c3 hv
   injection hv with e1 _ e3
   subst e1 e3
   refine wz13 ?_
   exact Xac ((p,q),(some ⟨b2,0,none⟩,c2)) rfl
  ·refine JM.one 0 (by kernel_rfl) rfl rfl rfl rfl (JS.val Vc rfl ?_)
   refine Xam 6 (by kernel_rfl) rfl rfl rfl (Wi (Wd ⟨rfl,?_⟩))
   refine Xam 7 (by kernel_rfl) rfl rfl rfl (Wf Vb rfl (Wd ⟨rfl,?_⟩))
   refine Xam 8 (by kernel_rfl) rfl rfl rfl (Wf Vb rfl (Wd ⟨rfl,?_⟩))
   refine JM.nil (by kernel_rfl) ?_
   refine Wa ?_
   refine JC.pub 5 ?_
   intro a3 c3 hv
   injection hv with e1 _ e3
   subst e1 e3
   refine wz13 ?_
   exact Xac ((p,q),(some ⟨b2,0,none⟩,c2)) rfl
def Xfo (n:Int):Nat:=if 0≤n then (2 * n).toNat else (-2 * n - 1).toNat
theorem X6e (n:Int) (h : -1099511627776≤n∧n≤1099511627776) :
  IntKind.u64.wrap (BitVec.ofInt IntKind.u64.bits (IntKind.u64.wrap (IntKind.u64.wrap n * 2 ^ (min (Int.toNat 1) IntKind.u64.bits))) ^^^ BitVec.ofInt IntKind.u64.bits (IntKind.u64.wrap (n.fdiv (2 ^ (min (Int.toNat 63) IntKind.i64.bits))))).toNat=((Xfo n:Nat):Int):=by
 show IntKind.u64.wrap (BitVec.ofInt 64 (IntKind.u64.wrap (IntKind.u64.wrap n * 2 ^ 1)) ^^^ BitVec.ofInt 64 (IntKind.u64.wrap (n.fdiv 9223372036854775808))).toNat=((Xfo n:Nat):Int)
 have hw:∀ z:Int,IntKind.u64.wrap z=z % 18446744073709551616:=fun z=>by simp [IntKind.wrap,IntKind.bits,IntKind.signed]
 by_cases h0:0≤n
 ·have e1:IntKind.u64.wrap (IntKind.u64.wrap n * 2 ^ 1)=(((2 * n).toNat:Nat):Int):=by rw [hw,hw]; omega
  have e2:n.fdiv 9223372036854775808=0:=by rw [Int.fdiv_eq_ediv_of_nonneg _ (by decide)]; omega
  have e3:IntKind.u64.wrap 0=0:=by rw [hw]; rfl
  rw [e1,e2,e3]
  have e4:(BitVec.ofInt 64 0)=(0#64):=rfl
  rw [e4,BitVec.xor_zero,BitVec.ofInt_natCast,BitVec.toNat_ofNat,hw,Xfo,if_pos h0]
  omega
 ·have e1:IntKind.u64.wrap (IntKind.u64.wrap n * 2 ^ 1)=(((18446744073709551616+2 * n).toNat:Nat):Int):=by rw [hw,hw]; omega
  have e2:n.fdiv 9223372036854775808 = -1:=by rw [Int.fdiv_eq_ediv_of_nonneg _ (by decide)]; omega
  have e3:IntKind.u64.wrap (-1)=18446744073709551615:=by rw [hw]; rfl
  rw [e1,e2,e3]
  have e4:(BitVec.ofInt 64 18446744073709551615)=BitVec.allOnes 64:=rfl
  rw [e4,BitVec.xor_allOnes,BitVec.toNat_not,BitVec.ofInt_natCast,BitVec.toNat_ofNat,hw,Xfo,if_neg h0]
  omega
theorem Xyo (n:Int) (h : -1099511627776≤n∧n≤1099511627776):GivesV prog 151 [.int .i64 n] w F (.int .u64 ((Xfo n:Nat):Int)):=by
 refine Xaa func151 rfl ntmps151 rfl rfl [] (.start w F) ?_
 refine wz10 ?_
 refine Wf Xaz rfl ?_
 refine wz13 ?_
 refine Wf (OpV.shl (by decide)) rfl ?_
 refine wz6 ?_
 refine Wf (OpV.shr (by decide)) rfl ?_
 refine wz13 ?_
 refine Wf Xaz rfl ?_
 refine wz13 ?_
 refine Wf OpV.xor rfl ?_
 refine wz10 ?_
 refine Xac () ?_
 exact congrArg (Value.int .u64) (X6e n h)
def X8k (c a b:UInt32):UInt32:=(c &&& a) ||| (b &&& ~~~ c)
def X8l (a b c:UInt32):UInt32:=((a &&& b) ^^^ (a &&& c)) ^^^ (b &&& c)
def rotR (x:UInt32) (k:Nat):UInt32:=Xtt x k ||| Xqd x (32 - k)
theorem X6f (c a b:UInt32):GivesV prog 228 [w32 c,w32 a,w32 b] w F (w32 (X8k c a b)):=by
 refine Xaa func228 rfl ntmps228 rfl rfl [] (.start w F) ?_
 refine z0z ?_
 exact Xac () rfl
theorem X6g (a b c:UInt32):GivesV prog 229 [w32 a,w32 b,w32 c] w F (w32 (X8l a b c)):=by
 refine Xaa func229 rfl ntmps229 rfl rfl [] (.start w F) ?_
 refine z0z ?_
 exact Xac () rfl
theorem Xh7 (x:UInt32) (k:Nat) (hk:1≤k∧k≤31):GivesV prog 282 [w32 x, .int .i64 (k:Int)] w F (w32 (rotR x k)):=by
 refine Xaa func282 rfl ntmps282 rfl rfl [] (.start w F) ?_
 refine z0z ?_
 refine Wf (Xfc (by rw [Xd8]; omega)) rfl ?_
 refine z0z ?_
 refine Wf (OpV.rem (by decide)) rfl ?_
 refine JO.reslot 8 (.int .u64 (k:Int)) (by congr 1; rw [Int.tmod_eq_emod_of_nonneg (by omega)]; omega) ?_
 refine z0z ?_
 refine Wf (Xnv (k:=k) (by omega)) rfl ?_
 refine z0z ?_
 refine Wf X5q rfl ?_
 refine JO.reslot 14 (.int .u64 ((32 - k:Nat):Int)) (by congr 1; rw [show (32:Int) - (k:Int)=((32 - k:Nat):Int) by omega,Xd8]; omega) ?_
 refine z0z ?_
 refine Wf (Xj2 (k:=32 - k) (by omega)) rfl ?_
 refine z0z ?_
 exact Xac () rfl
def Xz7 (x:UInt32) (i:Nat):UInt8:=UInt8.ofNat (x.toNat / 2 ^ (24 - 8 * i))
def Xke (x:UInt32):List UInt8:=(List.range 4).map (Xz7 x)
def X2z (x:UInt32) (k:Nat):Vec UInt8 4:=⟨(List.range 4).map (fun i=>if i < k then Xz7 x i else 0),by simp⟩
theorem X20 (x:UInt32) (k:Nat) (h:k < 4):(X2z x k).1.set k (Xz7 x k)=(X2z x (k+1)).1:=by
 match k,h with
 | 0,_=>rfl
 | 1,_=>rfl
 | 2,_=>rfl
 | 3,_=>rfl
theorem X6h (x:UInt32):GivesV prog 156 [w32 x] w F (.agg ⟨(Xke x).map Xak⟩):=by
 refine Xaa func156 rfl ntmps156 rfl rfl [] (.start w F) ?_
 (repeat (refine wE ?_; intro _)); refine wA ?_
 rename_i bo
 refine JC.reown bo ((X2z x 0).1.map Xak) rfl ?_
 refine Xao (fun k:Nat=>[(0,w32 x),(2, .pointer (some ⟨bo,0,none⟩)),(4, .int .i64 (k:Int))]) (fun k=>[.own bo 200 ((X2z x k).1.map Xak)])
  (fun k=>k≤4) (fun k=>4 - k) 0 (Nat.zero_le _) iI ?_
 intro k hk
 refine wz11 ?_
 refine JC.test (fun hlt=>?_) (fun hge=>?_)
 ·have hlt':k < 4:=by omega
  refine wz7 ?_
  refine Wf (OpV.mul (by omega)) rfl ?_
  refine We rfl ?_
  refine Wf (Vv (by omega)) rfl ?_
  refine JO.reslot 11 (.int .i64 ((24 - 8 * k:Nat):Int)) (by congr 1 <;> omega) ?_
  refine We rfl ?_
  refine Wf (Xnv (k:=24 - 8 * k) (by omega)) rfl ?_
  refine We rfl ?_
  refine Wf Xaz rfl ?_
  refine JO.reslot 13 (Xak (Xz7 x k)) (congrArg (Value.int .u8) (by
   rw [X89,Xz7,UInt8.toNat_ofNat',Xtt,UInt32.toNat_ofNat',Nat.mod_eq_of_lt (a:=x.toNat / _) (Nat.lt_of_le_of_lt (Nat.div_le_self _ _) x.toNat_lt)])) ?_
  refine We rfl ?_
  refine Wf (Xag hlt') rfl ?_
  refine We rfl ?_
  refine Xhx k (Xz7 x k) (by rw [(X2z x k).2]; exact hlt') (by omega) rfl ?_
  rw [X20 x k hlt']
  refine wz2 ?_
  exact ⟨k+1,by omega,by omega,iI⟩
 ·obtain rfl:k=4:=by omega
  refine wz3 ?_
  exact Xac () rfl
def shaK:List UInt32:=[1116352408,1899447441,3049323471,3921009573,961987163,1508970993,2453635748,2870763221,3624381080,310598401,607225278,1426881987,1925078388,2162078206,2614888103,3248222580,3835390401,4022224774,264347078,604807628,770255983,1249150122,1555081692,1996064986,2554220882,2821834349,2952996808,3210313671,3336571891,3584528711,113926993,338241895,666307205,773529912,1294757372,1396182291,1695183700,1986661051,2177026350,2456956037,2730485921,2820302411,3259730800,3345764771,3516065817,3600352804,4094571909,275423344,430227734,506948616,659060556,883997877,958139571,1322822218,1537002063,1747873779,1955562222,2024104815,2227730452,2361852424,2428436474,2756734187,3204031479,3329325298]
def shaS:List UInt32:=[1779033703,3144134277,1013904242,2773480762,1359893119,2600822924,528734635,1541459225]
theorem X21:GivesV prog 153 [] w F (.agg ⟨shaS.map w32⟩):=by
 refine Xaa func153 rfl ntmps153 rfl rfl [] (.start w F) ?_
 (repeat (refine wE ?_; intro _)); refine wA ?_
 refine Wf (OpV.build [.int .u32 1779033703, .int .u32 3144134277, .int .u32 1013904242, .int .u32 2773480762, .int .u32 1359893119, .int .u32 2600822924, .int .u32 528734635, .int .u32 1541459225] (by kernel_rfl)) rfl ?_
 refine wz9 ?_
 refine Xac () ?_
 exact congrArg (fun l=>Value.agg ⟨l⟩) (show _=shaS.map w32 by kernel_rfl)
set_option maxRecDepth 4000 in
theorem Xse:GivesV prog 225 [] w F (.agg ⟨shaK.map w32⟩):=by
 refine Xaa func225 rfl ntmps225 rfl rfl [] (.start w F) ?_
 (repeat (refine wE ?_; intro _)); refine wA ?_
 refine Wf (OpV.build [.int .u32 1116352408, .int .u32 1899447441, .int .u32 3049323471, .int .u32 3921009573, .int .u32 961987163, .int .u32 1508970993, .int .u32 2453635748, .int .u32 2870763221, .int .u32 3624381080, .int .u32 310598401, .int .u32 607225278, .int .u32 1426881987, .int .u32 1925078388, .int .u32 2162078206, .int .u32 2614888103, .int .u32 3248222580, .int .u32 3835390401, .int .u32 4022224774, .int .u32 264347078, .int .u32 604807628, .int .u32 770255983, .int .u32 1249150122, .int .u32 1555081692, .int .u32 1996064986, .int .u32 2554220882, .int .u32 2821834349, .int .u32 2952996808, .int .u32 3210313671, .int .u32 3336571891, .int .u32 3584528711, .int .u32 113926993, .int .u32 338241895, .int .u32 666307205, .int .u32 773529912, .int .u32 1294757372, .int .u32 1396182291, .int .u32 1695183700, .int .u32 1986661051, .int .u32 2177026350, .int .u32 2456956037, .int .u32 2730485921, .int .u32 2820302411, .int .u32 3259730800, .int .u32 3345764771, .int .u32 3516065817, .int .u32 3600352804, .int .u32 4094571909, .int .u32 275423344, .int .u32 430227734, .int .u32 506948616, .int .u32 659060556, .int .u32 883997877, .int .u32 958139571, .int .u32 1322822218, .int .u32 1537002063, .int .u32 1747873779, .int .u32 1955562222, .int .u32 2024104815, .int .u32 2227730452, .int .u32 2361852424, .int .u32 2428436474, .int .u32 2756734187, .int .u32 3204031479, .int .u32 3329325298] (by kernel_rfl)) rfl ?_
 refine wz9 ?_
 refine Xac () ?_
 exact congrArg (fun l=>Value.agg ⟨l⟩) (show _=shaK.map w32 by kernel_rfl)
def Xw1 (x:UInt32) (a b c:Nat):UInt32:=(rotR x a ^^^ rotR x b) ^^^ Xtt x c
def Xw2 (x:UInt32) (a b c:Nat):UInt32:=(rotR x a ^^^ rotR x b) ^^^ rotR x c
theorem Xuj (x:UInt32) (a b c:Nat) (ha:1≤a∧a≤31) (hb:1≤b∧b≤31) (hc:c≤32):GivesV prog 281 [w32 x, .int .i64 (a:Int), .int .i64 (b:Int), .int .i64 (c:Int)] w F (w32 (Xw1 x a b c)):=by
 refine Xaa func281 rfl ntmps281 rfl rfl [] (.start w F) ?_
 refine z0z ?_
 refine Xbw mixed (by kernel_rfl) ?_
 refine z1z ?_
 refine JQ.call rfl rfl (fun w1 hw=>Xh7 w1 _ x a ha) ?_
 refine z1z ?_
 refine JQ.call rfl rfl (fun w1 hw=>Xh7 w1 _ x b hb) ?_
 refine z1z ?_
 refine Wy rfl (Xnv (k:=c) hc) rfl ?_
 refine z1z ?_
 refine z0z ?_
 exact Xac () rfl
theorem Xuk (x:UInt32) (a b c:Nat) (ha:1≤a∧a≤31) (hb:1≤b∧b≤31) (hc:1≤c∧c≤31):GivesV prog 227 [w32 x, .int .i64 (a:Int), .int .i64 (b:Int), .int .i64 (c:Int)] w F (w32 (Xw2 x a b c)):=by
 refine Xaa func227 rfl ntmps227 rfl rfl [] (.start w F) ?_
 refine z0z ?_
 refine JR.callV rfl (fun w1 hw=>Xh7 w1 _ x a ha) ?_
 refine z0z ?_
 refine JR.callV rfl (fun w1 hw=>Xh7 w1 _ x b hb) ?_
 refine z0z ?_
 refine JR.callV rfl (fun w1 hw=>Xh7 w1 _ x c hc) ?_
 refine z0z ?_
 exact Xac () rfl
def Xz8 (x:UInt64) (i:Nat):UInt8:=UInt8.ofNat (x.toNat / 2 ^ (8 * i))
def Xul (x:UInt64):List UInt8:=(List.range 8).map (fun j=>Xz8 x (7 - j))
def X22 (x:UInt64) (k:Nat):Vec UInt8 8:=⟨(List.range 8).map (fun j=>if 7 - j < k then Xz8 x (7 - j) else 0),by simp⟩
theorem X23 (x:UInt64) (k:Nat) (h:k < 8):(X22 x k).1.set (7 - k) (Xz8 x k)=(X22 x (k+1)).1:=by
 match k,h with
 | 0,_=>rfl
 | 1,_=>rfl
 | 2,_=>rfl
 | 3,_=>rfl
 | 4,_=>rfl
 | 5,_=>rfl
 | 6,_=>rfl
 | 7,_=>rfl
theorem X6i (x:UInt64):GivesV prog 224 [w64 x] w F (.agg ⟨(Xul x).map Xak⟩):=by
 refine Xaa func224 rfl ntmps224 rfl rfl [] (.start w F) ?_
 (repeat (refine wE ?_; intro _)); refine wA ?_
 rename_i bo
 refine JC.reown bo ((X22 x 0).1.map Xak) rfl ?_
 refine Xao (fun k:Nat=>[(0,w64 x),(2, .pointer (some ⟨bo,0,none⟩)),(4, .int .i64 (k:Int))]) (fun k=>[.own bo 254 ((X22 x k).1.map Xak)])
  (fun k=>k≤8) (fun k=>8 - k) 0 (Nat.zero_le _) iI ?_
 intro k hk
 refine wz11 ?_
 refine JC.test (fun hlt=>?_) (fun hge=>?_)
 ·have hlt':k < 8:=by omega
  refine wA ?_
  refine Wf (OpV.mul (by omega)) rfl ?_
  refine JO.reslot 11 (.int .i64 ((8 * k:Nat):Int)) (by congr 1) ?_
  refine JO.reslot 8 (.int .i64 ((7 - k:Nat):Int)) (by congr 1 <;> omega) ?_
  refine We rfl ?_
  refine Wf (X1z (k:=8 * k) (by omega)) rfl ?_
  refine We rfl ?_
  refine Wf Xaz rfl ?_
  refine JO.reslot 13 (Xak (Xz8 x k)) (congrArg (Value.int .u8) (by
   rw [X89,Xz8,UInt8.toNat_ofNat',X1y,UInt64.toNat_ofNat',Nat.mod_eq_of_lt (a:=x.toNat / _) (Nat.lt_of_le_of_lt (Nat.div_le_self _ _) x.toNat_lt)])) ?_
  refine We rfl ?_
  refine Wf (Xag (k:=7 - k) (by omega)) rfl ?_
  refine We rfl ?_
  refine Xhx (7 - k) (Xz8 x k) (by rw [(X22 x k).2]; omega) (by omega) rfl ?_
  rw [X23 x k hlt']
  refine wz2 ?_
  exact ⟨k+1,by omega,by omega,iI⟩
 ·obtain rfl:k=8:=by omega
  refine wz3 ?_
  exact Xac () rfl
def Ycb (a b c d:UInt8):UInt32:=((Xqd a.toUInt32 24 ||| Xqd b.toUInt32 16) ||| Xqd c.toUInt32 8) ||| d.toUInt32
def X24 (L:List UInt8) (k:Nat):UInt32:=Ycb (L.getD k 0) (L.getD (k+1) 0) (L.getD (k+2) 0) (L.getD (k+3) 0)
instance:NatI (24:Int) 24:=⟨rfl⟩
theorem Xsf (b:UInt8):Value.int .u32 (IntKind.u32.wrap (b.toNat:Int))=w32 b.toUInt32:=by
 rw [Xnt,Nat.mod_eq_of_lt (by have:=b.toNat_lt; omega)]; exact congrArg (fun n:Nat=>Value.int .u32 (n:Int)) (UInt8.toNat_toUInt32 b).symm
theorem Ycc (L:List UInt8) (k:Nat) (h:k+4≤L.length):(L.drop k).take (k+4 - k)=[L.getD k 0,L.getD (k+1) 0,L.getD (k+2) 0,L.getD (k+3) 0]:=by
 rw [show k+4 - k=4 by omega]
 apply List.ext_getElem?
 intro i
 rw [List.getElem?_take,List.getElem?_drop]
 match i with
 | 0=>simp [show k < L.length by omega]
 | 1=>simp [show k+1 < L.length by omega]
 | 2=>simp [show k+2 < L.length by omega]
 | 3=>simp [show k+3 < L.length by omega]
 | i+4=>simp; omega
theorem X6j (a:Option Addr) (c:Nat) (L:List UInt8) (k:Nat) (h:(sl a c L).holds F w) (hk:k+4≤L.length) :
  GivesV prog 280 [.slice a L.length c, .int .i64 (k:Int)] w F (.tuple ⟨[w32 (X24 L k), .bool true]⟩):=by
 have hL:L.length < 9223372036854775800:=by have:=h.2.2.1; simp only [lim] at this; omega
 refine Xaa func280 rfl ntmps280 rfl rfl [.st (sl a c L)] (.start1 h) ?_
 refine wA ?_
 refine JC.test (fun h2=>?_) (fun h2=>?_)
 ·omega
 refine wA ?_
 refine Xwc (l:=k) (k:=k+4) rfl rfl ⟨by omega,hk⟩ ?_
 intro a2 c2
 rw [Ycc L k hk]
 refine wz13 ?_
 refine Xwd rfl ⟨rfl,by simp⟩ ?_
 intro b o
 simp only [List.map_cons,List.map_nil]
 repeat (first | refine Wa ?_ | refine Wb ?_ | refine Wc ?_ | refine Wd ?_ | refine We rfl ?_ | refine Wf (by first | exact Va | exact Vb | exact Xbr | exact Xbu | exact Xbq | exact Xat | exact Xar | exact Vc | exact Xag (by decide)) rfl ?_ | refine Ws ?_ | refine Wt ?_)
 (repeat (refine wE ?_; intro _)); refine wA ?_
 rename_i bx
 refine Wf (Xag (by decide)) rfl ?_
 refine JO.reslot 23 (.pointer (some ⟨bx,0,none⟩)) rfl ?_
 refine We rfl ?_
 refine Wf Vc rfl ?_
 refine We rfl ?_
 refine Wf Xaz rfl ?_
 refine JO.reslot 25 (w32 (L.getD k 0).toUInt32) (Xsf _) ?_
 refine We rfl ?_
 refine Wf (Xj2 (k:=24) (by decide)) rfl ?_
 refine We rfl ?_
 refine Wf (Xag (by decide)) rfl ?_
 refine JO.reslot 27 (.pointer (some ⟨bx,1,none⟩)) rfl ?_
 refine We rfl ?_
 refine Wf Vc rfl ?_
 refine We rfl ?_
 refine Wf Xaz rfl ?_
 refine JO.reslot 29 (w32 (L.getD (k+1) 0).toUInt32) (Xsf _) ?_
 refine We rfl ?_
 refine Wf (Xj2 (k:=16) (by decide)) rfl ?_
 refine We rfl ?_
 refine Wf Xbu rfl ?_
 refine We rfl ?_
 refine Wf (Xag (by decide)) rfl ?_
 refine JO.reslot 32 (.pointer (some ⟨bx,2,none⟩)) rfl ?_
 refine We rfl ?_
 refine Wf Vc rfl ?_
 refine We rfl ?_
 refine Wf Xaz rfl ?_
 refine JO.reslot 34 (w32 (L.getD (k+2) 0).toUInt32) (Xsf _) ?_
 refine We rfl ?_
 refine Wf (Xj2 (k:=8) (by decide)) rfl ?_
 refine We rfl ?_
 refine Wf Xbu rfl ?_
 refine We rfl ?_
 refine Wf (Xag (by decide)) rfl ?_
 refine JO.reslot 37 (.pointer (some ⟨bx,3,none⟩)) rfl ?_
 refine We rfl ?_
 refine Wf Vc rfl ?_
 refine We rfl ?_
 refine Wf Xaz rfl ?_
 refine JO.reslot 39 (w32 (L.getD (k+3) 0).toUInt32) (Xsf _) ?_
 refine We rfl ?_
 refine Wf Xbu rfl ?_
 refine wz10 ?_
 exact Xac () rfl
end
section
attribute [local irreducible] JC JO JR JQ andThen inBlock OpV Gives Xah JM JS
def Xz9 (L:List UInt8) (W:List UInt32) (k:Nat):UInt32 :=
 if k < 16 then X24 L (4 * k) else ((W.getD (k - 16) 0+W.getD (k - 7) 0)+Xw1 (W.getD (k - 15) 0) 7 18 3)+Xw1 (W.getD (k - 2) 0) 17 19 10
def Xe2 (L:List UInt8):Nat→List UInt32
 | 0=>List.replicate 64 0
 | k+1=>(Xe2 L k).set k (Xz9 L (Xe2 L k) k)
theorem Xpu (L:List UInt8) (k:Nat):(Xe2 L k).length=64:=by
 induction k with
 | zero=>simp [Xe2]
 | succ k ih=>simp [Xe2,ih]
def Xbs (L:List UInt8) (k:Nat):Vec UInt32 64:=⟨Xe2 L k,Xpu L k⟩
theorem Xum (L:List UInt8):(Xbs L 0).1=List.replicate 64 0:=rfl
theorem Xl8 (L:List UInt8) (k:Nat):(Xbs L (k+1)).1=(Xbs L k).1.set k (Xz9 L (Xbs L k).1 k):=rfl
theorem Xle {W:List UInt32} {k:Nat} (h:k < W.length):W[k]'h=W.getD k 0:=by simp [List.getD_eq_getElem?_getD,h]
attribute [local irreducible] Xe2
theorem X0a (a:Option Addr) (c:Nat) (L:List UInt8) (h:(sl a c L).holds F w) (hL:L.length=64) :
  GivesV prog 226 [.slice a L.length c] w F (.agg ⟨(Xbs L 64).1.map w32⟩):=by
 refine Xaa func226 rfl ntmps226 rfl rfl [.st (sl a c L)] (.start1 h) ?_
 (repeat (refine wE ?_; intro _)); refine wA ?_
 rename_i bo
 refine JC.reown bo ((Xbs L 0).1.map w32) (by rw [Xum,List.map_replicate]; rfl) ?_
 refine Xao (fun k:Nat=>[(0, .slice a L.length c),(2, .pointer (some ⟨bo,0,none⟩)),(4, .int .i64 (k:Int))]) (fun k=>[.own bo 256 ((Xbs L k).1.map w32), .st (sl a c L)])
  (fun k=>k≤64) (fun k=>64 - k) 0 (Nat.zero_le _) iI ?_
 intro k hk
 refine wz11 ?_
 refine JC.test (fun hlt=>?_) (fun hge=>?_)
 ·have hlt':k < 64:=by omega
  have hv:=(Xbs L k).2
  refine wA ?_
  refine JC.test (fun h16=>?_) (fun h16=>?_)
  ·have h16':k < 16:=by omega
   refine wz14 ?_
   refine Wf (OpV.shl (by decide)) rfl ?_
   refine JO.reslot 13 (.int .i64 ((4 * k:Nat):Int)) (congrArg (Value.int .i64) (by show IntKind.i64.wrap ((k:Int) * 2 ^ 2)=_; rw [IntKind.wrap_i64]; omega)) ?_
   refine We rfl ?_
   refine JR.callV rfl (fun w1 hw=>X6j w1 _ a c L (4 * k) hw.get (by omega)) ?_
   refine wz4 ?_
   refine Wf (Xag hlt') rfl ?_
   refine We rfl ?_
   refine Xhx k (X24 L (4 * k)) (by omega) (by omega) rfl ?_
   refine JO.reown bo ((Xbs L (k+1)).1.map w32) (by rw [Xl8,Xz9,if_pos h16']) ?_
   refine wz12 ?_
   exact ⟨k+1,by omega,by omega,iI⟩
  ·have h16':¬ k < 16:=by omega
   refine wz14 ?_
   refine Xb1 23 mixed ?_
   refine JM.tv 0 ?_
   refine JM.tv 1 ?_
   refine JM.take 2 rfl (by kernel_rfl) rfl (Vv (by omega)) rfl rfl ?_
   refine JM.reslot 20 (.int .i64 ((k - 16:Nat):Int)) (by congr 1 <;> omega) ?_
   refine JM.take 3 rfl (by kernel_rfl) rfl (Xag (k:=k - 16) (by omega)) rfl rfl ?_
   refine JM.take 4 rfl (by kernel_rfl) rfl (Xby (k - 16) (by omega) (by omega) rfl) rfl rfl ?_
   refine JM.tv 5 ?_
   refine JM.take 6 rfl (by kernel_rfl) rfl (Vv (by omega)) rfl rfl ?_
   refine JM.reslot 24 (.int .i64 ((k - 7:Nat):Int)) (by congr 1 <;> omega) ?_
   refine JM.take 7 rfl (by kernel_rfl) rfl (Xag (k:=k - 7) (by omega)) rfl rfl ?_
   refine JM.take 8 rfl (by kernel_rfl) rfl (Xby (k - 7) (by omega) (by omega) rfl) rfl rfl ?_
   refine JM.take 9 rfl (by kernel_rfl) rfl Xar rfl rfl ?_
   refine JM.tv 10 ?_
   refine JM.take 11 rfl (by kernel_rfl) rfl (Vv (by omega)) rfl rfl ?_
   refine JM.reslot 29 (.int .i64 ((k - 15:Nat):Int)) (by congr 1 <;> omega) ?_
   refine JM.take 12 rfl (by kernel_rfl) rfl (Xag (k:=k - 15) (by omega)) rfl rfl ?_
   refine JM.take 13 rfl (by kernel_rfl) rfl (Xby (k - 15) (by omega) (by omega) rfl) rfl rfl ?_
   refine JM.takeCall 14 rfl (by kernel_rfl) rfl (fun w1 hw=>Xuj w1 _ _ 7 18 3 (by decide) (by decide) (by decide)) rfl rfl ?_
   refine JM.take 15 rfl (by kernel_rfl) rfl Xar rfl rfl ?_
   refine JM.tv 16 ?_
   refine JM.take 17 rfl (by kernel_rfl) rfl (Vv (by omega)) rfl rfl ?_
   refine JM.reslot 35 (.int .i64 ((k - 2:Nat):Int)) (by congr 1 <;> omega) ?_
   refine JM.take 18 rfl (by kernel_rfl) rfl (Xag (k:=k - 2) (by omega)) rfl rfl ?_
   refine JM.take 19 rfl (by kernel_rfl) rfl (Xby (k - 2) (by omega) (by omega) rfl) rfl rfl ?_
   refine JM.takeCall 20 rfl (by kernel_rfl) rfl (fun w1 hw=>Xuj w1 _ _ 17 19 10 (by decide) (by decide) (by decide)) rfl rfl ?_
   refine JM.take 21 rfl (by kernel_rfl) rfl Xar rfl rfl ?_
   refine JM.take 22 rfl (by kernel_rfl) rfl (Xag hlt') rfl rfl ?_
   refine JM.reslot 39 (w32 (Xz9 L (Xbs L k).1 k)) (by rw [Xz9,if_neg h16',Xle,Xle,Xle,Xle]) ?_
   refine Xam 23 (by kernel_rfl) rfl rfl rfl (Xhx k (Xz9 L (Xbs L k).1 k) (by omega) (by omega) rfl (JO.reown bo ((Xbs L (k+1)).1.map w32) (by rw [Xl8]) (Wd ⟨rfl,?_⟩)))
   refine JM.nil (by kernel_rfl) ?_
   refine wz2 ?_
   exact ⟨k+1,by omega,by omega,iI⟩
 ·obtain rfl:k=64:=by omega
  refine wz3 ?_
  exact Xac () rfl
end
section
attribute [local irreducible] JC JO JR JQ andThen inBlock OpV Gives Xah JM JS
attribute [local irreducible] Xe2
def X25 (W s:List UInt32) (k:Nat):UInt32 :=
 (((s.getD 7 0+Xw2 (s.getD 4 0) 6 11 25)+X8k (s.getD 4 0) (s.getD 5 0) (s.getD 6 0))+shaK.getD k 0)+W.getD k 0
def X9s (s:List UInt32):UInt32:=Xw2 (s.getD 0 0) 2 13 22+X8l (s.getD 0 0) (s.getD 1 0) (s.getD 2 0)
def Ybn (W s:List UInt32) (k:Nat):List UInt32 :=
 [X25 W s k+X9s s,s.getD 0 0,s.getD 1 0,s.getD 2 0,s.getD 3 0+X25 W s k,s.getD 4 0,s.getD 5 0,s.getD 6 0]
def X9t (W h:List UInt32):Nat→List UInt32
 | 0=>h
 | k+1=>Ybn W (X9t W h k) k
theorem Xun (W:List UInt32) {h:List UInt32} (hh:h.length=8) (k:Nat):(X9t W h k).length=8:=by
 cases k with
 | zero=>exact hh
 | succ k=>rfl
def Xmr (W:List UInt32) (h:Vec UInt32 8) (k:Nat):Vec UInt32 8:=⟨X9t W h.1 k,Xun W h.2 k⟩
theorem X0b (W:List UInt32) (h:Vec UInt32 8):Xmr W h 0=h:=rfl
theorem X0c (W:List UInt32) (h:Vec UInt32 8) (k:Nat):(Xmr W h (k+1)).1=Ybn W (Xmr W h k).1 k:=rfl
def Ybo (h s:List UInt32) (k:Nat):List UInt32:=(List.range 8).map (fun i=>if i < k then h.getD i 0+s.getD i 0 else h.getD i 0)
def Xkf (h s:List UInt32) (k:Nat):Vec UInt32 8:=⟨Ybo h s k,by simp [Ybo]⟩
theorem X26 (h s:List UInt32) (k:Nat) (hk:k < 8):(Xkf h s k).1.set k (h.getD k 0+s.getD k 0)=(Xkf h s (k+1)).1:=by
 match k,hk with
 | 0,_=>rfl
 | 1,_=>rfl
 | 2,_=>rfl
 | 3,_=>rfl
 | 4,_=>rfl
 | 5,_=>rfl
 | 6,_=>rfl
 | 7,_=>rfl
theorem X6k (h s:List UInt32) (k:Nat) (hk:k < 8):(Xkf h s k).1.getD k 0=h.getD k 0:=by
 match k,hk with
 | 0,_=>rfl
 | 1,_=>rfl
 | 2,_=>rfl
 | 3,_=>rfl
 | 4,_=>rfl
 | 5,_=>rfl
 | 6,_=>rfl
 | 7,_=>rfl
theorem vec8 (v:Vec UInt32 8):∃ a b c d e f g h,v.1=[a,b,c,d,e,f,g,h]:=by
 obtain ⟨l,hl⟩:=v
 match l,hl with
 | [a,b,c,d,e,f,g,h],_=>exact ⟨a,b,c,d,e,f,g,h,rfl⟩
theorem X0d (v:Vec UInt32 8) (s:List UInt32):(Xkf v.1 s 0).1=v.1:=by
 obtain ⟨a,b,c,d,e,f,g,h,hv⟩:=vec8 v
 rw [hv]; rfl
def Xol (h:Vec UInt32 8) (L:List UInt8):Vec UInt32 8:=Xkf h.1 (Xmr (Xbs L 64).1 h 64).1 8
def Xpv:Vec UInt32 64:=⟨shaK,rfl⟩
theorem Xpw:GivesV prog 225 [] w F (.agg ⟨Xpv.1.map w32⟩):=Xse w F
theorem X6l:Xpv.1=shaK:=rfl
attribute [local irreducible] Xpv Xbs Xmr Xkf
theorem X27 (a:Option Addr) (c:Nat) (L:List UInt8) (h:Vec UInt32 8) (hs:(sl a c L).holds F w) (hL:L.length=64) :
  GivesV prog 155 [.agg ⟨h.1.map w32⟩, .slice a L.length c] w F (.tuple ⟨[.agg ⟨(Xol h L).1.map w32⟩, .bool true]⟩):=by
 refine Xaa func155 rfl ntmps155 rfl rfl [.st (sl a c L)] (.start1 hs) ?_
 (repeat (refine wE ?_; intro _)); refine wA ?_
 rename_i bh br
 refine JC.test (fun h0=>?_) (fun h0=>?_)
 ·simp [hL] at h0
 refine wz14 ?_
 refine Xdz (fun q:Nat × Nat × Nat=>[(2, .pointer (some ⟨bh,0,none⟩)),(4, .pointer (some ⟨br,0,none⟩)),(6, .pointer (some ⟨q.1,0,none⟩)),(7, .pointer (some ⟨q.2.1,0,none⟩)),(8, .pointer (some ⟨q.2.2,0,none⟩))])
  (fun q=>[.own bh 196 (h.1.map w32), .own br 196 [.int .u32 0, .int .u32 0, .int .u32 0, .int .u32 0, .int .u32 0, .int .u32 0, .int .u32 0, .int .u32 0], .own q.1 256 (Xpv.1.map w32), .own q.2.1 256 ((Xbs L 64).1.map w32), .own q.2.2 196 (h.1.map w32)]) ?_ ?_
 ·refine Xb1 7 mixed ?_
  refine JM.takeCall 0 rfl (by kernel_rfl) rfl (fun w1 hw=>Xpw w1 _) rfl rfl ?_
  refine JM.tv 1 ?_
  refine JM.takeCall 2 rfl (by kernel_rfl) rfl (fun w1 hw=>X0a w1 _ a c L hw.get hL) rfl rfl ?_
  refine Xt2 (i0:=3) (i1:=4) (i2:=5) (i3:=6) rfl Vc rfl rfl rfl (by kernel_rfl) rfl rfl rfl ?_ ?_
  ·intro q1 q2 q3
   refine Xam 7 (by kernel_rfl) rfl rfl rfl (Wi (Wd ⟨rfl,?_⟩))
   refine Xam 8 (by kernel_rfl) rfl rfl rfl (Wi (Wd ⟨rfl,?_⟩))
   refine Xam 9 (by kernel_rfl) rfl rfl rfl (Wi (Wd ⟨rfl,?_⟩))
   refine JM.nil (by kernel_rfl) ?_
   exact ⟨rfl,(q1,q2,q3),iI⟩
  ·intro q1 q2 q3
   refine Xqa 3 7 (by kernel_rfl) rfl rfl rfl rfl rfl rfl rfl (JS.val Vc rfl ?_) (Wi (Wd ⟨rfl,?_⟩))
   ·refine Xam 7 (by kernel_rfl) rfl rfl rfl (Wi (Wd ⟨rfl,?_⟩))
    refine Xam 8 (by kernel_rfl) rfl rfl rfl (Wi (Wd ⟨rfl,?_⟩))
    refine Xam 9 (by kernel_rfl) rfl rfl rfl (Wi (Wd ⟨rfl,?_⟩))
    refine JM.nil (by kernel_rfl) ?_
    exact ⟨rfl,(q1,q2,q3),iI⟩
   ·refine Xqa 3 8 (by kernel_rfl) rfl rfl rfl rfl rfl rfl rfl (JS.val Vc rfl ?_) (Wi (Wd ⟨rfl,?_⟩))
    ·refine Xam 8 (by kernel_rfl) rfl rfl rfl (Wi (Wd ⟨rfl,?_⟩))
     refine Xam 9 (by kernel_rfl) rfl rfl rfl (Wi (Wd ⟨rfl,?_⟩))
     refine JM.nil (by kernel_rfl) ?_
     exact ⟨rfl,(q1,q2,q3),iI⟩
    ·refine JM.one 3 (by kernel_rfl) rfl rfl rfl rfl (JS.val Vc rfl ?_)
     refine Xam 9 (by kernel_rfl) rfl rfl rfl (Wi (Wd ⟨rfl,?_⟩))
     refine JM.nil (by kernel_rfl) ?_
     exact ⟨rfl,(q1,q2,q3),iI⟩
 rintro ⟨q1,q2,q3⟩
 refine wz4 ?_
 refine Xao (fun k:Nat=>[(2, .pointer (some ⟨bh,0,none⟩)),(4, .pointer (some ⟨br,0,none⟩)),(6, .pointer (some ⟨q1,0,none⟩)),(7, .pointer (some ⟨q2,0,none⟩)),(8, .pointer (some ⟨q3,0,none⟩)),(21, .int .i64 (k:Int))])
  (fun k=>[.own bh 196 (h.1.map w32), .own br 196 [.int .u32 0, .int .u32 0, .int .u32 0, .int .u32 0, .int .u32 0, .int .u32 0, .int .u32 0, .int .u32 0], .own q1 256 (Xpv.1.map w32), .own q2 256 ((Xbs L 64).1.map w32), .own q3 196 ((Xmr (Xbs L 64).1 h k).1.map w32)])
  (fun k=>k≤64) (fun k=>64 - k) 0 (Nat.zero_le _) (by rw [X0b]; infer_instance) ?_
 intro k hk
 refine wz11 ?_
 refine JC.test (fun hlt=>?_) (fun hge=>?_)
 ·have hlt':k < 64:=by omega
  have hkk:k < Xpv.1.length:=by rw [Xpv.2]; exact hlt'
  have hkw:k < (Xbs L 64).1.length:=by rw [(Xbs L 64).2]; exact hlt'
  obtain ⟨x0,x1,x2,x3,x4,x5,x6,x7,hx⟩:=vec8 (Xmr (Xbs L 64).1 h k)
  have hnext:=X0c (Xbs L 64).1 h k
  rw [hx] at hnext ⊢
  refine wz7 ?_
  refine Xbw mixed (by kernel_rfl) ?_
  refine Wy rfl (Xag (k:=7) (by decide)) rfl ?_
  refine Wy rfl (Xby 7 (by simp) rfl rfl) rfl ?_
  refine Wy rfl (Xag (k:=4) (by decide)) rfl ?_
  refine Wy rfl (Xby 4 (by simp) rfl rfl) rfl ?_
  refine JQ.call rfl rfl (fun w1 hw=>Xuk w1 _ _ 6 11 25 (by decide) (by decide) (by decide)) ?_
  refine Wy rfl Xar rfl ?_
  refine Wy rfl (Xag (k:=4) (by decide)) rfl ?_
  refine Wy rfl (Xby 4 (by simp) rfl rfl) rfl ?_
  refine Wy rfl (Xag (k:=5) (by decide)) rfl ?_
  refine Wy rfl (Xby 5 (by simp) rfl rfl) rfl ?_
  refine Wy rfl (Xag (k:=6) (by decide)) rfl ?_
  refine Wy rfl (Xby 6 (by simp) rfl rfl) rfl ?_
  refine JQ.call rfl rfl (fun w1 hw=>X6f w1 _ _ _ _) ?_
  refine Wy rfl Xar rfl ?_
  refine Wy rfl Va rfl ?_
  refine Wy rfl (Xag hlt') rfl ?_
  refine Wy rfl (Xby k hkk (by omega) rfl) rfl ?_
  refine Wy rfl Xar rfl ?_
  refine Wy rfl Va rfl ?_
  refine Wy rfl (Xag hlt') rfl ?_
  refine Wy rfl (Xby k hkw (by omega) rfl) rfl ?_
  refine Wy rfl Xar rfl ?_
  refine JQ.reslot 45 (w32 (X25 (Xbs L 64).1 [x0,x1,x2,x3,x4,x5,x6,x7] k)) (by simp only [Xle,X6l]; rfl) ?_
  refine Wy rfl Vb rfl ?_
  refine WB ?_
  refine wz14 ?_
  refine Xbw mixed (by kernel_rfl) ?_
  refine Wy rfl (Xag (k:=0) (by decide)) rfl ?_
  refine Wy rfl (Xby 0 (by simp) rfl rfl) rfl ?_
  refine JQ.call rfl rfl (fun w1 hw=>Xuk w1 _ _ 2 13 22 (by decide) (by decide) (by decide)) ?_
  refine Wy rfl (Xag (k:=0) (by decide)) rfl ?_
  refine Wy rfl (Xby 0 (by simp) rfl rfl) rfl ?_
  refine Wy rfl (Xag (k:=1) (by decide)) rfl ?_
  refine Wy rfl (Xby 1 (by simp) rfl rfl) rfl ?_
  refine Wy rfl (Xag (k:=2) (by decide)) rfl ?_
  refine Wy rfl (Xby 2 (by simp) rfl rfl) rfl ?_
  refine JQ.call rfl rfl (fun w1 hw=>X6g w1 _ _ _ _) ?_
  refine Wy rfl Xar rfl ?_
  refine JQ.reslot 56 (w32 (X9s [x0,x1,x2,x3,x4,x5,x6,x7])) rfl ?_
  refine Wy rfl Vb rfl ?_
  refine WB ?_
  refine wz14 ?_
  refine Xb1 2 mixed ?_
  refine JM.take 0 rfl (by kernel_rfl) rfl (Xhq (l:=1) (by decide) rfl) rfl rfl ?_
  refine JM.take 1 rfl (by kernel_rfl) rfl (Xi6 (k:=7) (by decide)) rfl rfl ?_
  refine Xam 2 (by kernel_rfl) rfl rfl rfl (Xqe (cs:=[x0,x1,x2,x3,x4,x5,x6].map w32) rfl rfl (by decide) rfl (by simp) iI ?_)
  refine JO.reown q3 ([x0,x0,x1,x2,x3,x4,x5,x6].map w32) rfl (Wd ⟨rfl,?_⟩)
  refine JM.nil (by kernel_rfl) ?_
  refine wz14 ?_
  refine Wf (Xag (k:=4) (by decide)) rfl ?_
  refine We rfl ?_
  refine Wf (Xby 4 (by simp) rfl rfl) rfl ?_
  refine We rfl ?_
  refine Wf Va rfl ?_
  refine We rfl ?_
  refine Wf Xar rfl ?_
  refine We rfl ?_
  refine Wf (Xag (k:=4) (by decide)) rfl ?_
  refine We rfl ?_
  refine Xhx 4 (x3+X25 (Xbs L 64).1 [x0,x1,x2,x3,x4,x5,x6,x7] k) (by simp) rfl rfl ?_
  refine wz10 ?_
  refine Wf Xar rfl ?_
  refine We rfl ?_
  refine Wf (Xag (k:=0) (by decide)) rfl ?_
  refine We rfl ?_
  refine Xhx 0 (X25 (Xbs L 64).1 [x0,x1,x2,x3,x4,x5,x6,x7] k+X9s [x0,x1,x2,x3,x4,x5,x6,x7]) (by simp) rfl rfl ?_
  refine JO.reown q3 ((Xmr (Xbs L 64).1 h (k+1)).1.map w32) (by rw [hnext]; rfl) ?_
  refine wz2 ?_
  exact ⟨k+1,by omega,by omega,iI⟩
 ·obtain rfl:k=64:=by omega
  obtain ⟨S,hS⟩:∃ S,S=Xmr (Xbs L 64).1 h 64:=⟨_,rfl⟩
  have hb:(Xol h L).1=(Xkf h.1 S.1 8).1:=by rw [hS]; rfl
  rw [← hS,hb]
  refine wA ?_
  refine Xao (fun k:Nat=>[(2, .pointer (some ⟨bh,0,none⟩)),(4, .pointer (some ⟨br,0,none⟩)),(8, .pointer (some ⟨q3,0,none⟩)),(70, .int .i64 (k:Int))])
   (fun k=>[.own bh 196 ((Xkf h.1 S.1 k).1.map w32), .own br 196 [.int .u32 0, .int .u32 0, .int .u32 0, .int .u32 0, .int .u32 0, .int .u32 0, .int .u32 0, .int .u32 0], .own q3 196 (S.1.map w32)])
   (fun k=>k≤8) (fun k=>8 - k) 0 (Nat.zero_le _) (by rw [X0d]; infer_instance) ?_
  intro k hk
  refine wz11 ?_
  refine JC.test (fun hlt=>?_) (fun hge=>?_)
  ·have hlt':k < 8:=by omega
   have hk1:k < (Xkf h.1 S.1 k).1.length:=by rw [(Xkf h.1 S.1 k).2]; exact hlt'
   have hk2:k < S.1.length:=by rw [S.2]; exact hlt'
   refine wz7 ?_
   refine Xb1 8 mixed ?_
   refine JM.tv 0 ?_
   refine JM.take 1 rfl (by kernel_rfl) rfl (Xag hlt') rfl rfl ?_
   refine JM.take 2 rfl (by kernel_rfl) rfl (Xby k hk1 (by omega) rfl) rfl rfl ?_
   refine JM.tv 3 ?_
   refine JM.take 4 rfl (by kernel_rfl) rfl (Xag hlt') rfl rfl ?_
   refine JM.take 5 rfl (by kernel_rfl) rfl (Xby k hk2 (by omega) rfl) rfl rfl ?_
   refine JM.take 6 rfl (by kernel_rfl) rfl Xar rfl rfl ?_
   refine JM.take 7 rfl (by kernel_rfl) rfl (Xag hlt') rfl rfl ?_
   refine JM.reslot 79 (w32 (h.1.getD k 0+S.1.getD k 0)) (by simp only [Xle]; rw [X6k _ _ _ hlt']) ?_
   refine Xam 8 (by kernel_rfl) rfl rfl rfl (Xhx k (h.1.getD k 0+S.1.getD k 0) hk1 (by omega) rfl (JO.reown bh ((Xkf h.1 S.1 (k+1)).1.map w32) (by rw [X26 _ _ _ hlt']) (Wd ⟨rfl,?_⟩)))
   refine JM.nil (by kernel_rfl) ?_
   refine wz2 ?_
   exact ⟨k+1,by omega,by omega,iI⟩
  ·obtain rfl:k=8:=by omega
   refine wz3 ?_
   exact Xac () rfl
end
section
attribute [local irreducible] JC JO JR JQ andThen inBlock OpV Gives Xah JM JS
def padZ (n:Nat):Nat:=(119 - n % 64) % 64
def padL (L:List UInt8):List UInt8:=(L++[128])++List.replicate (padZ L.length) 0++Xul (UInt64.ofNat (L.length * 8))
instance {x:UInt64}:Len ((Xul x).map Xak) 8:=⟨by simp [Xul]⟩
instance {x:UInt32}:Len ((Xke x).map Xak) 4:=⟨by simp [Xke]⟩
instance {Γ:List Fact}:Typed Γ [.int .u8 128] (128:UInt8):=⟨(),rfl,by simp [Cell.facts]⟩
instance {Γ:List Fact}:Typed Γ [.int .u8 0] (0:UInt8):=⟨(),rfl,by simp [Cell.facts]⟩
theorem X9u (a:Option Addr) (c:Nat) (L:List UInt8) (h:(sl a c L).holds F w) (hL:L.length≤1048576) :
  GivesBuf prog 154 [.slice a L.length c] w F 5 (padL L):=by
 refine Xaa func154 rfl ntmps154 rfl rfl [.st (sl a c L)] (.start1 h) ?_
 refine wA ?_
 have hn128:NatI ((L.length:Int)+128) (L.length+128):=⟨by omega⟩
 refine Xtw (l:=L.length) (c:=L.length+128) rfl ⟨by omega,by omega⟩ ?_
 intro b
 refine wz10 ?_
 refine Xzn (M:=L) rfl (by simp) ?_
 intro a1 c1 e1
 injection e1 with e1 e2 e3
 subst e1 e3
 refine JO.reslot 3 (.slice (some ⟨b,0,none⟩) L.length (L.length+128)) (by simp) ?_
 (repeat (refine wE ?_; intro _)); refine wA ?_
 refine Xay rfl (by exact ⟨rfl,rfl,by decide⟩) (by omega) ?_
 intro a2 c2
 refine wz4 ?_
 have hz:padZ L.length < 64:=Nat.mod_lt _ (by decide)
 refine Xcc (fun (k:Nat) p q=>[(0, .slice a L.length c),(3, .slice p ((L++[128])++List.replicate k (0:UInt8)).length q)]) (fun k p q=>[.res (buf p q 5 ((L++[128])++List.replicate k (0:UInt8)))])
  (fun k _ _=>k≤padZ L.length) (fun k _ _=>padZ L.length - k) 0 a2 c2 (Nat.zero_le _) (by rw [List.replicate_zero,List.append_nil]; infer_instance) ?_
 intro k p q hk
 refine wz4 ?_
 have hlen:((L++[128])++List.replicate k (0:UInt8)).length=L.length+1+k:=by simp; omega
 refine Wf (OpV.rem (by decide)) rfl ?_
 refine JO.reslot 19 (.int .i64 (((L.length+1+k) % 64:Nat):Int)) (by rw [hlen,Int.tmod_eq_emod_of_nonneg (by omega)]; congr 1) ?_
 refine wA ?_
 refine JC.test (fun h1=>?_) (fun h1=>?_)
 ·have h2:k < padZ L.length:=by simp only [padZ] at hk ⊢; omega
  (repeat (refine wE ?_; intro _)); refine wA ?_
  refine Xay rfl (by exact ⟨rfl,rfl,by decide⟩) (by rw [hlen]; omega) ?_
  intro a3 c3
  refine wz2 ?_
  have hs:(L++[128])++List.replicate (k+1) (0:UInt8)=(L++[128])++List.replicate k (0:UInt8)++[0]:=by rw [List.replicate_succ',← List.append_assoc]
  exact ⟨k+1,a3,c3,by omega,by omega,by rw [hs]; infer_instance⟩
 ·have h2:k=padZ L.length:=by simp only [padZ] at hk ⊢; omega
  subst h2
  refine wA ?_
  refine Wf Xaz rfl ?_
  refine JO.reslot 26 (.int .u64 (L.length:Int)) (congrArg (Value.int .u64) (by rw [Xd8]; omega)) ?_
  refine wz13 ?_
  refine Wf (OpV.shl (by decide)) rfl ?_
  refine JO.reslot 27 (w64 (UInt64.ofNat (L.length * 8))) (congrArg (Value.int .u64) (by
   show IntKind.u64.wrap ((L.length:Int) * 2 ^ 3)=_
   rw [show ((L.length:Int) * 2 ^ 3)=((L.length * 8:Nat):Int) by omega,Xd8,UInt64.toNat_ofNat'])) ?_
  refine wz13 ?_
  refine JR.callV rfl (fun w1 hw=>X6i w1 _ _) ?_
  (repeat (refine wE ?_; intro _)); refine wA ?_
  refine Wf (Xdl (by decide)) rfl ?_
  refine We rfl ?_
  refine Xen (M:=Xul (UInt64.ofNat (L.length * 8))) rfl rfl rfl (by simp [Xul]) (by exact ⟨rfl,rfl,by decide⟩) (by rw [hlen]; omega) ?_
  intro a3 c3
  refine wz10 ?_
  exact CT.done (a3,c3) rfl (fun w ho=>(ho.ent:Hold _ _ [.res (buf a3 c3 5 ((L++[128])++List.replicate (padZ L.length) (0:UInt8)++Xul (UInt64.ofNat (L.length * 8))))] w))
section
attribute [local irreducible] Xe2 Xpv Xbs Xmr Xkf Xol
theorem Xw3 (L:List UInt8):(padL L).length=64 * ((L.length+72) / 64):=by
 simp only [padL,List.length_append,List.length_replicate,Xul,List.length_map,List.length_range,List.length_singleton,padZ]
 omega
def Xw4:Nat→Vec UInt32 8→List UInt8→Vec UInt32 8
 | 0,h,_=>h
 | n+1,h,p=>Xw4 n (Xol h (p.take 64)) (p.drop 64)
def X9v:Vec UInt32 8:=⟨shaS,rfl⟩
theorem X0e:GivesV prog 153 [] w F (.agg ⟨X9v.1.map w32⟩):=X21 w F
def sumV (L:List UInt8):Vec UInt32 8:=Xw4 ((padL L).length / 64) X9v (padL L)
def outK (h:List UInt32) (k:Nat):List UInt8:=(h.take k).flatMap Xke++List.replicate (32 - 4 * k) 0
theorem X6m (h:List UInt32):(h.flatMap Xke).length=4 * h.length:=by
 induction h with
 | nil=>rfl
 | cons x h ih=>simp only [List.flatMap_cons,List.length_append,ih,List.length_cons]; simp [Xke]; omega
theorem Xw5 (h:Vec UInt32 8) (k:Nat) (hk:k≤8):(outK h.1 k).length=32:=by
 have:=h.2
 simp only [outK,List.length_append,X6m,List.length_take,List.length_replicate]
 omega
theorem X28 (h:List UInt32):outK h 0=List.replicate 32 0:=by simp [outK]
theorem X29 (h:Vec UInt32 8) (k:Nat) (hk:k < 8):(outK h.1 k).take (4 * k)++Xke (h.1.getD k 0)++(outK h.1 k).drop (4 * k+4)=outK h.1 (k+1):=by
 have h8:=h.2
 have h4:((h.1.take k).flatMap Xke).length=4 * k:=by rw [X6m,List.length_take]; omega
 rw [outK,outK,List.take_left' h4,List.drop_append,h4,List.drop_eq_nil_of_le (by omega),List.nil_append,List.drop_replicate,List.take_succ_eq_append_getElem (by omega),List.flatMap_append]
 have hg:h.1[k]'(by omega)=h.1.getD k 0:=by simp [List.getD_eq_getElem?_getD,h8,hk]
 simp only [List.flatMap_cons,List.flatMap_nil,List.append_nil,hg]
 congr 2
 omega
def sumL (L:List UInt8):List UInt8:=(sumV L).1.flatMap Xke
theorem Xji (L:List UInt8):(sumL L).length=32:=by rw [sumL,X6m,(sumV L).2]
def X9w (S:Vec UInt32 8):ID:=⟨S.1.flatMap Xke,by rw [X6m,S.2]⟩
def sumI (L:List UInt8):ID:=X9w (sumV L)
theorem X6n (L:List UInt8):(sumI L).1=sumL L:=rfl
theorem X3a {S:List UInt32} {k:Nat} (h:k < S.length) (w:World):(part 195 ⟨S.map w32⟩ (k * 1)).run prog w = .ok (w32 (S.getD k 0)) w:=by
 have hagg:(isAgg 195).run prog w = .ok false w:=by
  unfold isAgg
  rw [Sem.run_bind,Xav (P:=prog) (t:=195) w]
  rfl
 have hv:(⟨S.map w32⟩:Array Value)[k * 1]? = some (w32 (S.getD k 0)):=by
  rw [Nat.mul_one]
  simp [List.getD_eq_getElem?_getD,h]
 unfold part
 rw [Sem.run_bind,hagg]
 simp only [Result.andThen_ok,Bool.false_eq_true,if_false,hv]
 rfl
theorem Xw6 (a:Option Addr) (c:Nat) (L:List UInt8) (h:(sl a c L).holds F w) (hL:L.length≤1048576) :
  GivesV prog 93 [.slice a L.length c] w F (.agg ⟨idc (sumI L)⟩):=by
 have hpl:=Xw3 L
 refine Xaa func93 rfl ntmps93 rfl rfl [.st (sl a c L)] (.start1 h) ?_
 (repeat (refine wE ?_; intro _)); refine wA ?_
 refine JR.callV rfl (fun w1 hw=>X0e w1 _) ?_
 (repeat (refine wE ?_; intro _)); refine wA ?_
 refine JR.callBuf rfl (fun w1 hw=>X9u w1 _ a c L hw.get hL) ?_
 intro a1 c1
 refine JO.more (fun w1 ho=>ho.pub) ?_
 refine wz4 ?_
 rename_i bi bh
 refine JC.reown bi ((List.replicate 32 (0:UInt8)).map Xak) (by rw [List.map_replicate]; rfl) ?_
 refine Xdw (fun (k:Nat) (H:Vec UInt32 8) p q=>[(2, .pointer (some ⟨bi,0,none⟩)),(3, .pointer (some ⟨bh,0,none⟩)),(4, .slice p ((padL L).drop (64 * k)).length q)])
  (fun k H p q=>[.own bi 72 ((List.replicate 32 (0:UInt8)).map Xak), .own bh 196 (H.1.map w32), .st (sl p q ((padL L).drop (64 * k)))])
  (fun k H p q=>64 * k≤(padL L).length∧Xw4 ((padL L).length / 64 - k) H ((padL L).drop (64 * k))=sumV L) (fun k _ _ _=>(padL L).length - 64 * k) 0 X9v a1 c1 ⟨Nat.zero_le _,rfl⟩ (by rw [show 64 * 0=0 from rfl,List.drop_zero]; infer_instance) ?_
 intro k H p q ⟨hk,hinv⟩
 refine wz5 ?_
 refine JC.test (fun h1=>?_) (fun h1=>?_)
 ·have hk2:64 * k+64≤(padL L).length:=by rw [List.length_drop] at h1; omega
  refine wz14 ?_
  obtain ⟨pl,hpl2⟩:∃ pl,pl=(padL L).drop (64 * k):=⟨_,rfl⟩
  have hp64:(pl.take 64).length=64:=by rw [hpl2,List.length_take,List.length_drop]; omega
  have hpl64:64≤pl.length:=by rw [hpl2,List.length_drop]; omega
  rw [← hpl2] at hinv ⊢
  refine Xb1 7 mixed ?_
  refine JM.tv 0 ?_
  refine JM.tv 1 ?_
  refine JM.take 2 rfl (by kernel_rfl) rfl (Xa6 (k:=64) (fun w1 ho=>by have:=(Hold.get (A:=sl p q pl) ho).1; omega)) rfl rfl ?_
  refine JM.reslot 19 (.slice p (pl.take 64).length q) (by rw [hp64]) ?_
  refine JM.takeCall 3 rfl (by kernel_rfl) rfl (fun w1 hw=>X27 w1 _ p q (pl.take 64) H (Xgb hw.get hpl64 ⟨Nat.le_trans hpl64 (hw.get (A:=sl p q pl)).1,Nat.le_refl _⟩) hp64) rfl rfl ?_
  refine JM.tv 4 ?_
  refine JM.tv 5 ?_
  refine Xqa 6 7 (by kernel_rfl) rfl rfl rfl rfl rfl rfl rfl (JS.val Vq rfl ?_) (Wi (Wd ⟨rfl,?_⟩))
  ·refine Xam 7 (by kernel_rfl) rfl rfl rfl (Wi (Wd ⟨rfl,?_⟩))
   refine JM.nil (by kernel_rfl) ?_
   refine wz2 ?_
   refine Xb4 (L:=pl) (k:=64) rfl rfl (by omega) ?_
   intro p2 q2
   refine wz10 ?_
   have hd:pl.drop 64=(padL L).drop (64 * (k+1)):=by rw [hpl2,List.drop_drop]; congr 1
   have hn:(padL L).length / 64 - k=((padL L).length / 64 - (k+1))+1:=by omega
   refine ⟨k+1,Xol H (pl.take 64),p2,q2,⟨by omega,?_⟩,by omega,by rw [← hd]; infer_instance⟩
   rw [← hd,← hinv,hn]
   rfl
  ·refine JM.one 6 (by kernel_rfl) rfl rfl rfl rfl (JS.val Vq rfl ?_)
   refine JM.nil (by kernel_rfl) ?_
   refine wz2 ?_
   refine Xb4 (L:=pl) (k:=64) rfl rfl (by omega) ?_
   intro p2 q2
   refine wz10 ?_
   have hd:pl.drop 64=(padL L).drop (64 * (k+1)):=by rw [hpl2,List.drop_drop]; congr 1
   have hn:(padL L).length / 64 - k=((padL L).length / 64 - (k+1))+1:=by omega
   refine ⟨k+1,Xol H (pl.take 64),p2,q2,⟨by omega,?_⟩,by omega,by rw [← hd]; infer_instance⟩
   rw [← hd,← hinv,hn]
   rfl
 ·have hk2:64 * k=(padL L).length:=by rw [List.length_drop] at h1; omega
  have hk3:(padL L).length / 64 - k=0:=by omega
  rw [hk3] at hinv
  have hinv:H=sumV L:=hinv
  subst hinv
  refine wA ?_
  obtain ⟨S,hS⟩:∃ S,S=sumV L:=⟨_,rfl⟩
  have hsum:sumI L=X9w S:=by subst hS; rfl
  rw [← hS,hsum]
  clear hS hinv hsum
  refine Xao (fun k:Nat=>[(2, .pointer (some ⟨bi,0,none⟩)),(23, .agg ⟨S.1.map w32⟩),(24, .int .i64 (k:Int))]) (fun k=>[.own bi 72 ((outK S.1 k).map Xak)])
   (fun k=>k≤8) (fun k=>8 - k) 0 (Nat.zero_le _) (by rw [X28]; infer_instance) ?_
  intro k hk
  refine wz11 ?_
  refine JC.test (fun hlt=>?_) (fun hge=>?_)
  ·have hlt':k < 8:=by omega
   have hkS:k < S.1.length:=by rw [S.2]; exact hlt'
   refine wz14 ?_
   refine Wf (Xto (r:=[]) (v:=w32 (S.1.getD k 0)) hlt' (fun w1=>X3a hkS w1)) rfl ?_
   refine wz10 ?_
   refine JR.callV rfl (fun w1 hw=>X6h w1 _ _) ?_
   (repeat (refine wE ?_; intro _)); refine wA ?_
   refine Xb1 4 mixed ?_
   refine JM.tv 0 ?_
   refine JM.take 1 rfl (by kernel_rfl) rfl (OpV.shl (by decide)) rfl rfl ?_
   refine JM.reslot 31 (.int .i64 ((4 * k:Nat):Int)) (congrArg (Value.int .i64) (by show IntKind.i64.wrap ((k:Int) * 2 ^ 2)=_; rw [IntKind.wrap_i64]; omega)) ?_
   refine JM.take 2 rfl (by kernel_rfl) rfl (Xhq (l:=4 * k) (by omega) rfl) rfl rfl ?_
   refine JM.take 3 rfl (by kernel_rfl) rfl (Xdl (by decide)) rfl rfl ?_
   have hmin:Nat.min 4 (32 - 4 * k)=4:=Nat.min_eq_left (by omega)
   have h4:(Xke (S.1.getD k 0)).length=4:=by simp [Xke]
   have hout:(outK S.1 k).length=32:=Xw5 S k (by omega)
   refine Xam 4 (by kernel_rfl) rfl rfl rfl (Xqe (cs:=(Xke (S.1.getD k 0)).map Xak) rfl (by rw [hmin]; exact List.take_of_length_le (by rw [show (0:Nat) - 0=0 from rfl,List.drop_zero,List.length_map,h4]; exact Nat.le_refl _)) (Nat.le_refl _) (by rw [hmin,List.length_map,h4]) (by simp only [List.length_map,h4,hout]; omega) iI ?_)
   refine JO.reown bi ((outK S.1 (k+1)).map Xak) (by rw [← X29 S k hlt']; simp only [List.length_map,h4,List.map_append,List.map_take,List.map_drop,Nat.zero_add]) (Wd ⟨rfl,?_⟩)
   refine JM.nil (by kernel_rfl) ?_
   refine wz2 ?_
   exact ⟨k+1,by omega,by omega,iI⟩
  ·obtain rfl:k=8:=by omega
   have h8:outK S.1 8=S.1.flatMap Xke:=by
    rw [outK,List.take_of_length_le (by rw [S.2]; exact Nat.le_refl _)]
    simp
   repeat (first | refine Wa ?_ | refine Wo ?_ | refine Wp ?_ | refine Wq rfl ?_ | refine Wr ?_ | refine Wm ?_)
   refine JC.reown bi (idc (X9w S)) (by rw [h8]; rfl) ?_
   refine wz9 ?_
   exact Xac () rfl
end
theorem Xh8 (n:Nat) (hn:n < 18446744073709551616) (w:World) (F:Nat→Prop):GivesBuf prog 150 [.int .u64 (n:Int)] w F 5 (numL n):=by
 unfold GivesBuf Gives
 refine Calls.mono (callsIn_wide.1 (Ybk n hn w)) ?_
 rintro e w' ⟨v,rfl,hrow,hB⟩
 have hlen:=Xa8 n
 rcases hrow.2 with ⟨_,h0⟩ | ⟨g,cap,cur,rfl,hg,hgb,h1,h2,h3,h4⟩
 ·exfalso
  have:numL n≠[]:=by unfold numL; simp only [numF]; split <;> simp
  exact this (List.eq_nil_of_length_eq_zero h0)
 ·refine ⟨(some ⟨g,0,none⟩,cap),rfl,Bel.of hB (fun h=>False.elim h),⟨fun f hf=>?_,by simp,fun f hf k hk=>?_⟩⟩
  ·simp only [List.mem_singleton] at hf; subst hf
   refine ⟨by simp only [lim]; omega,Xez (numL n),Xhy _,⟨by rw [Xdn]; simp [Cell.sz], .inr ⟨g,cap,cur,rfl,Nat.zero_le _,hgb,h1,h2,h3,?_⟩⟩,fun p hp A hA=>by simp [Cell.facts] at hA⟩
   rw [Xdn]; exact h4
  ·simp only [List.mem_singleton] at hf; subst hf
   obtain ⟨a',ha',rfl⟩:=hk
   injection ha' with ha'
   subst ha'
   exact hg
def Xd6 (s:ByteArray):List UInt8:=numL s.size++bytesOf s
theorem Xyp (s:ByteArray) (hs:s.size≤1048576) (w:World) (F:Nat→Prop):GivesBuf prog 171 [.string s] w F 5 (Xd6 s):=by
 have hnl:=Xa8 s.size
 refine Xaa func171 rfl ntmps171 rfl rfl [] (.start w F) ?_
 refine wA ?_
 refine Wf (Xfc (by rw [Xd8]; omega)) rfl ?_
 refine wz13 ?_
 refine JR.callBuf rfl (fun w1 hw=>Xh8 s.size (by omega) w1 _) ?_
 intro a1 c1
 refine wz6 ?_
 refine Xtv rfl (by exact ⟨rfl,rfl,by decide⟩) (by omega) ?_
 intro a2 c2
 refine wz10 ?_
 exact CT.done (a2,c2) rfl (fun w ho=>(ho.ent:Hold _ _ [.res (buf a2 c2 5 (numL s.size++bytesOf s))] w))
theorem Xm6 {n:Int} (h : -1099511627776≤n∧n≤1099511627776):Xfo n < 18446744073709551616:=by
 unfold Xfo; split <;> omega
theorem Ybp (o:Op_) (h : -1099511627776≤o.n∧o.n≤1099511627776):GivesBuf prog 165 [opV o] w F 5 (numL (Xfo o.n)):=by
 refine Xaa func165 rfl ntmps165 rfl rfl [] (.start w F) ?_
 (repeat (refine wE ?_; intro _)); refine wA ?_
 refine JR.callV rfl (fun w1 hw=>Xyo w1 _ o.n h) ?_
 refine wz13 ?_
 refine JR.callBuf rfl (fun w1 hw=>Xh8 _ (Xm6 h) w1 _) ?_
 intro a1 c1
 refine wz10 ?_
 exact Xac (a1,c1) rfl
theorem Ybq (o:Op_) (h:o.elem.size≤1048576):GivesBuf prog 170 [opV o] w F 5 (Xd6 o.elem):=by
 refine Xaa func170 rfl ntmps170 rfl rfl [] (.start w F) ?_
 (repeat (refine wE ?_; intro _)); refine wA ?_
 refine JR.callBuf rfl (fun w1 hw=>Xyp _ h w1 _) ?_
 intro a1 c1
 refine wz10 ?_
 exact Xac (a1,c1) rfl
end
def X3b:Go.Shelf.Ren:=⟨fun | 14=>223 | 15=>279 | n=>n,fun | 22=>47 | 26=>234 | n=>n,fun | n=>n⟩
open Go.Shelf Go.Proofs in
theorem Ycd:SlLaysJ.n14 prog X3b where
 mixed:=by kernel_rfl
 f14:=func223.trans (congrArg some (by kernel_rfl))
 f15:=func279.trans (congrArg some (by kernel_rfl))
 t0:=underlying0
 a0:=Tryz.isAgg0
 z0:=Tryz.sizeOf0
 v0:=Tryz.zeroValue0
 t3:=underlying3
 a3:=Tryz.isAgg3
 z3:=Tryz.sizeOf3
 v3:=Tryz.zeroValue3
 t4:=underlying4
 a4:=Tryz.isAgg4
 z4:=Tryz.sizeOf4
 v4:=Tryz.zeroValue4
 t9:=underlying9
 a9:=Tryz.isAgg9
 z9:=Tryz.sizeOf9
 v9:=Tryz.zeroValue9
 t20:=underlying20
 a20:=Tryz.isAgg20
 z20:=Tryz.sizeOf20
 v20:=Tryz.zeroValue20
 t22:=underlying47
 a22:=Tryz.isAgg47
 z22:=Tryz.sizeOf47
 v22:=Tryz.zeroValue47
 t26:=underlying234
 a26:=Tryz.isAgg234
 z26:=Tryz.sizeOf234
 v26:=Tryz.zeroValue234
 t5:=underlying5
 z5:=Tryz.sizeOf5
 i5:=by kernel_rfl
section
attribute [local irreducible] JC JO JR JQ andThen inBlock OpV Gives Xah JM JS
open Go.Proofs in
instance:Cell (List UInt8) where
 Ix:=Option Addr × Nat
 sz:=1
 cells l y:=[.slice y.1 l.length y.2]
 facts l y:=[sl y.1 y.2 l]
 len _ _:=rfl
 one l y:=by simp [Value.oneCell']
 pos:=by decide
section
variable {P:Program} {n:Nn} {w0:World} {F:Nat→Prop} {ops:Array Oper} {i d:Nat} {t:TypeId} {pos:String} {aft:Array Edge} {g:Option (Nat × Bool)} {os:List Oper} {Q:Cont} {e:E} {Γ:List Fact}
theorem Xhi {x ix:Operand} {v:Value} {L:List (List UInt8)} {kk:IntKind} {j:Int} {k:Nat} {ty el:TypeId} {sz by_ eb:Nat} {z ez:Value} {ed:TypeDesc}
  [hx:Ev e x v] [hL:HasSl Γ v (List UInt8) iI L] [hi:Ev e ix (.int kk j)] [hk:NatI j k] [hT:Ty P ty (.slice el) sz by_ z] [hE:Ty P el ed 1 eb ez] (hd:Nat.blt d n.s=true) (h:k < L.length)
  (K:∀ b o p q,JO P n w0 F ops (i+1) os Q ((d, .pointer (some ⟨b,o,none⟩))::e) (.st (ro b o [.slice p (L[k]'h).length q])::.st (sl p q (L[k]'h))::Γ)) :
  JR P n w0 F ops i ⟨some d, .indexAddr ty x ix,t,pos,aft,g⟩ os Q e Γ:=JR.index hd rfl h fun b o (y:Option Addr × Nat)=>K b o y.1 y.2
end
theorem Xms {F:Nat→Prop} {w:World} {a:Option Addr} {c:Nat} {l:List UInt8} (h:(sl a c l).holds F w):Lib.HoldsBytes w (.slice a l.length c) l:=by
 refine ⟨a,c,rfl,fun h0=>?_,fun ad hd i x hx=>?_⟩
 ·rw [← Classical.not_not (a:=l=[])]
  intro hne
  obtain ⟨b,off,h1,_⟩:=h.2.2.2 hne
  rw [h0] at h1; cases h1
 ·obtain ⟨hi,hxi⟩:=List.getElem?_eq_some_iff.1 hx
  have hne:l≠[]:=by intro h0; subst h0; simp at hi
  obtain ⟨b,off,h1,_⟩:=h.2.2.2 hne
  rw [hd] at h1
  injection h1 with h1
  subst h1 hd
  rw [Addr.add_mid]
  have:=Xnn h i hi
  rw [hxi] at this
  exact this
theorem X6o {n:Nat} {F:Nat→Prop} {w:World} {v:Value} {l:List UInt8} (h:Lib.FreshBytes n w v l) (hl:l.length≤1048576):∃ a c,v = .slice a l.length c∧Fresh n F [.st (sl a c l)] w:=by
 obtain ⟨g,cap,zs,rfl,hB,h1,h2,hz,hb,hzs,hc,_⟩:=h
 refine ⟨some ⟨g,0,none⟩,cap,rfl,⟨fun f hf=>?_,by simp,fun f hf k hk=>?_⟩⟩
 ·simp only [List.mem_singleton] at hf; subst hf
  refine ⟨h1,h2,by simp only [lim]; omega,fun hne=>⟨g,0,rfl,⟨.inr hB,?_⟩,?_,fun i hi=>⟨(),?_,by simp [Cell.facts]⟩⟩⟩
  ·intro f hf
   simp only [List.mem_singleton] at hf; subst hf
   exact fun h=>h
  ·have h0:=hc 0 (by have:=List.length_pos_iff.2 hne; omega)
   rcases Nat.lt_or_ge g w.heap.size with h | h
   ·exact h
   ·unfold World.cell? at h0; simp [Array.getElem?_eq_none h] at h0
  ·intro j v hj
   simp only [Cell.cells,List.getElem?_singleton] at hj
   split at hj
   ·rename_i h0; subst h0
    injection hj with hj
    subst hj
    have h3:=hc i (by omega)
    simp only [Cell.sz,Nat.mul_one,Nat.zero_add,Nat.add_zero]
    rw [h3]
    have hi2:i < zs.length:=by omega
    have h4:l[i]=UInt8.ofNat (zs[i]).toNat:=by
     have:l[i]? = some (UInt8.ofNat (zs[i]).toNat):=by
      rw [← hzs,Lib.bytesOf,List.getElem?_map,List.getElem?_take,if_pos hi]
      simp [hi2]
     rw [List.getElem?_eq_getElem hi] at this
     injection this
    have h5:=hb zs[i] (List.getElem_mem hi2)
    rw [h4]
    simp only [Xak,List.getD_eq_getElem?_getD,List.getElem?_eq_getElem hi2,Option.getD_some]
    congr 2
    rw [UInt8.toNat_ofNat']
    omega
   ·cases hj
 ·simp only [List.mem_singleton] at hf; subst hf
  exact hk.elim
theorem X0f (a:Option Addr) (c:Nat) (ls:List (List UInt8)) (h2:2≤ls.length) (h:(sl a c ls).holds F w) (hl:ls.flatten.length≤1048576) (hl2:ls.length≤1048576) :
  Xdd prog 223 [.slice a ls.length c, .slice none 0 0] w F ls.flatten:=by
 have hne:ls≠[]:=by intro h0; subst h0; simp at h2
 obtain ⟨b,off,rfl,hF,hlt,hrow⟩:=h.2.2.2 hne
 obtain ⟨r,hr1,hr2,hr3⟩:=Xri ls off hrow
 have hflat:∀ r:List (List UInt8 × Cell.Ix (List UInt8)),flat r=r.map (fun p=>Value.slice (p.2:Option Addr × Nat).1 p.1.length (p.2:Option Addr × Nat).2):=by
  intro r
  induction r with
  | nil=>rfl
  | cons p r ih=>obtain ⟨x,y⟩:=p; simp only [flat,List.map_cons,ih]; rfl
 have hsum:Lib.lens ls=ls.flatten.length:=by simp [Lib.lens,List.length_flatten]
 have hP:Lib.PartsAt w ⟨b,off,none⟩ (flat r) ls:=by
  refine ⟨by rw [hflat,List.length_map,← hr1,List.length_map],fun i v hv=>by rw [Addr.add_mid]; exact hr2 i v hv,fun i v l hv hll=>?_⟩
  rw [hflat,List.getElem?_map] at hv
  rw [← hr1,List.getElem?_map] at hll
  cases hri:r[i]? with
  | none=>rw [hri] at hv; cases hv
  | some p =>
   rw [hri] at hv hll
   injection hv with hv
   injection hll with hll
   subst hv hll
   exact Xms (hr3 p (List.mem_of_getElem? hri) _ (by simp [Cell.facts]))
 have hj:=Go.Proofs.Any.bytes_Join_many Ycd b off ls.length c (flat r) ls (.slice none 0 0) [] w rfl h2 hP h.1 ⟨none,0,rfl,fun _=>rfl,nofun⟩ (by omega) (by rw [hsum,List.length_nil,Nat.zero_mul]; omega)
 unfold Xdd Gives
 refine Calls.mono hj ?_
 rintro e w' ⟨v,rfl,hfr,hB⟩
 have hjoin:Lib.join ls []=ls.flatten:=by
  cases ls with
  | nil=>rfl
  | cons x r=>rw [Lib.join_cons]; simp [Lib.joinTail]
 rw [hjoin] at hfr
 obtain ⟨a',c',rfl,hf⟩:=X6o (F:=F) hfr hl
 exact ⟨(a',c'),rfl,Bel.of hB (fun h=>False.elim h),hf⟩
theorem X0g (k:Nat) (hk:k≤1048576):GivesBuf prog 221 [.slice none 0 0, .int .i64 (k:Int)] w F 5 ([]:List UInt8):=by
 refine Xaa func221 rfl ntmps221 rfl rfl [] (.start w F) ?_
 refine wz2 ?_
 refine Wf OpV.cap rfl ?_
 refine wA ?_
 refine JC.reslot 1 (.int .i64 (k:Int)) (by first | rfl | (congr 1 <;> omega)) ?_
 refine JC.test (fun hlt=>?_) (fun hge=>?_)
 ·refine wz14 ?_
  refine Wf OpV.cap rfl ?_
  refine We rfl ?_
  refine Wf (Xa6 (k:=0) (fun _ _=>Nat.zero_le _)) rfl ?_
  refine wz6 ?_
  refine Xgd (α:=UInt8) (k:=k) rfl (by exact ⟨rfl,rfl,by decide⟩) ⟨by omega,by omega⟩ ?_
  intro b c hc
  refine wz4 ?_
  refine Wf (Xa6 (k:=0) (fun _ _=>Nat.zero_le _)) rfl ?_
  refine wz10 ?_
  exact Xac (some ⟨b,0,none⟩,c) rfl
 ·refine JC.buf_nil (α:=UInt8) 5 ?_
  refine wz1 ?_
  exact Xac (none,0) rfl
theorem Xuo (a:Option Addr) (c:Nat) (ls:List (List UInt8)) (h:(sl a c ls).holds F w) (hl:ls.flatten.length≤1048576) (hl2:ls.length≤1048576) :
  GivesBuf prog 149 [.slice a ls.length c] w F 5 ls.flatten:=by
 have hle:∀ k,(ls.take k).flatten.length≤1048576:=fun k=>by
  have h1:=congrArg (fun l=>l.flatten.length) (List.take_append_drop k ls)
  simp only [List.flatten_append,List.length_append] at h1
  omega
 have hnext:∀ k (hk:k < ls.length),(ls.take (k+1)).flatten=(ls.take k).flatten++ls[k]:=fun k hk=>by
  rw [List.take_succ_eq_append_getElem hk,List.flatten_append]; simp
 refine Xaa func149 rfl ntmps149 rfl rfl [.st (sl a c ls)] (.start1 h) ?_
 refine wz4 ?_
 refine JC.reslot 3 (.int .i64 (((ls.take 0).flatten.length:Nat):Int)) rfl ?_
 refine Xao (fun k:Nat=>[(0, .slice a ls.length c),(3, .int .i64 ((ls.take k).flatten.length:Int)),(9, .slice a ls.length c),(10, .int .i64 (ls.length:Int)),(11, .int .i64 (k:Int))]) (fun k=>[.st (sl a c ls)])
  (fun k=>k≤ls.length) (fun k=>ls.length - k) 0 (Nat.zero_le _) iI ?_
 intro k hk
 refine wz11 ?_
 refine JC.test (fun hlt=>?_) (fun hge=>?_)
 ·have hlt':k < ls.length:=by omega
  have h1:=hle (k+1)
  have h2:=hnext k hlt'
  have h3:(ls.take (k+1)).flatten.length=(ls.take k).flatten.length+(ls[k]).length:=by rw [h2,List.length_append]
  refine wz14 ?_
  refine Xhi rfl hlt' ?_
  intro b o p q
  refine wA ?_
  exact ⟨k+1,by omega,by omega,by rw [h3]; infer_instance⟩
 ·obtain rfl:k=ls.length:=by omega
  rw [List.take_length]
  refine wz3 ?_
  refine JR.callBuf rfl (fun w1 hw=>X0g w1 _ _ hl) ?_
  intro a1 c1
  refine wz4 ?_
  refine Xcc (fun (k:Nat) p q=>[(6, .slice p (ls.take k).flatten.length q),(25, .slice a ls.length c),(26, .int .i64 (ls.length:Int)),(27, .int .i64 (k:Int))]) (fun k p q=>[.st (sl a c ls), .res (buf p q 5 (ls.take k).flatten)])
   (fun k _ _=>k≤ls.length) (fun k _ _=>ls.length - k) 0 a1 c1 (Nat.zero_le _) (by rw [List.take_zero,List.flatten_nil]; infer_instance) ?_
  intro k p q hk
  refine wz11 ?_
  refine JC.test (fun hlt=>?_) (fun hge=>?_)
  ·have hlt':k < ls.length:=by omega
   have h1:=hle (k+1)
   have h2:=hnext k hlt'
   have h3:(ls.take (k+1)).flatten.length=(ls.take k).flatten.length+(ls[k]).length:=by rw [h2,List.length_append]
   refine wz14 ?_
   refine Xhi rfl hlt' ?_
   intro b o p2 q2
   refine wz9 ?_
   refine Xbc rfl (by exact ⟨rfl,rfl,by decide⟩) (by omega) ?_
   intro p3 q3
   refine wz2 ?_
   exact ⟨k+1,p3,q3,by omega,by omega,by rw [h2]; infer_instance⟩
  ·obtain rfl:k=ls.length:=by omega
   rw [List.take_length]
   refine wz3 ?_
   exact Xac (p,q) rfl
def Xc4 (o:Op_):List UInt8:=(numL o.kind.toNat++Xd6 o.key)++(if o.kind=0 then numL (Xfo o.n) else Xd6 o.elem)
def Xpx (o:Op_):List UInt8 × Int:=if Xc0 o then (Xc4 o,0) else ([],1)
theorem X0h (f1 f2 f3:FuncId) (w:World):(Instr.field 152 (.agg ⟨[fnV f1,fnV f2,fnV f3]⟩) 1).run prog w = .ok (fnV f2) w:=by
 have h1:=Xav (P:=prog) (t:=152) w
 unfold Instr.field
 rw [Sem.run_bind,h1]
 simp [asAgg,part,isAgg,Sem.run_bind]
theorem Hold.pubLists {w0 w:World} {F:Nat→Prop} {Γ:List Fact} {b:Nat} {t:TypeId} (ys:List (List UInt8 × (Option Addr × Nat))) (h:Hold w0 F (.own b t (ys.map (fun p=>.slice p.2.1 p.1.length p.2.2))::Γ) w)
  (hy:∀ p∈ys, .st (sl p.2.1 p.2.2 p.1)∈Γ) (hl:ys.length≤1048576):Hold w0 F (.st (sl (some ⟨b,0,none⟩) ys.length (ys.map (·.1)))::Γ) w:=by
 have hw:w.heap[b]? = some (.cells (ys.map (fun p=>Value.slice p.2.1 p.1.length p.2.2)).toArray t (0,0)):=h.sat (.own b t _) (by simp)
 refine h.publish fun hk=>?_
 have hb:=hk b (.inr rfl)
 refine ⟨by simp,by simp only [maxLen]; omega,by simp only [List.length_map,lim]; omega,fun hne=>⟨b,0,rfl,hb,(Array.getElem?_eq_some_iff.1 hw).1,fun i hi=>?_⟩⟩
 have hi':i < ys.length:=by simpa using hi
 refine ⟨(ys[i]).2,?_,fun A hA=>?_⟩
 ·intro j v hv
  simp only [Cell.cells,List.getElem?_singleton] at hv
  split at hv
  ·rename_i h0; subst h0
   injection hv with hv
   subst hv
   rw [cell_of_row w b _ _ _ _ hw]
   simp [Cell.sz,hi']
  ·cases hv
 ·simp only [Cell.facts,List.mem_singleton] at hA
  subst hA
  have:=h.tail.sat (.st (sl (ys[i]).2.1 (ys[i]).2.2 (ys[i]).1)) (hy _ (List.getElem_mem hi'))
  simp only [List.getElem_map]
  exact this
theorem pub3 {w0 w:World} {F:Nat→Prop} {b:Nat} {t u:TypeId} {N T C:List UInt8} {aN aT aC:Option Addr} {cN cT cC:Nat}
  (h:Hold w0 F [.own b t [.slice aN N.length cN, .slice aT T.length cT, .slice aC C.length cC], .res (buf aN cN u N), .res (buf aT cT u T), .res (buf aC cC u C)] w):Hold w0 F [.st (sl (some ⟨b,0,none⟩) 3 [N,T,C])] w:=by
 have h1:Hold w0 F [.res (buf aN cN u N), .own b t [.slice aN N.length cN, .slice aT T.length cT, .slice aC C.length cC], .res (buf aT cT u T), .res (buf aC cC u C)] w:=h.ent
 have h1:=h1.pub
 have h2:Hold w0 F [.res (buf aT cT u T), .st (sl aN cN N), .own b t [.slice aN N.length cN, .slice aT T.length cT, .slice aC C.length cC], .res (buf aC cC u C)] w:=h1.ent
 have h2:=h2.pub
 have h3:Hold w0 F [.res (buf aC cC u C), .st (sl aT cT T), .st (sl aN cN N), .own b t [.slice aN N.length cN, .slice aT T.length cT, .slice aC C.length cC]] w:=h2.ent
 have h3:=h3.pub
 have h4:Hold w0 F [.own b t [.slice aN N.length cN, .slice aT T.length cT, .slice aC C.length cC], .st (sl aC cC C), .st (sl aT cT T), .st (sl aN cN N)] w:=h3.ent
 have h5:=Hold.pubLists [(N,aN,cN),(T,aT,cT),(C,aC,cC)] h4 (by simp) (by simp)
 have h5:Hold w0 F [.st (sl (some ⟨b,0,none⟩) 3 [N,T,C]), .st (sl aC cC C), .st (sl aT cT T), .st (sl aN cN N)] w:=h5
 exact (h5.ent:Hold w0 F [.st (sl (some ⟨b,0,none⟩) 3 [N,T,C])] w)
theorem X9x (a:Option Addr) (c:Nat) (ls:List (List UInt8)) (L:List UInt8) (h2:2≤ls.length) (h:(sl a c ls).holds F w) (hL:ls.flatten=L) (hl:L.length≤1048576) (hl2:ls.length≤1048576) :
  Xdd prog 223 [.slice a ls.length c, .slice none 0 0] w F L:=by
 subst hL; exact X0f w F a c ls h2 h hl hl2
theorem Xh9 (s:ByteArray):(Xd6 s).length≤10+s.size:=by
 have:=Xa8 s.size
 rw [Xd6,List.length_append,Xgc]; omega
theorem Xom (o:Op_) (h:Xc0 o=true):(o.kind=(o.kind.toNat:Int)∧o.kind.toNat < 4)∧o.key.size≤1048576∧∃ (f1 f2 f3:FuncId) (_:Body prog f2) (C:List UInt8),(Xbl kindsM o.kind).getD Xwz = .agg ⟨[fnV f1,fnV f2,fnV f3]⟩ ∧
  (∀ w F,GivesBuf prog f2 [opV o] w F 5 C)∧[numL o.kind.toNat,Xd6 o.key,C].flatten=Xc4 o∧(Xc4 o).length≤100:=by
 have hnl:=fun n=>Xa8 n
 unfold Xc0 at h
 by_cases h0:o.kind=0
 ·rw [if_pos h0] at h
  simp only [Xdh,Bool.and_eq_true,decide_eq_true_eq] at h
  obtain ⟨⟨⟨_,_⟩,hk⟩,⟨⟨_,hn1⟩,hn2⟩,_⟩:=h
  refine ⟨by rw [h0]; exact ⟨rfl,by decide⟩,by omega,_,_,_,iI,numL (Xfo o.n),by rw [h0]; rfl,fun w F=>Ybp w F o (by omega),?_,?_⟩
  ·rw [Xc4,if_pos h0]; simp
  ·have h1:=hnl o.kind.toNat; have h2:=Xh9 o.key; have h3:=hnl (Xfo o.n)
   rw [Xc4,if_pos h0,List.length_append,List.length_append]; omega
 ·rw [if_neg h0] at h
  by_cases h1:o.kind=1∨o.kind=2∨o.kind=3
  ·rw [if_pos h1] at h
   simp only [Xdh,Bool.and_eq_true,decide_eq_true_eq] at h
   obtain ⟨⟨⟨_,_⟩,hk⟩,_,⟨_,_⟩,hk2⟩:=h
   refine ⟨by omega,by omega,169,170,172,iI,Xd6 o.elem,?_,fun w F=>Ybq w F o (by omega),?_,?_⟩
   ·rcases h1 with h1 | h1 | h1 <;> rw [h1] <;> rfl
   ·rw [Xc4,if_neg h0]; simp
   ·have h1:=hnl o.kind.toNat; have h2:=Xh9 o.key; have h3:=Xh9 o.elem
    rw [Xc4,if_neg h0,List.length_append,List.length_append]; omega
  ·rw [if_neg h1] at h; cases h
theorem X9y (o:Op_) (hk:o.key.size < 4611686018427387904) (he:o.elem.size < 4611686018427387904):Xg4 prog 152 [opV o] w F (Xpx o).1 [.int .i64 (Xpx o).2]:=by
 refine Xaa func152 rfl ntmps152 rfl rfl [] (.start w F) ?_
 (repeat (refine wE ?_; intro _)); refine wA ?_
 rename_i bo
 refine JR.callV rfl (fun w1 hw=>Xoj w1 _ o hk he) ?_
 refine wz7 ?_
 refine JC.test (fun h1=>?_) (fun h1=>?_)
 ·have h2:Xpx o=([],1):=by simp [Xpx,h1]
  rw [h2]
  refine wz9 ?_
  exact CT.done (none,0) rfl (fun w ho=>(ho.ent:Hold _ _ [] w).add Xan)
 have h1:Xc0 o=true:=by simpa using h1
 have h2:Xpx o=(Xc4 o,0):=by simp [Xpx,h1]
 obtain ⟨⟨hkk,hkn⟩,hks,f1,f2,f3,hbody,C,hlook,hput,hopp,hlen⟩:=Xom o h1
 have hconv:IntKind.u64.wrap o.kind=o.kind:=by rw [hkk,Xd8]; omega
 rw [h2]
 refine wz14 ?_
 refine Xb1 18 mixed ?_
 refine JM.tv 0 ?_
 refine JM.tv 1 ?_
 refine JM.take 2 rfl (by kernel_rfl) rfl (Xfc hconv) rfl rfl ?_
 refine JM.reslot 9 (.int .u64 ((o.kind.toNat:Nat):Int)) (congrArg (Value.int .u64) hkk) ?_
 refine JM.tv 4 ?_
 refine JM.tv 5 ?_
 refine JM.tv 8 ?_
 refine JM.tv 9 ?_
 refine JM.tv 12 ?_
 refine JM.one 3 (by kernel_rfl) rfl rfl rfl rfl (JS.callBuf rfl (fun w1 hw=>Xh8 _ (by omega) w1 _) fun aN cN=>?_)
 refine JM.one 6 (by kernel_rfl) rfl rfl rfl rfl (JS.callBuf rfl (fun w1 hw=>Xyp _ hks w1 _) fun aT cT=>?_)
 refine JM.one 7 (by kernel_rfl) rfl rfl rfl rfl (JS.call1 rfl (fun w1 hw=>Xkd w1 _) fun mk=>?_)
 refine JM.take 10 rfl (by kernel_rfl) rfl (Xa7 o.kind Xh6 hlook) rfl rfl ?_
 refine JM.take 11 rfl (by kernel_rfl) rfl (Xk2 (X0h f1 f2 f3)) rfl rfl ?_
 refine JM.one 13 (by kernel_rfl) rfl rfl rfl rfl (JS.callBuf rfl (fun w1 hw=>hput w1 _) fun aC cC=>?_)
 refine JM.one 14 (by kernel_rfl) rfl rfl rfl rfl (Xtr rfl ⟨rfl,by decide,by decide,by decide⟩ fun lb=>?_)
 refine JM.more (Γ':=[.st (sl (some ⟨lb,0,none⟩) 3 [numL o.kind.toNat,Xd6 o.key,C])]) (fun w1 ho=>pub3 (b:=lb) (t:=47) (u:=5) (N:=numL o.kind.toNat) (T:=Xd6 o.key) (C:=C) (aN:=aN) (aT:=aT) (aC:=aC) (cN:=cN) (cT:=cT) (cC:=cC) ho.ent) ?_
 refine JM.one 15 (by kernel_rfl) rfl rfl rfl rfl (JS.callSl rfl (fun w1 hw=>X9x w1 _ (some ⟨lb,0,none⟩) 3 [numL o.kind.toNat,Xd6 o.key,C] (Xc4 o) (by simp) hw.get hopp (by omega) (by simp)) fun aJ cJ=>?_)
 refine JM.one 16 (by kernel_rfl) rfl rfl rfl rfl (JS.val Vb rfl ?_)
 refine JM.one 17 (by kernel_rfl) rfl rfl rfl rfl (JS.val Vb rfl ?_)
 refine JM.nil (by kernel_rfl) ?_
 refine wz13 ?_
 exact Xac (aJ,cJ) rfl
end
end Ab
end Go.Proofs.YtllddbbldmoibaaGreat
