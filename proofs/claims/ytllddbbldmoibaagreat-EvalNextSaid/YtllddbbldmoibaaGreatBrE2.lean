/- Lemmas for the walks, part 2 of 6: Arr, More7, More8, Makers, More9, More10, More13, Draw3, Draw2, Pk, Str, Seat, Spec, Lib, WalkA, More11, CtrA, StrK, PokeS, RefOps, Pan, SortS, Cmp. -/
import Derived.Test.YtllddbbldmoibaaGreatBrE1
import Derived.Deep.AppendSrc
import Derived.Lib.AppendZeros
import Derived.Laws.MakeOwn
import Derived.Laws.CopyRow
import Derived.Test.YtllddbbldmoibaaGreatChecked
import Derived.KernelRfl
import Derived.Lib.Bytealg
import Derived.Recover
import Derived.WalkSmall
import Derived.Laws.Build
namespace Go.Proofs.YtllddbbldmoibaaGreat
namespace Ab
open Go Go.RowKit Tryz
set_option linter.unusedVariables false
set_option linter.unusedSimpArgs false
set_option linter.unusedSectionVars false
set_option synthInstance.maxSize 4000
set_option synthInstance.maxHeartbeats 400000
set_option maxHeartbeats 16000000
variable (w:World) (F:Nat→Prop)
abbrev Vec (α:Type) (n:Nat):={ l:List α // l.length=n }
def Vec.set {α:Type} {n:Nat} (v:Vec α n) (k:Nat) (x:α):Vec α n:=⟨v.1.set k x,by rw [List.length_set]; exact v.2⟩
instance {α:Type} {n:Nat} {v:Vec α n} {f:α→Value}:Len (v.1.map f) n:=⟨by simp [v.2]⟩
instance {v:Vec UInt8 4}:One (v.1.map Xaq):=⟨fun u hu=>by simp only [List.mem_map] at hu; obtain ⟨b,_,rfl⟩:=hu; rfl⟩
theorem one_bytes {l:List UInt8}:One (l.map Xaq):=⟨fun u hu=>by simp only [List.mem_map] at hu; obtain ⟨b,_,rfl⟩:=hu; rfl⟩
theorem Xut {l:List UInt32}:One (l.map w32):=⟨fun u hu=>by simp only [List.mem_map] at hu; obtain ⟨b,_,rfl⟩:=hu; rfl⟩
instance {b:UInt8}:Cel (Xaq b) [Xaq b]:=⟨rfl⟩
instance {l:List UInt8}:One (l.map Xaq):=one_bytes
instance {l:List UInt32}:One (l.map w32):=Xut
section
variable {P:Program} {n:Nn} {w0:World} {F:Nat→Prop} {ops:Array Oper} {i d:Nat} {t:TypeId} {pos:String} {aft:Array Edge} {g:Option (Nat × Bool)} {os:List Oper} {Q:Cont} {e:E} {Γ:List Fact}
theorem Xbh [Dr] {α:Type} {f:α→Value} {x:Operand} {ty:TypeId} {td:TypeDesc} {sz by_ b o:Nat} {z:Value} {L:List α} {Δ:List Fact} {bt:TypeId} {d:Option Nat} (k:Nat)
  [hx:Ev e x (.pointer (some ⟨b,o,none⟩))] [hO:Own Γ b bt (L.map f) Δ] [hT:Ty P ty td sz by_ z] (h:k < L.length) (ho':o=k) (hsz:sz=1) [hv:Val td [f (L[k]'h)] (f (L[k]'h))] :
  OpV P n w0 F ⟨d, .load ty x,t,pos,aft,g⟩ e Γ (f (L[k]'h)) :=
 fun a w fr ho=>by
  have hw:w.heap[b]? = some (.cells (L.map f).toArray bt (0,0)):=(ho.perm hO.ok).sat (.own b bt (L.map f)) (by simp)
  have hr:w.rangeAt b o [f (L[k]'h)]:=by
   intro j v hj
   cases j with
   | zero =>
    simp only [List.getElem?_cons_zero,Option.some.injEq] at hj
    subst hj
    rw [Nat.add_zero,cell_of_row w b _ _ _ _ hw,ho']
    simp [h]
   | succ j=>simp at hj
  have hload:=Xd4 (P:=P) (t:=ty) (v:=f (L[k]'h)) hr (by simp [hsz])
  simp [execOp,hx.ok n a fr,hload]
theorem Xfn [Dr] {α:Type} {f:α→Value} {x y:Operand} {ty:TypeId} {td:TypeDesc} {sz by_ b o:Nat} {z:Value} {L:List α} {Δ:List Fact} {bt:TypeId} (k:Nat) (u:α)
  [hx:Ev e x (.pointer (some ⟨b,o,none⟩))] [hO:Own Γ b bt (L.map f) Δ] [hy:Ev e y (f u)] [hT:Ty P ty td sz by_ z] [hc:Cel (f u) [f u]] [h1:One [f u]] (h:k < L.length) (ho':o=k) (hsz:sz=1)
  (K:JO P n w0 F ops (i+1) os Q e (.own b bt ((L.set k u).map f)::Δ)):JR P n w0 F ops i ⟨none, .store ty x y,t,pos,aft,g⟩ os Q e Γ :=
 Xdi fun a w fr ho=>by
  have hp:=ho.perm hO.ok
  have hw:w.heap[b]? = some (.cells (L.map f).toArray bt (0,0)):=hp.sat (.own b bt (L.map f)) (by simp)
  have hlay:o + [f u].length≤(L.map f).length∧(L.map f).take o++[f u]++(L.map f).drop (o + [f u].length)=(L.set k u).map f:=by
   refine ⟨by simp; omega,?_⟩
   rw [ho',List.map_set,List.set_eq_take_append_cons_drop,if_pos (by simpa using h)]
   simp
  refine ⟨.skip,w.setRow b ((L.set k u).map f).toArray,_, .inl rfl,?_,hp.setRow,K⟩
  simp [execOp,hx.ok n a fr,hy.ok n a fr,Xc2 (P:=P) (ty:=ty) (cs:=[f u]) (r:=(L.set k u).map f) hw (by simp [hsz]) hlay]
theorem JC.reown [Dr] {c:Code} {bt:TypeId} {vs:List Value} {Δ:List Fact} (b:Nat) (vs':List Value) [hO:Own Γ b bt vs Δ] (h:vs=vs') (k:JC P n w0 F c Q e (.own b bt vs'::Δ)):JC P n w0 F c Q e Γ :=
 JC.more (fun w ho=>by rw [← h]; exact ho.perm hO.ok) k
end
instance:NatI (2:Int) 2:=⟨rfl⟩
instance:NatI (3:Int) 3:=⟨rfl⟩
instance:NatI (4:Int) 4:=⟨rfl⟩
instance:NatI (5:Int) 5:=⟨rfl⟩
instance:NatI (6:Int) 6:=⟨rfl⟩
instance:NatI (7:Int) 7:=⟨rfl⟩
instance:NatI (8:Int) 8:=⟨rfl⟩
instance:NatI (15:Int) 15:=⟨rfl⟩
instance:NatI (16:Int) 16:=⟨rfl⟩
instance:NatI (32:Int) 32:=⟨rfl⟩
instance:NatI (56:Int) 56:=⟨rfl⟩
instance:NatI (63:Int) 63:=⟨rfl⟩
instance:NatI (64:Int) 64:=⟨rfl⟩
section
variable {P:Program} {n:Nn} {w0:World} {F:Nat→Prop} {ops:Array Oper} {i d:Nat} {t:TypeId} {pos:String} {aft:Array Edge} {g:Option (Nat × Bool)} {os:List Oper} {Q:Cont} {e:E} {Γ:List Fact}
theorem Xp0 [Dr] {α:Type} [ic:Cell α] {x lo hi':Operand} {v:Value} {L:List α} {kk k2:IntKind} {j j2:Int} {l k:Nat} {ty el:TypeId} {ed:TypeDesc} {sz by_ es eb:Nat} {z ez:Value}
  [hx:Ev e x v] [hL:HasSl Γ v α ic L] [hi:Ev e lo (.int kk j)] [hk:NatI j l] [hi2:Ev e hi' (.int k2 j2)] [hk2:NatI j2 k] [hT:Ty P ty (.slice el) sz by_ z] [hE:Ty P el ed es eb ez] (hd:Nat.blt d n.s=true) (hes:es=Cell.sz α) (h:l≤k∧k≤L.length)
  (K:∀ a c,JO P n w0 F ops (i+1) os Q ((d, .slice a ((L.drop l).take (k - l)).length c)::e) (.st (sl a c ((L.drop l).take (k - l)))::Γ)):JR P n w0 F ops i ⟨some d, .slice ty x (some lo) (some hi') none,t,pos,aft,g⟩ os Q e Γ :=
 JR.value hd fun a w fr ho=>by
  obtain ⟨a0,c,rfl,hsl⟩:=hL.holds ho
  have hlc:L.length≤c:=hsl.1
  have h1:=Xaz (P:=P) (t:=ty) w
  have h2:=Xbg (P:=P) (t:=el) w
  have hj:=hk.ok
  have hj2:=hk2.ok
  subst hj hj2
  have hd1:=Xum hsl (show l≤L.length by omega)
  have hd2:=Xmr hd1 (k:=k - l) (c':=c - l) (by rw [List.length_drop]; omega) ⟨by omega,Nat.le_refl _⟩
  have hlen:((L.drop l).take (k - l)).length=k - l:=by rw [List.length_take,List.length_drop]; omega
  refine ⟨_,w,_,?_,ho.addSl hd2,K _ _⟩
  have hb2:(Instr.sliceBound (.int k2 (k:Int)) c .sliceAcap).run P w = .ok k w:=by
   simp [Instr.sliceBound,asIntOf]
   omega
  have hb:(Instr.sliceBound (.int kk (l:Int)) k .sliceB).run P w = .ok l w:=by
   simp [Instr.sliceBound,asIntOf]
   omega
  rw [hlen]
  simp [execOp,hx.ok n a fr,hi.ok n a fr,hi2.ok n a fr,Instr.sliceAt,Instr.slice,h1,h2,Instr.sliceBounds,hb,hb2,hes]
  by_cases hck:c=l
  ·simp [hck]
  ·rw [if_neg hck,if_neg (by omega)]
theorem Xp1 [Dr] {x:Operand} {v:Value} {L:List UInt8} {ty el:TypeId} {m sz by_:Nat} {z:Value}
  [hx:Ev e x v] [hL:HasSl Γ v UInt8 iI L] [hT:Ty P ty (.array m el) sz by_ z] (hd:Nat.blt d n.s=true) (h:L.length=m∧0 < m)
  (K:∀ b o,JO P n w0 F ops (i+1) os Q ((d, .pointer (some ⟨b,o,none⟩))::e) (.st (ro b o (L.map Xaq))::Γ)):JR P n w0 F ops i ⟨some d, .sliceToArrayPointer ty x,t,pos,aft,g⟩ os Q e Γ :=
 JR.value hd fun a w fr ho=>by
  obtain ⟨a0,c,rfl,hsl⟩:=hL.holds ho
  have h1:=Xaz (P:=P) (t:=ty) w
  have hne:L≠[]:=by intro h0; subst h0; simp at h; omega
  obtain ⟨b,off,rfl,hb,hlt,hrow⟩:=hsl.2.2.2 hne
  refine ⟨.pointer (some ⟨b,off,none⟩),w,_,?_,ho.add (A:=ro b off (L.map Xaq)) ⟨hb,hlt,?_⟩,K b off⟩
  ·have:¬ L.length < m:=by omega
   simp [execOp,hx.ok n a fr,Instr.arrayAt,h1,this]
  ·intro j u hu
   rw [List.getElem?_map] at hu
   cases hq:L[j]? with
   | none=>rw [hq] at hu; cases hu
   | some q =>
    rw [hq] at hu
    obtain ⟨hjl,hju⟩:=List.getElem?_eq_some_iff.1 hq
    injection hu with hu
    subst hu hju
    exact Xmu hsl j hjl
theorem Xob {w:World} (t tx ty e:TypeId) (i:TypeInfo) (ht:P.underlying t=some (.slice e)) (hi:P.info? e=some i)
  (g sLen sCap:Nat) (cur:Array Value) (hg:w.heap[g]? = some (.cells cur e (0,0))) (x:Value) (m:Nat) (news:List Value) (hs:Src P i.size tx x m news w)
  (hroom:sLen+m≤sCap) (hfit:sLen * i.size+news.length≤cur.size) :
  (Builtin.append_ #[t,tx] ty #[.slice (some ⟨g,0,none⟩) sLen sCap,x]).run P w =
   .ok (.slice (some ⟨g,0,none⟩) (sLen+m) sCap) (w.setRow g (cur.toList.take (sLen * i.size)++news++cur.toList.drop (sLen * i.size+news.length)).toArray):=by
 have hst:=run_storeCells_at P g (sLen * i.size) e news 0 cur w hg (by simpa using hfit) hs.one
 simp only [Nat.add_zero] at hst
 rcases hs.kind with ⟨e',hk⟩ | hk <;> simp [Builtin.append_,run_underlying ht,run_underlying hk,sizeOf,typeInfo,hi,hs.len,hroom,hs.cells,Addr.add_lit,hst]
end
section
variable {P:Program} {n:Nn} {w0:World} {F:Nat→Prop} {ops:Array Oper} {i d:Nat} {t:TypeId} {pos:String} {aft:Array Edge} {g:Option (Nat × Bool)} {os:List Oper} {Q:Cont} {e:E} {Γ:List Fact} [Dr]
theorem Xj5 {α:Type} [Cell α] {w:World} {Δ:List Fact} {a0:Option Addr} {c0:Nat} {el ty tx:TypeId} {L:List α} {ed:TypeDesc} {sz by_ es eb:Nat} {z ez:Value} {ecs:List Value} {x:Value} {m:Nat}
  (ho:Hold w0 F (.res (buf a0 c0 el L)::Δ) w) (r':List (α × Cell.Ix α)) (hm:r'.length=m) (hS:Src P (Cell.sz α) tx x m (flat r') w)
  (hfac:∀ p∈r',∀ A∈Cell.facts p.1 p.2,A.holds (fp w0 F (.res (buf a0 c0 el L)::Δ)) w)
  [hT:Ty P ty (.slice el) sz by_ z] [hE:Ty P el ed es eb ez] [hz:Cel ez ecs] (hes:es=Cell.sz α∧ecs.length=es∧eb≤4096) (hl:L.length+m≤34359738368) :
  ∃ a1 k1 w',(Builtin.append_ #[ty,tx] t #[.slice a0 L.length c0,x]).run P w = .ok (.slice a1 (L++r'.map (·.1)).length k1) w'∧Hold w0 F (.res (buf a1 k1 el (L++r'.map (·.1)))::Δ) w':=by
 obtain ⟨h0,q,hq,hown,hfacts⟩:(buf a0 c0 el L).holds _ w:=ho.sat (.res (buf a0 c0 el L)) (by simp)
 obtain ⟨ti,hti,hti1,hti2,hti3⟩:=hE.some
 have hqL:q.length=L.length:=by rw [← hq]; simp
 have hlen:(L++r'.map (·.1)).length=L.length+m:=by simp [hm]
 have hmap:(q++r').map (·.1)=L++r'.map (·.1):=by simp [hq]
 have hflat:flat (q++r')=flat q++flat r':=Xjr q r'
 have hfl:(flat r').length=m * ti.size:=by rw [Xbf,hm,hti1,hes.1]
 have hflq:(flat q).length=L.length * ti.size:=by rw [Xbf,hqL,hti1,hes.1]
 have hb48:(L.length+m) * ti.bytes≤140737488355328:=by rw [hti2]; have:=Nat.mul_le_mul hl hes.2.2; omega
 have hzs:ez.cells.size=ti.size:=by rw [Xbt (v:=ez) (cs:=ecs),hti1]; simpa using hes.2.1
 have hsz1:ti.size=Cell.sz α:=by rw [hti1,hes.1]
 have hS:Src P ti.size tx x m (flat r') w:=by rw [hsz1]; exact hS
 have grown:∀ (old:Nat),old < L.length+m →
   Hold w0 F (.res (buf (some ⟨w.heap.size,0,none⟩) (grownCap w (L.length+m) old el) el (L++r'.map (·.1)))::Δ)
    (w.drew.alloc (.cells ((flat q++flat r').toArray++Builtin.zeroCells ez.cells (grownCap w (L.length+m) old el - (L.length+m))) el)):=by
  intro old hold
  have hge:=grownCap_ge w (L.length+m) old el
  have hcm:grownCap w (L.length+m) old el≤maxLen:=grownCap_le_maxLen w (L.length+m) old el (by simp only [maxLen]; omega)
  have hbel:Bel w.heap.size w (w.drew.alloc (.cells ((flat q++flat r').toArray++Builtin.zeroCells ez.cells (grownCap w (L.length+m) old el - (L.length+m))) el)) :=
   ((Bel.refl _ _).drew).alloc (Nat.le_refl _) _
  refine ho.tail.call (B:=[.res (buf (some ⟨w.heap.size,0,none⟩) (grownCap w (L.length+m) old el) el (L++r'.map (·.1)))]) hbel ⟨fun f hf=>?_,by simp,fun f hf k hk=>?_⟩
  ·simp only [List.mem_singleton] at hf; subst hf
   refine ⟨by rw [hlen]; simp only [lim]; omega,q++r',hmap,⟨by rw [Xbf,hlen]; simp [hqL,hm], .inr ⟨w.heap.size,_,_,rfl,Nat.zero_le _,heap_alloc_new w.drew _,by rw [hlen]; exact hge,hcm,?_,?_⟩⟩,fun p hp A hA=>?_⟩
   ·simp only [Array.size_append,List.size_toArray,size_zeroCells,hzs,List.length_append,hfl,hflq,← Nat.add_mul,← hsz1]
    congr 1
    omega
   ·simp only [Array.toList_append,hflat]
    rw [hlen]
    exact List.take_left' (by rw [List.length_append,hfl,hflq,← Nat.add_mul,hsz1])
   ·have hA':A.holds (fp w0 F (.res (buf a0 c0 el L)::Δ)) w:=by
     rcases List.mem_append.1 hp with hp | hp
     ·exact hfacts p hp A hA
     ·exact hfac p hp A hA
    refine Fact.sat_keep (f:=.st A) hA' (fun k hk hlt=>⟨.inl ⟨hk.1,fun f hf=>hk.2 f (by simp [hf])⟩,fun f hf=>?_⟩) (fun k hlt _=>hbel.block k hlt)
    simp only [List.mem_singleton] at hf; subst hf
    rintro ⟨a',ha',rfl⟩
    injection ha' with ha'
    subst ha'
    simp at hlt
  ·simp only [List.mem_singleton] at hf; subst hf
   obtain ⟨a',ha',rfl⟩:=hk
   injection ha' with ha'
   subst ha'
   exact Nat.le_refl _
 rcases hown.2 with ⟨hv,hn⟩ | ⟨gb,cap,cur,hv,_,hg,hnc,hcm,hcs,htake⟩
 ·injection hv with e1 e2 e3
  subst e1 e3
  have hL0:L=[]:=List.eq_nil_of_length_eq_zero hn
  subst hL0
  have hq0:q=[]:=List.eq_nil_of_length_eq_zero (by simpa using hqL)
  subst hq0
  by_cases h0m:m=0
  ·subst h0m
   have hr0:r'=[]:=List.eq_nil_of_length_eq_zero hm
   subst hr0
   refine ⟨none,0,w,?_,ho⟩
   rcases hS.kind with ⟨e',hk⟩ | hk <;> simp [Builtin.append_,run_underlying hT.und,run_underlying hk,sizeOf,typeInfo,hti,hS.len,hS.cells]
  ·have hr:=run_append_grow_src (P:=P) w ty tx t el ti ez hT.und hti hti3 none 0 0 [] (by simp [Builtin.firstCells]) x m (flat r') hS (by omega) (by omega) (growslice_fits (by omega) (by simpa using hb48))
   have hgr:=grown 0 (by simp; omega)
   simp only [Nat.zero_add,List.nil_append] at hr
   refine ⟨some ⟨w.heap.size,0,none⟩,grownCap w m 0 el,w.drew.alloc (.cells ((flat r').toArray++Builtin.zeroCells ez.cells (grownCap w m 0 el - m)) el),?_,?_⟩
   ·rw [show ([]++List.map (fun x=>x.1) r':List α).length=m by simp [hm]]
    exact hr
   ·simpa [flat] using hgr
 ·injection hv with e1 e2 e3
  subst e1 e3
  by_cases hroom:L.length+m≤c0
  ·have hfit:L.length * ti.size+(flat r').length≤cur.size:=by rw [hfl,hcs,← Nat.add_mul,hsz1]; exact Nat.mul_le_mul_right _ hroom
   have hr:=Xob (P:=P) (w:=w) ty tx t el ti hT.und hti gb L.length c0 cur hg x m (flat r') hS hroom hfit
   refine ⟨some ⟨gb,0,none⟩,c0,_,by rw [hlen]; exact hr,?_⟩
   have howns:∀ (X:List α) k,(buf (some ⟨gb,0,none⟩) c0 el X).owns k↔k=gb:=by
    intro X k
    constructor
    ·rintro ⟨a',ha',rfl⟩; injection ha' with ha'; subst ha'; rfl
    ·rintro rfl; exact ⟨_,rfl,rfl⟩
   have hheap:∀ k,k≠gb→(w.setRow gb (cur.toList.take (L.length * ti.size)++flat r'++cur.toList.drop (L.length * ti.size+(flat r').length)).toArray).heap[k]? = w.heap[k]?:=fun k hk=>by
    simp only [World.setRow,Array.getElem?_modify]; rw [if_neg (by omega)]
   refine ho.swap (b:=gb) (howns L) (howns _) rfl rfl rfl (by simp) hheap ?_
   refine ⟨by rw [hlen]; simp only [lim]; omega,q++r',hmap,⟨by rw [Xbf,hlen]; simp [hqL,hm], .inr ⟨gb,c0,_,rfl,Nat.zero_le _,setRow_heap w gb cur _ el _ hg,by rw [hlen]; exact hroom,hcm,?_,?_⟩⟩,fun p hp A hA=>?_⟩
   ·simp only [List.size_toArray,List.length_append,List.length_take,List.length_drop,Array.length_toList]
    omega
   ·rw [hflat,← htake,hlen,← hsz1]
    simp only []
    refine List.take_left' ?_
    have e9:cur.toList.length=cur.size:=by simp
    rw [List.length_append,List.length_take,hfl,Nat.add_mul]
    omega
   ·have hA':A.holds (fp w0 F (.res (buf (some ⟨gb,0,none⟩) c0 el L)::Δ)) w:=by
     rcases List.mem_append.1 hp with hp | hp
     ·exact hfacts p hp A hA
     ·exact hfac p hp A hA
    refine Fact.sat_keep (f:=.st A) hA' (fun k hk hlt=>⟨hk.1,fun f hf=>?_⟩) (fun k hlt hk=>?_)
    ·rcases List.mem_cons.1 hf with rfl | hf
     ·exact fun h=>hk.2 (.res (buf (some ⟨gb,0,none⟩) c0 el L)) (by simp) ((howns L k).2 ((howns _ k).1 h))
     ·exact hk.2 f (by simp [hf])
    ·have hk':=hk.resolve_right (by simp [Fact.owns])
     exact hheap k (fun e=>hk'.2 (.res (buf (some ⟨gb,0,none⟩) c0 el L)) (by simp) ((howns L k).2 e))
  ·have holds:∀ j u,(flat q)[j]? = some u→w.cell? ((⟨gb,0,none⟩:Addr).add j)=some u:=by
    intro j u hu
    rw [Addr.add_mid,Nat.zero_add,cell_of_row w gb j cur el _ hg]
    rw [← htake,List.getElem?_take] at hu
    split at hu
    ·simpa using hu
    ·cases hu
   have hold:=run_firstCells_some (P:=P) w.drew ti.size L.length ⟨gb,0,none⟩ L.length c0 (flat q) hflq (by simpa using holds)
   have hr:=run_append_grow_src (P:=P) w ty tx t el ti ez hT.und hti hti3 (some ⟨gb,0,none⟩) L.length c0 (flat q) hold x m (flat r') hS (by omega) (by omega) (growslice_fits (by omega) hb48)
   refine ⟨some ⟨w.heap.size,0,none⟩,grownCap w (L.length+m) c0 el,_,?_,grown c0 (by omega)⟩
   rw [hlen]; exact hr
def bytesOf (s:ByteArray):List UInt8:=s.data.toList
end
section
variable {P:Program} {n:Nn} {w0:World} {F:Nat→Prop} {ops:Array Oper} {i d:Nat} {t:TypeId} {pos:String} {aft:Array Edge} {g:Option (Nat × Bool)} {os:List Oper} {Q:Cont} {e:E} {Γ:List Fact}
theorem Xgj (s:ByteArray):(bytesOf s).length=s.size:=by simp [bytesOf]
end
section
variable {P:Program} {n:Nn} {w0:World} {F:Nat→Prop} {ops:Array Oper} {i d:Nat} {t:TypeId} {pos:String} {aft:Array Edge} {g:Option (Nat × Bool)} {os:List Oper} {Q:Cont} {e:E} {Γ:List Fact} [Dr]
def Xdn (L:List UInt8):List (UInt8 × Cell.Ix UInt8):=L.map (fun b=>(b,()))
end
section
variable {P:Program} {n:Nn} {w0:World} {F:Nat→Prop} {ops:Array Oper} {i d:Nat} {t:TypeId} {pos:String} {aft:Array Edge} {g:Option (Nat × Bool)} {os:List Oper} {Q:Cont} {e:E} {Γ:List Fact}
theorem Xgk (L:List UInt8):(Xdn L).length=L.length:=by simp [Xdn]
theorem Xcw (L:List UInt8):flat (Xdn L)=L.map Xaq:=by
 induction L with
 | nil=>rfl
 | cons b L ih=>simp only [Xdn,List.map_cons,flat] at ih ⊢; rw [ih]; rfl
theorem Xfo (L:List UInt8):(Xdn L).map (·.1)=L:=by simp [Xdn,Function.comp_def]
theorem Xoc [Dr] {x y:Operand} {v:Value} {s:ByteArray} {L:List UInt8} {el ty tx:TypeId} {ed:TypeDesc} {sz by_ sz2 by2 es eb:Nat} {z z2 ez:Value} {ecs:List Value} {Δ:List Fact}
  [hx:Ev e x v] [hB:HasBuf Γ v UInt8 iI el L Δ] [hy:Ev e y (.string s)] [hT:Ty P ty (.slice el) sz by_ z] [hU:Ty P tx .string sz2 by2 z2] [hE:Ty P el ed es eb ez] [hz:Cel ez ecs]
  (hd:Nat.blt d n.s=true) (hes:es=1∧ecs.length=es∧eb≤4096) (hl:L.length+s.size≤34359738368)
  (K:∀ a c,JO P n w0 F ops (i+1) os Q ((d, .slice a (L++bytesOf s).length c)::e) (.res (buf a c el (L++bytesOf s))::Δ)) :
  JR P n w0 F ops i ⟨some d, .call ⟨.builtin .append,#[x,y],#[ty,tx]⟩,t,pos,aft,g⟩ os Q e Γ :=
 JR.value hd fun a w fr ho=>by
  obtain ⟨a0,c0,rfl,hperm⟩:=hB.ok
  have hsrc:Src P (Cell.sz UInt8) tx (.string s) s.size (flat (Xdn (bytesOf s))) w:=by
   rw [Xcw]; exact Src.ofString w hU.und s
  obtain ⟨a1,k1,w',hrun,hw'⟩:=Xj5 (P:=P) (t:=t) (ty:=ty) (tx:=tx) (ho.perm hperm) (Xdn (bytesOf s)) (by rw [Xgk,Xgj]) hsrc (fun p hp A hA=>by simp [Cell.facts] at hA) hes (by omega)
  rw [Xfo] at hrun hw'
  refine ⟨_,w',_,?_,hw',K a1 k1⟩
  simp [execOp,Xag,invoke,builtin,hx.ok n a fr,hy.ok n a fr] at hrun ⊢
  simp [hrun]
theorem Xep [Dr] {α:Type} [ic:Cell α] {x y:Operand} {kk k2:IntKind} {j:Int} {k:Nat} {ty tx el:TypeId} {ed:TypeDesc} {sz by_ sz2 by2 es eb:Nat} {z z2 ez:Value} {ecs:List Value}
  [hx:Ev e x (.slice none 0 0)] [hy:Ev e y (.int kk j)] [hk:NatI j k] [hT:Ty P ty (.slice el) sz by_ z] [hU:Ty P tx (.int k2) sz2 by2 z2] [hE:Ty P el ed es eb ez] [hz:Cel ez ecs]
  (hd:Nat.blt d n.s=true) (hes:es=Cell.sz α∧ecs.length=es∧eb≤4096) (hl:0 < k∧k≤34359738368)
  (K:∀ b c,k≤c→JO P n w0 F ops (i+1) os Q ((d, .slice (some ⟨b,0,none⟩) k c)::e) (.res (buf (α:=α) (some ⟨b,0,none⟩) c el [])::Γ)) :
  JR P n w0 F ops i ⟨some d, .call ⟨.builtin .append,#[x,y],#[ty,tx]⟩,t,pos,aft,g⟩ os Q e Γ :=
 JR.value hd fun a w fr ho=>by
  obtain ⟨ti,hti,hti1,hti2,hti3⟩:=hE.some
  have hj:=hk.ok
  subst hj
  have hb48:k * ti.bytes≤281474976710656:=by rw [hti2]; have:=Nat.mul_le_mul hl.2 hes.2.2; omega
  have hr:=Lib.run_append_nil_zeros (P:=P) w ty tx t el ti ez kk k2 hT.und hU.und hti hti3 k hl.1 (by rw [hti1,hes.1]; exact Cell.pos) (by omega) hb48
  have hge:=grownCap_ge w k 0 el
  have hcm:grownCap w k 0 el≤maxLen:=grownCap_le_maxLen w k 0 el (by simp only [maxLen]; omega)
  have hzs:ez.cells.size=ti.size:=by rw [Xbt (v:=ez) (cs:=ecs),hti1]; simpa using hes.2.1
  have hsz1:ti.size=Cell.sz α:=by rw [hti1,hes.1]
  refine ⟨_,w.drew.alloc (.cells (Builtin.zeroCells ez.cells k++Builtin.zeroCells ez.cells (grownCap w k 0 el - k)) el),_,?_,?_,K w.heap.size (grownCap w k 0 el) hge⟩
  ·simp [execOp,Xag,invoke,builtin,hx.ok n a fr,hy.ok n a fr] at hr ⊢
   simp [hr]
  ·have hd':Hold w0 F Γ w.drew:=ho.drew
   refine hd'.push (f:=.res (buf (α:=α) (some ⟨w.heap.size,0,none⟩) (grownCap w k 0 el) el [])) (o:=.cells (Builtin.zeroCells ez.cells k++Builtin.zeroCells ez.cells (grownCap w k 0 el - k)) el) (fun k'=>⟨?_,?_⟩) (fun F' w' hw=>?_)
   ·rintro ⟨a',ha',rfl⟩; injection ha' with ha'; subst ha'; rfl
   ·rintro rfl; exact ⟨_,rfl,rfl⟩
   ·refine ⟨by simp [lim],[],rfl,⟨by simp [flat], .inr ⟨w.heap.size,_,_,rfl,Nat.zero_le _,hw,Nat.zero_le _,hcm,?_,by simp [flat]⟩⟩,by simp⟩
    simp only [Array.size_append,size_zeroCells,hzs,← Nat.add_mul,← hsz1]
    congr 1
    omega
theorem Xuu (c:Nat):(madeCells (Value.cells (Xaq 0)) (c * 1))=((List.replicate c (0:UInt8)).map Xaq).toArray:=by
 apply Array.ext
 ·simp [size_madeCells]
 ·intro i h1 h2
  simp [madeCells,Value.cells,Xaq,Nat.mod_one]
theorem Xod [Dr] {x y:Operand} {kk k2:IntKind} {j j2:Int} {l c:Nat} {ty el:TypeId} {ed:TypeDesc} {sz by_:Nat} {z:Value}
  [hx:Ev e x (.int kk j)] [hk:NatI j l] [hy:Ev e y (.int k2 j2)] [hk2:NatI j2 c] [hT:Ty P ty (.slice el) sz by_ z] [hE:Ty P el ed 1 1 (Xaq 0)]
  (hd:Nat.blt d n.s=true) (hl:l≤c∧c≤34359738368)
  (K:∀ b,JO P n w0 F ops (i+1) os Q ((d, .slice (some ⟨b,0,none⟩) (List.replicate l (0:UInt8)).length c)::e) (.res (buf (some ⟨b,0,none⟩) c el (List.replicate l (0:UInt8)))::Γ)) :
  JR P n w0 F ops i ⟨some d, .makeSlice ty x y,t,pos,aft,g⟩ os Q e Γ :=
 JR.value hd fun a w fr ho=>by
  obtain ⟨ti,hti,hti1,hti2,hti3⟩:=hE.some
  have hj:=hk.ok
  have hj2:=hk2.ok
  subst hj hj2
  have hr:=run_make (P:=P) w ty el ti (Xaq 0) hT.und hti hti3 kk k2 (l:Int) (c:Int) (by omega) (by omega) (by rw [hti2]; omega) (by omega)
  simp only [Int.toNat_natCast,hti1,Xuu] at hr
  refine ⟨_,w.alloc (.cells ((List.replicate c (0:UInt8)).map Xaq).toArray el),_,?_,?_,K w.heap.size⟩
  ·simp [execOp,hx.ok n a fr,hy.ok n a fr,hr]
  ·refine ho.push (f:=.res (buf (some ⟨w.heap.size,0,none⟩) c el (List.replicate l (0:UInt8)))) (o:=.cells ((List.replicate c (0:UInt8)).map Xaq).toArray el) (fun k'=>⟨?_,?_⟩) (fun F' w' hw=>?_)
   ·rintro ⟨a',ha',rfl⟩; injection ha' with ha'; subst ha'; rfl
   ·rintro rfl; exact ⟨_,rfl,rfl⟩
   ·refine ⟨by simp [lim]; omega,Xdn (List.replicate l (0:UInt8)),Xfo _,⟨by rw [Xcw]; simp [Cell.sz], .inr ⟨w.heap.size,_,_,rfl,Nat.zero_le _,hw,by simp; omega,by simp [maxLen]; omega,by simp [Cell.sz],?_⟩⟩,fun p hp A hA=>by simp [Cell.facts] at hA⟩
    rw [Xcw]
    simp [Cell.sz,List.take_replicate]
    omega
theorem Xfj [Dr] {x lo:Operand} {ty el:TypeId} {b o m l sz by_ es eb:Nat} {z ez:Value} {ed:TypeDesc} {kk:IntKind} {j:Int} [hx:Ev e x (.pointer (some ⟨b,o,none⟩))] [hi:Ev e lo (.int kk j)] [hk:NatI j l]
  [hT:Ty P ty (.array m el) sz by_ z] [hE:Ty P el ed es eb ez] (hm:l < m) (hes:es=1):OpV P n w0 F ⟨d, .slice ty x (some lo) none none,t,pos,aft,g⟩ e Γ (.slice (some ⟨b,o+l,none⟩) (m - l) (m - l)) :=
 fun a w fr _=>by
  have h1:=Xaz (P:=P) (t:=ty) w
  have h2:=Xbg (P:=P) (t:=el) w
  have hj:=hk.ok
  subst hj hes
  have h3:(Instr.sliceBound (.int kk (l:Int)) m .sliceB).run P w = .ok l w:=by
   simp [Instr.sliceBound,asIntOf]
   omega
  have h4:¬ m=l:=by omega
  simp [execOp,hx.ok n a fr,hi.ok n a fr,Instr.sliceAt,h1,h2,Instr.sureAddr,Instr.sliceBounds,h3,h4,Addr.add_mid]
theorem Xlg [Dr] {x hi':Operand} {ty el:TypeId} {b o m k sz by_ es eb:Nat} {z ez:Value} {ed:TypeDesc} {kk:IntKind} {j:Int} [hx:Ev e x (.pointer (some ⟨b,o,none⟩))] [hi:Ev e hi' (.int kk j)] [hk:NatI j k]
  [hT:Ty P ty (.array m el) sz by_ z] [hE:Ty P el ed es eb ez] (hm:k≤m):OpV P n w0 F ⟨d, .slice ty x none (some hi') none,t,pos,aft,g⟩ e Γ (.slice (some ⟨b,o,none⟩) k m) :=
 fun a w fr _=>by
  have h1:=Xaz (P:=P) (t:=ty) w
  have h2:=Xbg (P:=P) (t:=el) w
  have hj:=hk.ok
  subst hj
  have h3:(Instr.sliceBound (.int kk (k:Int)) m .sliceAlen).run P w = .ok k w:=by
   simp [Instr.sliceBound,asIntOf]
   omega
  simp [execOp,hx.ok n a fr,hi.ok n a fr,Instr.sliceAt,h1,h2,Instr.sureAddr,Instr.sliceBounds,h3,Addr.add]
theorem Xoe [Dr] {x y:Operand} {b o dl dc b2 o2 sl_ sc:Nat} {vs us cs:List Value} {bt ty ty2 el:TypeId} {ed:TypeDesc} {sz by_ eb p:Nat} {z ez:Value} {Δ:List Fact} {a:Act} {w:World} {d:Option Nat}
  [hx:Ev e x (.slice (some ⟨b,o,none⟩) dl dc)] [hO:Own Γ b bt vs Δ] [hy:Ev e y (.slice (some ⟨b2,o2,none⟩) sl_ sc)] [hA:At Γ b2 p us] [hT:Ty P ty (.slice el) sz by_ z] [hE:Ty P el ed 1 eb ez]
  (hcs:(us.drop (o2 - p)).take (Nat.min sl_ dl)=cs) (hp:p≤o2) (hlen:cs.length=Nat.min sl_ dl) (hfit:o+cs.length≤vs.length) (h1:One cs) (fr:Fr n e a) (ho:Hold w0 F Γ w) :
  (execOp a.eval ⟨d, .call ⟨.builtin .copy,#[x,y],#[ty,ty2]⟩,t,pos,aft,g⟩).run P w = .ok (.value (goInt cs.length)) (w.setRow b (vs.take o++cs++vs.drop (o+cs.length)).toArray)∧Hold w0 F (.own b bt (vs.take o++cs++vs.drop (o+cs.length))::Δ) (w.setRow b (vs.take o++cs++vs.drop (o+cs.length)).toArray):=by
 have hpm:=ho.perm hO.ok
 have hw:w.heap[b]? = some (.cells vs.toArray bt (0,0)):=hpm.sat (.own b bt vs) (by simp)
 have hr:=Xco (hA.ok w0 F w ho) hcs
 rw [show p+(o2 - p)=o2 by omega] at hr
 obtain ⟨ti,hti,hti1,_,_⟩:=hE.some
 have hrun:=run_copy_row (P:=P) w ty ty2 t el b o dl dc ⟨b2,o2,none⟩ sl_ sc vs.toArray bt cs hT.und (by rw [hti]; simp [hti1]) hw hlen (fun j v hv=>by rw [Addr.add_mid]; exact hr j v hv) (by simpa using hfit) h1.ok
 refine ⟨?_,hpm.setRow⟩
 simp [execOp,Xag,invoke,builtin,hx.ok n a fr,hy.ok n a fr] at hrun ⊢
 simp [hrun]
theorem Xl0 [Dr] {x y:Operand} {b o dl dc b2 o2 sl_ sc:Nat} {vs us cs:List Value} {bt ty ty2 el:TypeId} {ed:TypeDesc} {sz by_ eb p:Nat} {z ez:Value} {Δ:List Fact}
  [hx:Ev e x (.slice (some ⟨b,o,none⟩) dl dc)] [hO:Own Γ b bt vs Δ] [hy:Ev e y (.slice (some ⟨b2,o2,none⟩) sl_ sc)] [hA:At Γ b2 p us] [hT:Ty P ty (.slice el) sz by_ z] [hE:Ty P el ed 1 eb ez]
  (hd:Nat.blt d n.s=true) (hcs:(us.drop (o2 - p)).take (Nat.min sl_ dl)=cs) (hp:p≤o2) (hlen:cs.length=Nat.min sl_ dl) (hfit:o+cs.length≤vs.length) (h1:One cs)
  (K:JO P n w0 F ops (i+1) os Q ((d,goInt cs.length)::e) (.own b bt (vs.take o++cs++vs.drop (o+cs.length))::Δ)) :
  JR P n w0 F ops i ⟨some d, .call ⟨.builtin .copy,#[x,y],#[ty,ty2]⟩,t,pos,aft,g⟩ os Q e Γ :=
 JR.value hd fun a w fr ho=>by
  obtain ⟨hr,hh⟩:=Xoe (P:=P) (x:=x) (y:=y) (b:=b) (o:=o) (b2:=b2) (o2:=o2) (us:=us) (t:=t) (pos:=pos) (aft:=aft) (g:=g) (hT:=hT) (hE:=hE) (ty2:=ty2) (d:=some d) hcs hp hlen hfit h1 fr ho
  exact ⟨_,_,_,hr,hh,K⟩
theorem JM.reslot [Dr] {ops:List Oper} {m fuel:Nat} {done:List Bool} (s:Nat) {v:Value} (u:Value) [hs:Lk e s v] (h:v=u) (k:JM P n w0 F ops m fuel done Q ((s,u)::e) Γ):JM P n w0 F ops m fuel done Q e Γ :=
 fun a w fr ho=>k a w (fr.again (by rw [← h]; exact hs.ok)) ho
theorem JQ.reslot [Dr] {ops os:List Oper} {K:E→Prop} (s:Nat) {v:Value} (u:Value) [hs:Lk e s v] (h:v=u) (k:JQ P n w0 F ops os K ((s,u)::e) Γ):JQ P n w0 F ops os K e Γ :=
 fun a fr=>k a (fr.again (by rw [← h]; exact hs.ok))
theorem JO.reown [Dr] {bt:TypeId} {vs:List Value} {Δ:List Fact} (b:Nat) (vs':List Value) [hO:Own Γ b bt vs Δ] (h:vs=vs') (k:JO P n w0 F ops i os Q e (.own b bt vs'::Δ)):JO P n w0 F ops i os Q e Γ :=
 JO.more (fun w ho=>by rw [← h]; exact ho.perm hO.ok) k
theorem Xso [Dr] {x y:Operand} {v u:Value} {L M:List UInt8} {el ty ty2:TypeId} {ed:TypeDesc} {sz by_ eb:Nat} {z ez:Value} {Δ:List Fact}
  [hx:Ev e x v] [hB:HasBuf Γ v UInt8 iI el L Δ] [hy:Ev e y u] [hS:HasSl Γ u UInt8 iI M] [hT:Ty P ty (.slice el) sz by_ z] [hE:Ty P el ed 1 eb ez]
  (hd:Nat.blt d n.s=true) (hl:L.length=M.length)
  (K:∀ a c,v = .slice a M.length c→JO P n w0 F ops (i+1) os Q ((d, .int .i64 (M.length:Int))::e) (.res (buf a c el M)::Δ)) :
  JR P n w0 F ops i ⟨some d, .call ⟨.builtin .copy,#[x,y],#[ty,ty2]⟩,t,pos,aft,g⟩ os Q e Γ :=
 JR.value hd fun a w fr ho=>by
  obtain ⟨a0,c0,rfl,hperm⟩:=hB.ok
  obtain ⟨a1,c1,rfl,hsl⟩:=hS.holds ho
  obtain ⟨ti,hti,hti1,_,_⟩:=hE.some
  have hsz:(P.info? el).map (·.size)=some 1:=by rw [hti]; simp [hti1]
  have hp:=ho.perm hperm
  obtain ⟨h0,q,hq,hown,_⟩:(buf a0 c0 el L).holds _ w:=hp.sat (.res (buf a0 c0 el L)) (by simp)
  by_cases hM:M=[]
  ·subst hM
   have hL:L=[]:=List.eq_nil_of_length_eq_zero (by simpa using hl)
   subst hL
   have hrun:=run_copy_none (P:=P) w ty ty2 t el a0 a1 0 c0 0 c1 hT.und hsz rfl
   refine ⟨_,w,_,?_,hp,K a0 c0 rfl⟩
   simp [execOp,Xag,invoke,builtin,hx.ok n a fr,hy.ok n a fr] at hrun ⊢
   simp [hrun]
   rfl
  ·have hsl':=Xul hsl hperm
   obtain ⟨b1,o1,rfl,hF,hlt,hrow⟩:=hsl'.2.2.2 hM
   rcases hown.2 with ⟨hv,hn⟩ | ⟨gb,cap,cur,hv,_,hg,hnc,hcm,hcs,htake⟩
   ·exact (hM (List.eq_nil_of_length_eq_zero (by omega))).elim
   ·injection hv with e1 e2 e3
    subst e1 e3
    have hsrc:∀ j v,(M.map Xaq)[j]? = some v→w.cell? ((⟨b1,o1,none⟩:Addr).add j)=some v:=by
     intro j v hv
     rw [List.getElem?_map] at hv
     cases hq':M[j]? with
     | none=>rw [hq'] at hv; cases hv
     | some q' =>
      rw [hq'] at hv
      obtain ⟨hjl,hju⟩:=List.getElem?_eq_some_iff.1 hq'
      injection hv with hv
      subst hv hju
      rw [Addr.add_mid]
      exact Xmu hsl' j hjl
    have hone:∀ v∈M.map Xaq,v.oneCell'=true:=one_bytes.ok
    have hcur:cur.size=c0:=by simpa [Cell.sz] using hcs
    have hrun:=run_copy_row (P:=P) w ty ty2 t el gb 0 L.length c0 ⟨b1,o1,none⟩ M.length c1 cur el (M.map Xaq) hT.und hsz hg (by simp [hl]) hsrc (by simp; omega) hone
    refine ⟨.int .i64 (M.length:Int),w.setRow gb ((M.map Xaq)++cur.toList.drop M.length).toArray,_,?_,?_,K (some ⟨gb,0,none⟩) c0 (by rw [hl])⟩
    ·simp [execOp,Xag,invoke,builtin,hx.ok n a fr,hy.ok n a fr] at hrun ⊢
     simp [hrun,goInt]
    ·have howns:∀ (X:List UInt8) k,(buf (some ⟨gb,0,none⟩) c0 el X).owns k↔k=gb:=by
      intro X k
      constructor
      ·rintro ⟨a',ha',rfl⟩; injection ha' with ha'; subst ha'; rfl
      ·rintro rfl; exact ⟨_,rfl,rfl⟩
     refine hp.swap (b:=gb) (howns L) (howns M) rfl rfl rfl (by simp) (fun k hk=>by simp only [World.setRow,Array.getElem?_modify]; rw [if_neg (by omega)]) ?_
     refine ⟨by rw [← hl]; exact h0,Xdn M,Xfo _,⟨by rw [Xcw]; simp [Cell.sz], .inr ⟨gb,c0,_,rfl,Nat.zero_le _,setRow_heap w gb cur _ el _ hg,by omega,hcm,?_,?_⟩⟩,fun p hp A hA=>by simp [Cell.facts] at hA⟩
     ·simp [Cell.sz]; omega
     ·rw [Xcw]
      simp [Cell.sz]
end
abbrev MkY:=Option Addr × Nat
structure Mk where
 i:Nat
 d:Nat
 o:Oper
 v:MkY→Value
 B:MkY→List Fact
def Xar:List Bool→Nat→List Nat→List Bool
 | [],_,_=>[]
 | b::r,k,T=>(b || T.contains k)::Xar r (k+1) T
theorem Xof (i:Nat) (T:List Nat):∀ (done:List Bool) (k:Nat),(Xar done k T).set i true=Xar done k ((k+i)::T):=by
 have key:∀ (done:List Bool) (k i:Nat),i < k→Xar done k (i::T)=Xar done k T:=by
  intro done
  induction done with
  | nil=>intro k i _; rfl
  | cons b r ih =>
   intro k i h
   simp only [Xar,ih (k+1) i (by omega),List.contains_cons]
   congr 2
   rw [show (k == i)=false by simp; omega]
   simp
 intro done
 induction done generalizing i with
 | nil=>intro k; rfl
 | cons b r ih =>
  intro k
  cases i with
  | zero=>simp [Xar,key r (k+1) k (by omega)]
  | succ i =>
   simp only [Xar,List.set_cons_succ,ih i (k+1),List.contains_cons]
   rw [show (k == k+(i+1))=false by simp,show k+1+i=k+(i+1) by omega]
   simp
theorem Xdf {T T':List Nat} (h:∀ k,k∈T↔k∈T'):∀ (done:List Bool) (k:Nat),Xar done k T=Xar done k T'
 | [],_=>rfl
 | b::r,k=>by
  simp only [Xar,Xdf h r (k+1)]
  congr 2
  rw [Bool.eq_iff_iff,List.contains_iff_mem,List.contains_iff_mem]
  exact h k
theorem Xih:∀ (done:List Bool) (k:Nat),Xar done k []=done
 | [],_=>rfl
 | b::r,k=>by simp [Xar,Xih r (k+1)]
def subs:List Nat→List (List Nat)
 | []=>[[]]
 | a::l=>subs l++(subs l).map (a::·)
theorem Xj6 (p:Nat→Bool):∀ l:List Nat,l.filter p∈subs l
 | []=>by simp [subs]
 | a::l=>by
  have ih:=Xj6 p l
  simp only [subs,List.filter_cons,List.mem_append,List.mem_map]
  split
  ·exact .inr ⟨_,ih,rfl⟩
  ·exact .inl ih
theorem Xzo {d i:Nat} (h:d≠i):Nat.beq d i=false:=by
 rw [← Bool.not_eq_true]
 exact fun e=>h (Nat.eq_of_beq_eq_true e)
def Xgp (ops:List Oper) (done:List Bool) (m s:Nat) (is:List Nat):Bool :=
 is.all (fun i=>Nat.blt i m) && decide is.Nodup && ((subs is).all fun T=>(is.filter (fun i=>!T.contains i) == [s]) || ((is.filter (fun i=>!T.contains i)).isEmpty || (Region.ready .any ⟨ops⟩ ⟨Xar done 0 T⟩) == is.filter (fun i=>!T.contains i)))
def Xj7 (e:E) (n:Nat):List Nat→Bool
 | []=>true
 | d::r=>(look e d).isNone && Nat.blt d n && !r.contains d && Xj7 e n r
def Xd5 (S:List (Mk × MkY)):E:=S.map (fun p=>(p.1.d,p.1.v p.2))
def Xeq (S:List (Mk × MkY)):List Fact:=S.flatMap (fun p=>p.1.B p.2)
theorem Xp2 {S e:E} {i:Nat} {u:Value} (h:look (S++e) i=some u):(i,u)∈S∨look e i=some u:=by
 induction S with
 | nil=>exact .inr h
 | cons p S ih =>
  obtain ⟨d,v⟩:=p
  simp only [List.cons_append,look] at h
  cases hb:Nat.beq d i with
  | true =>
   rw [hb] at h
   simp only [cond_true,Option.some.injEq] at h
   have:=Nat.eq_of_beq_eq_true hb
   subst this h
   exact .inl (by simp)
  | false =>
   rw [hb] at h
   rcases ih h with h | h
   ·exact .inl (by simp [h])
   ·exact .inr h
theorem Xp3 {S e:E} (hn:(S.map (·.1)).Nodup) {i:Nat} {u:Value} (h:(i,u)∈S):look (S++e) i=some u:=by
 induction S with
 | nil=>cases h
 | cons p S ih =>
  obtain ⟨d,v⟩:=p
  simp only [List.map_cons,List.nodup_cons] at hn
  simp only [List.cons_append,look]
  rcases List.mem_cons.1 h with h | h
  ·injection h with h1 h2
   subst h1 h2
   simp
  ·have:Nat.beq d i=false:=Xzo (fun e=>hn.1 (by subst e; exact List.mem_map.2 ⟨_,h,rfl⟩))
   rw [this]
   exact ih hn.2 h
theorem Xl1 {S e:E} {i:Nat} {u:Value} (hS:∀ p∈S,look e p.1=none) (h:look e i=some u):look (S++e) i=some u:=by
 induction S with
 | nil=>exact h
 | cons p S ih =>
  obtain ⟨d,v⟩:=p
  simp only [List.cons_append,look]
  have:Nat.beq d i=false:=Xzo (fun e'=>by subst e'; have:=hS (d,v) (by simp); rw [h] at this; cases this)
  rw [this]
  exact ih (fun p hp=>hS p (by simp [hp]))
theorem Fr.rest {n:Nn} {S e:E} {a:Act} (h:Fr n (S++e) a) (hS:∀ p∈S,look e p.1=none):Fr n e a :=
 ⟨h.defers,h.size,fun i u hu=>h.slot i u (Xl1 hS hu)⟩
theorem Fr.swapS {n:Nn} {S S' e:E} {a:Act} (h:Fr n (S++e) a) (hS:∀ p∈S,look e p.1=none) (hn:(S.map (·.1)).Nodup) (hp:S.Perm S'):Fr n (S'++e) a :=
 ⟨h.defers,h.size,fun i u hu=>by
  rcases Xp2 hu with hu | hu
  ·exact h.slot i u (Xp3 hn (hp.mem_iff.2 hu))
  ·exact h.slot i u (Xl1 hS hu)⟩
theorem Xog {α β:Type} {f:α→β} {l l':List β} (h:l.Perm l'):∀ (S:List α),S.map f=l→∃ S',S.Perm S'∧S'.map f=l':=by
 induction h with
 | nil=>intro S hS; exact ⟨S, .refl _,hS⟩
 | cons x _ ih =>
  intro S hS
  cases S with
  | nil=>cases hS
  | cons s S =>
   simp only [List.map_cons,List.cons.injEq] at hS
   obtain ⟨S',h1,h2⟩:=ih S hS.2
   exact ⟨s::S',h1.cons s,by simp [hS.1,h2]⟩
 | swap x y l =>
  intro S hS
  match S,hS with
  | s::s'::S,hS =>
   simp only [List.map_cons,List.cons.injEq] at hS
   exact ⟨s'::s::S,List.Perm.swap _ _ _,by simp [hS]⟩
 | trans _ _ ih1 ih2 =>
  intro S hS
  obtain ⟨S',h1,h2⟩:=ih1 S hS
  obtain ⟨S2,h3,h4⟩:=ih2 S' h2
  exact ⟨S2,h1.trans h3,h4⟩
theorem Xii {S S':List (Mk × MkY)} (h:S.Perm S'):(Xeq S).Perm (Xeq S'):=by
 induction h with
 | nil=>exact .refl _
 | cons x _ ih=>exact List.Perm.append_left _ ih
 | swap x y l =>
  simp only [Xeq,List.flatMap_cons,← List.append_assoc]
  exact List.Perm.append_right _ List.perm_append_comm
 | trans _ _ ih1 ih2=>exact ih1.trans ih2
section
variable {P:Program} {n:Nn} {w0:World} {F:Nat→Prop} {ops:List Oper} {m fuel i d:Nat} {done done':List Bool} {t:TypeId} {pos:String} {aft:Array Edge} {g:Option (Nat × Bool)} {Q:Cont} {e:E} {Γ:List Fact} [Dr]
def Mk.ok (P:Program) (n:Nn) (w0:World) (F:Nat→Prop) (ops:List Oper) (e:E) (Γ:List Fact) (k:Mk):Prop :=
 ops[k.i]? = some k.o∧k.o.guard=none∧k.o.dst=some k.d ∧
  ∀ X a w,Fr n e a→Hold w0 F (X++Γ) w→k.o.wp P a w (fun a' w'=>Bel w.heap.size w w'∧∃ y,a'=a.put (some k.d) (k.v y)∧Fresh w.heap.size (fp w0 F (X++Γ)) (k.B y) w') Xn4
end
section
variable {P:Program} {n:Nn} {w0:World} {F:Nat→Prop} {ops:List Oper} {m fuel i d:Nat} {done done':List Bool} {t:TypeId} {pos:String} {aft:Array Edge} {g:Option (Nat × Bool)} {Q:Cont} {e:E} {Γ:List Fact}
theorem Xoh {ds:List Nat} (h:Xj7 e n.s ds=true):ds.Nodup∧∀ d∈ds,look e d=none∧Nat.blt d n.s=true:=by
 induction ds with
 | nil=>exact ⟨List.nodup_nil,by simp⟩
 | cons d r ih =>
  simp only [Xj7,Bool.and_eq_true,Bool.not_eq_true'] at h
  obtain ⟨⟨⟨h1,h2⟩,h3⟩,h4⟩:=h
  obtain ⟨h5,h6⟩:=ih h4
  refine ⟨List.nodup_cons.2 ⟨by simpa using h3,h5⟩,fun d' hd'=>?_⟩
  rcases List.mem_cons.1 hd' with rfl | hd'
  ·exact ⟨by simpa using h1,h2⟩
  ·exact h6 d' hd'
end
section
variable {P:Program} {n:Nn} {w0:World} {F:Nat→Prop} {ops:List Oper} {m fuel i d:Nat} {done done':List Bool} {t:TypeId} {pos:String} {aft:Array Edge} {g:Option (Nat × Bool)} {Q:Cont} {e:E} {Γ:List Fact} [Dr]
theorem Xoi (s:Mk) (ms1:List Mk) (hms:∀ k∈s::ms1,k.ok P n w0 F ops e Γ) (hord:Xgp ops done m s.i ((s::ms1).map (·.i))=true) (hsl:Xj7 e n.s ((s::ms1).map (·.d))=true)
  (K:∀ S:List (Mk × MkY),S.map (·.1)=s::ms1→JM P n w0 F ops m fuel (Xar done 0 ((s::ms1).map (·.i))) Q (Xd5 S++e) (Xeq S++Γ))
  (K2:∀ S:List (Mk × MkY),S.map (·.1)=ms1→JM P n w0 F ops m (fuel+1) (Xar done 0 (ms1.map (·.i))) Q (Xd5 S++e) (Xeq S++Γ)) :
  JM P n w0 F ops m (fuel+(ms1.length+1)) done Q e Γ:=by
 obtain ⟨ms,hmsdef⟩:∃ ms,ms=s::ms1:=⟨_,rfl⟩
 rw [← hmsdef] at hms hord hsl K
 obtain ⟨hnd,hfr⟩:=Xoh hsl
 simp only [Xgp,Bool.and_eq_true,List.all_eq_true] at hord
 obtain ⟨⟨hm,hnodup⟩,hord⟩:=hord
 have hnodup:(ms.map (·.i)).Nodup:=of_decide_eq_true hnodup
 have core:∀ (rem:List Mk) (S:List (Mk × MkY)),(S.map (·.1)++rem).Perm ms →
   JM P n w0 F ops m (fuel+rem.length) (Xar done 0 (S.map (·.1.i))) Q (Xd5 S++e) (Xeq S++Γ):=by
  intro rem
  induction hk:rem.length generalizing rem with
  | zero =>
   intro S hp
   have hr:rem=[]:=List.eq_nil_of_length_eq_zero hk
   subst hr
   rw [List.append_nil] at hp
   obtain ⟨S',h1,h2⟩:=Xog hp S rfl
   have hdone:Xar done 0 (S.map (·.1.i))=Xar done 0 (ms.map (·.i)):=Xdf (fun k=>by
    have h3:(S.map (·.1.i)).Perm (ms.map (·.i)):=by
     have:=hp.map (·.i)
     simpa [Function.comp_def] using this
    exact h3.mem_iff) _ _
   rw [hdone]
   have hK:=K S' h2
   intro a w fr ho
   have hd1:((Xd5 S).map (·.1)).Perm (ms.map (·.d)):=by
    have:=hp.map (·.d)
    simpa [Xd5,Function.comp_def] using this
   refine hK a w (fr.swapS (fun p hp'=>?_) (hd1.nodup_iff.2 hnd) (h1.map _)) (ho.perm ((Xii h1).append_right Γ))
   exact (hfr p.1 (hd1.mem_iff.1 (List.mem_map_of_mem hp'))).1
  | succ r ih =>
   intro S hp
   by_cases hlast:rem.map (·.i)=[s.i]
   ·obtain ⟨q,hq,hqi⟩:∃ q,rem=[q]∧q.i=s.i:=by
     cases rem with
     | nil=>cases hlast
     | cons q rem =>
      simp only [List.map_cons,List.cons.injEq,List.map_eq_nil_iff] at hlast
      exact ⟨q,by rw [hlast.2],hlast.1⟩
    subst hq
    have hqs:q=s:=by
     have h1:q∈ms:=hp.mem_iff.1 (by simp)
     rw [hmsdef] at h1
     rcases List.mem_cons.1 h1 with h1 | h1
     ·exact h1
     ·rw [hmsdef] at hnodup
      simp only [List.map_cons,List.nodup_cons] at hnodup
      exact (hnodup.1 (by rw [← hqi]; exact List.mem_map_of_mem h1)).elim
    subst hqs
    have hp1:(S.map (·.1)).Perm ms1:=by
     rw [hmsdef] at hp
     exact List.Perm.cons_inv ((List.perm_append_comm (l₁:=[q])).trans hp)
    obtain ⟨S',h1,h2⟩:=Xog hp1 S rfl
    have hr:r=0:=by simpa using hk.symm
    subst hr
    have hdone:Xar done 0 (S.map (·.1.i))=Xar done 0 (ms1.map (·.i)):=Xdf (fun k=>by
     have h3:(S.map (·.1.i)).Perm (ms1.map (·.i)):=by
      have:=hp1.map (·.i)
      simpa [Function.comp_def] using this
     exact h3.mem_iff) _ _
    rw [hdone]
    have hK:=K2 S' h2
    intro a w fr ho
    have hd1:((Xd5 S).map (·.1)).Perm (ms1.map (·.d)):=by
     have:=hp1.map (·.d)
     simpa [Xd5,Function.comp_def] using this
    have hnd1:(ms1.map (·.d)).Nodup:=by
     rw [hmsdef] at hnd
     exact (List.nodup_cons.1 hnd).2
    refine hK a w (fr.swapS (fun p hp'=>?_) (hd1.nodup_iff.2 hnd1) (h1.map _)) (ho.perm ((Xii h1).append_right Γ))
    refine (hfr p.1 ?_).1
    rw [hmsdef]
    exact List.mem_cons_of_mem _ (hd1.mem_iff.1 (List.mem_map_of_mem hp'))
   rw [show fuel+(r+1)=(fuel+r)+1 by omega]
   have hmem:∀ k,k∈S.map (·.1)++rem→k∈ms:=fun k hk=>hp.mem_iff.1 hk
   have hT:Xar done 0 (S.map (·.1.i))=Xar done 0 ((ms.map (·.i)).filter (fun i=>(S.map (·.1.i)).contains i)):=Xdf (fun k=>by
    simp only [List.mem_filter,List.contains_iff_mem]
    refine ⟨fun h=>⟨?_,h⟩,fun h=>h.2⟩
    obtain ⟨p,hp',rfl⟩:=List.mem_map.1 h
    exact List.mem_map_of_mem (hmem p.1 (List.mem_append_left _ (List.mem_map_of_mem hp')))) _ _
   have hready:=hord _ (Xj6 (fun i=>(S.map (·.1.i)).contains i) (ms.map (·.i)))
   have hperm:(S.map (·.1.i)++rem.map (·.i)).Perm (ms.map (·.i)):=by
    have:=hp.map (·.i)
    simpa [Function.comp_def] using this
   have hnot:∀ k∈rem,k.i∉S.map (·.1.i):=fun k hk hS =>
    (List.nodup_append.1 (hperm.nodup_iff.2 hnodup)).2.2 _ hS _ (List.mem_map_of_mem hk) rfl
   have hmemr:∀ i,i∈(ms.map (·.i)).filter (fun i=>!((ms.map (·.i)).filter (fun i=>(S.map (·.1.i)).contains i)).contains i)↔∃ k∈rem,k.i=i:=by
    intro i
    simp only [List.mem_filter,Bool.not_eq_true',List.contains_eq_mem,decide_eq_false_iff_not,decide_eq_true_eq]
    constructor
    ·rintro ⟨h1,h2⟩
     obtain ⟨k,hk,rfl⟩:=List.mem_map.1 h1
     rcases List.mem_append.1 (hp.mem_iff.2 hk) with h | h
     ·obtain ⟨p,hp',rfl⟩:=List.mem_map.1 h
      exact (h2 ⟨h1,List.mem_map_of_mem (f:=fun p=>p.1.i) hp'⟩).elim
     ·exact ⟨k,h,rfl⟩
    ·rintro ⟨k,hk,rfl⟩
     exact ⟨List.mem_map_of_mem (hmem k (List.mem_append_right _ hk)),fun h=>hnot k hk h.2⟩
   have hready:Region.ready .any ⟨ops⟩ ⟨Xar done 0 (S.map (·.1.i))⟩=(ms.map (·.i)).filter (fun i=>!((ms.map (·.i)).filter (fun i=>(S.map (·.1.i)).contains i)).contains i):=by
    rw [hT]
    rw [Bool.or_eq_true] at hready
    rcases hready with h | h
    ·exfalso
     have h:=eq_of_beq h
     refine hlast ?_
     have hn2:(rem.map (·.i)).Nodup:=(List.nodup_append.1 (hperm.nodup_iff.2 hnodup)).2.1
     have h5:∀ i,i∈rem.map (·.i)↔i=s.i:=fun i=>by
      have:=hmemr i
      rw [h] at this
      simp only [List.mem_singleton] at this
      rw [this,List.mem_map]
     revert hn2 h5
     generalize rem.map (·.i)=lr
     intro hn2 h5
     cases lr with
     | nil=>exact absurd ((h5 s.i).2 rfl) (by simp)
     | cons x lr =>
      cases lr with
      | nil=>rw [(h5 x).1 (by simp)]
      | cons y l =>
       have e1:=(h5 x).1 (by simp)
       have e2:=(h5 y).1 (by simp)
       rw [e1,e2] at hn2
       simp at hn2
    rw [Bool.or_eq_true] at h
    rcases h with h | h
    ·exfalso
     have h1:=(hmemr _).2 ⟨rem.head (by intro h0; rw [h0] at hk; cases hk),List.head_mem _,rfl⟩
     rw [List.isEmpty_iff.1 h] at h1
     cases h1
    ·exact eq_of_beq h
   refine JM.all hready ?_ fun i hi=>?_
   ·cases rem with
    | nil=>cases hk
    | cons k rem =>
     rw [← Bool.not_eq_true]
     intro hemp
     have h1:=(hmemr k.i).2 ⟨k,by simp,rfl⟩
     rw [List.isEmpty_iff.1 hemp] at h1
     cases h1
   ·obtain ⟨k,hkr,rfl⟩:=(hmemr i).1 hi
    have hkm:=hmem k (List.mem_append_right _ hkr)
    obtain ⟨h1,h2,h3,h4⟩:=hms k hkm
    refine ⟨Nat.blt_eq.mp (hm _ (List.mem_map_of_mem hkm)),k.o,h1,by rw [h2]; rfl,fun a w fr ho=>?_⟩
    obtain ⟨s,t,rfl⟩:=List.append_of_mem hkr
    have hSfr:∀ p∈Xd5 S,look e p.1=none:=by
     intro p hp'
     obtain ⟨q,hq,rfl⟩:=List.mem_map.1 hp'
     exact (hfr q.1.d (List.mem_map_of_mem (hmem q.1 (List.mem_append_left _ (List.mem_map_of_mem hq))))).1
    refine Oper.wp_mono (fun a' w' h=>⟨h.1,?_⟩) (h4 (Xeq S) a w (fr.rest hSfr) ho)
    obtain ⟨y,rfl,hfresh⟩:=h.2
    refine ⟨(k.d,k.v y)::(Xd5 S++e),k.B y++(Xeq S++Γ),?_,fr.put (hfr k.d (List.mem_map_of_mem hkm)).2 _,ho.call h.1 hfresh⟩
    have hih:=ih (s++t) (by simp at hk ⊢; omega) ((k,y)::S) (by
     refine List.Perm.trans ?_ hp
     simp only [List.map_cons,List.cons_append]
     rw [← List.append_assoc,← List.append_assoc]
     exact List.perm_middle.symm)
    have hd:(Xar done 0 (S.map (·.1.i))).set k.i true=Xar done 0 (((k,y)::S).map (·.1.i)):=by
     rw [Xof,Nat.zero_add]; rfl
    rw [hd]
    simpa [Xd5,Xeq] using hih
 have hc:=core ms [] (by simp)
 rw [hmsdef] at hc
 simpa [Xih,Xd5,Xeq] using hc
def Mk.val (i d:Nat) (o:Oper) (v:Value):Mk:=⟨i,d,o,fun _=>v,fun _=>[]⟩
theorem Mk.val_ok {i d:Nat} {op:Op} {v:Value} (hi:ops[i]? = some ⟨some d,op,t,pos,aft,none⟩) (h:OpV P n w0 F ⟨some d,op,t,pos,aft,none⟩ e Γ v):(Mk.val i d ⟨some d,op,t,pos,aft,none⟩ v).ok P n w0 F ops e Γ :=
 ⟨hi,rfl,rfl,fun X a w fr ho=>by
  show Oper.wp P ⟨some d,op,t,pos,aft,none⟩ a w _ _
  unfold Oper.wp
  rw [h a w fr ((ho.perm List.perm_append_comm).left)]
  exact ⟨Bel.refl _ _,(none,0),rfl,by simp [Mk.val],by simp [Mk.val],by simp [Mk.val]⟩⟩
def Mk.alloc (i d:Nat) (ty t:TypeId) (pos:String) (aft:Array Edge) (cs:List Value):Mk :=
 ⟨i,d,⟨some d, .alloc ty,t,pos,aft,none⟩,fun y=>.pointer (some ⟨y.2,0,none⟩),fun y=>[.own y.2 ty cs]⟩
theorem Mk.alloc_ok {i d:Nat} {ty t:TypeId} {pos:String} {aft:Array Edge} {cs:List Value} {td:TypeDesc} {sz by_:Nat} {z:Value} [hT:Ty P ty td sz by_ z] [hc:Cel z cs]
  (hi:ops[i]? = some ⟨some d, .alloc ty,t,pos,aft,none⟩):(Mk.alloc i d ty t pos aft cs).ok P n w0 F ops e Γ :=
 ⟨hi,rfl,rfl,fun X a w fr ho=>by
  have hrun:(execOp a.eval ⟨some d, .alloc ty,t,pos,aft,none⟩).run P w = .ok (.value (.pointer (some ⟨w.heap.size,0,none⟩))) (w.alloc (.cells cs.toArray ty (0,0))):=by
   simp only [execOp,Instr.alloc,Sem.run_bind,Xf5 (P:=P) (t:=ty) w,Result.andThen_ok,newVar,newRow,Xbt (v:=z) (cs:=cs),run_newObj,Sem.run_pure]
   rfl
  show Oper.wp P ⟨some d, .alloc ty,t,pos,aft,none⟩ a w _ _
  unfold Oper.wp
  rw [hrun]
  refine ⟨(Bel.refl _ _).alloc (Nat.le_refl _) _,(none,w.heap.size),rfl,?_⟩
  refine ⟨fun f hf=>?_,by simp [Mk.alloc],fun f hf k hk=>?_⟩
  ·simp only [Mk.alloc,List.mem_singleton] at hf; subst hf
   show (w.heap.push _)[w.heap.size]? = _
   simp
  ·simp only [Mk.alloc,List.mem_singleton] at hf; subst hf
   have:k=w.heap.size:=hk
   omega⟩
end
section
variable {P:Program} {n:Nn} {w0:World} {F:Nat→Prop} {ops:List Oper} {m fuel i d:Nat} {done done':List Bool} {t:TypeId} {pos:String} {aft:Array Edge} {g:Option (Nat × Bool)} {Q:Cont} {e:E} {Γ:List Fact}
theorem Xe5 {S:List (Mk × MkY)} {k:Mk} {r:List Mk} (h:S.map (·.1)=k::r):∃ y S',S=(k,y)::S'∧S'.map (·.1)=r:=by
 cases S with
 | nil=>cases h
 | cons p S =>
  obtain ⟨k',y⟩:=p
  simp only [List.map_cons,List.cons.injEq] at h
  obtain ⟨rfl,h⟩:=h
  exact ⟨y,S,rfl,h⟩
theorem Xuv {S:List (Mk × MkY)} (h:S.map (·.1)=[]):S=[]:=by simpa using h
theorem Xoj [Dr] {op:Op} {v:Value} {i0 i1 i2 i3 d0 d1 d2 d3:Nat} {y1 y2 y3 t1 t2 t3:TypeId} {p1 p2 p3:String} {f1 f2 f3:Array Edge} {c1 c2 c3:List Value} {td1 td2 td3:TypeDesc} {s1 s2 s3 b1 b2 b3:Nat} {z1 z2 z3:Value} {done2:List Bool}
  (hi0:ops[i0]? = some ⟨some d0,op,t,pos,aft,none⟩) (h0:OpV P n w0 F ⟨some d0,op,t,pos,aft,none⟩ e Γ v)
  (hi1:ops[i1]? = some ⟨some d1, .alloc y1,t1,p1,f1,none⟩) (hi2:ops[i2]? = some ⟨some d2, .alloc y2,t2,p2,f2,none⟩) (hi3:ops[i3]? = some ⟨some d3, .alloc y3,t3,p3,f3,none⟩)
  [hT1:Ty P y1 td1 s1 b1 z1] [hc1:Cel z1 c1] [hT2:Ty P y2 td2 s2 b2 z2] [hc2:Cel z2 c2] [hT3:Ty P y3 td3 s3 b3 z3] [hc3:Cel z3 c3]
  (hord:Xgp ops done m i0 [i0,i1,i2,i3]=true) (hsl:Xj7 e n.s [d0,d1,d2,d3]=true) (hd:Xar done 0 [i0,i1,i2,i3]=done') (hd2:Xar done 0 [i1,i2,i3]=done2)
  (K:∀ q1 q2 q3,JM P n w0 F ops m fuel done' Q ((d0,v)::(d1, .pointer (some ⟨q1,0,none⟩))::(d2, .pointer (some ⟨q2,0,none⟩))::(d3, .pointer (some ⟨q3,0,none⟩))::e) (.own q1 y1 c1::.own q2 y2 c2::.own q3 y3 c3::Γ))
  (K2:∀ q1 q2 q3,JM P n w0 F ops m (fuel+1) done2 Q ((d1, .pointer (some ⟨q1,0,none⟩))::(d2, .pointer (some ⟨q2,0,none⟩))::(d3, .pointer (some ⟨q3,0,none⟩))::e) (.own q1 y1 c1::.own q2 y2 c2::.own q3 y3 c3::Γ)) :
  JM P n w0 F ops m (fuel+1+1+1+1) done Q e Γ:=by
 have key:=Xoi (P:=P) (n:=n) (w0:=w0) (F:=F) (ops:=ops) (m:=m) (fuel:=fuel) (done:=done) (Q:=Q) (e:=e) (Γ:=Γ) (Mk.val i0 d0 ⟨some d0,op,t,pos,aft,none⟩ v) [Mk.alloc i1 d1 y1 t1 p1 f1 c1,Mk.alloc i2 d2 y2 t2 p2 f2 c2,Mk.alloc i3 d3 y3 t3 p3 f3 c3]
 simp only [List.map_cons,List.map_nil,Mk.alloc,Mk.val,List.length_cons,List.length_nil,Nat.zero_add] at key
 refine key ?_ hord hsl ?_ ?_
 ·intro k hk
  simp only [List.mem_cons,List.not_mem_nil,or_false] at hk
  rcases hk with rfl | rfl | rfl | rfl
  ·exact Mk.val_ok hi0 h0
  ·exact Mk.alloc_ok hi1
  ·exact Mk.alloc_ok hi2
  ·exact Mk.alloc_ok hi3
 ·intro S hS
  obtain ⟨q0,S0,rfl,hS0⟩:=Xe5 hS
  obtain ⟨q1,S1,rfl,hS1⟩:=Xe5 hS0
  obtain ⟨q2,S2,rfl,hS2⟩:=Xe5 hS1
  obtain ⟨q3,S3,rfl,hS3⟩:=Xe5 hS2
  obtain rfl:=Xuv hS3
  rw [hd]
  exact K q1.2 q2.2 q3.2
 ·intro S hS
  obtain ⟨q1,S1,rfl,hS1⟩:=Xe5 hS
  obtain ⟨q2,S2,rfl,hS2⟩:=Xe5 hS1
  obtain ⟨q3,S3,rfl,hS3⟩:=Xe5 hS2
  obtain rfl:=Xuv hS3
  rw [hd2]
  exact K2 q1.2 q2.2 q3.2
end
section
variable {P:Program} {n:Nn} {w0:World} {F:Nat→Prop} {ops:Array Oper} {i d:Nat} {t:TypeId} {pos:String} {aft:Array Edge} {g:Option (Nat × Bool)} {os:List Oper} {Q:Cont} {e:E} {Γ:List Fact}
theorem Xj8 [Dr] {x y:Operand} {v:Value} {L M:List UInt8} {el ty:TypeId} {ed:TypeDesc} {sz by_ es eb b o p m c1:Nat} {z ez:Value} {ecs us:List Value} {Δ:List Fact} {a:Act} {w:World} {d:Option Nat}
  [hx:Ev e x v] [hB:HasBuf Γ v UInt8 iI el L Δ] [hy:Ev e y (.slice (some ⟨b,o,none⟩) m c1)] [hA:At Γ b p us] [hT:Ty P ty (.slice el) sz by_ z] [hE:Ty P el ed es eb ez] [hz:Cel ez ecs]
  (hus:us=M.map Xaq) (ho':o=p) (hm:M.length=m) (hes:es=1∧ecs.length=es∧eb≤4096) (hl:L.length+m≤34359738368) (fr:Fr n e a) (ho:Hold w0 F Γ w) :
  ∃ a2 k2 w',(execOp a.eval ⟨d, .call ⟨.builtin .append,#[x,y],#[ty,ty]⟩,t,pos,aft,g⟩).run P w = .ok (.value (.slice a2 (L++M).length k2)) w'∧Hold w0 F (.res (buf a2 k2 el (L++M))::Δ) w':=by
 obtain ⟨a0,c0,rfl,hperm⟩:=hB.ok
 have hr:=hA.ok w0 F w ho
 subst hus ho'
 obtain ⟨a2,k2,w',e1,e2⟩:=Xe3 (P:=P) (t:=t) (ty:=ty) (ad:=⟨b,o,none⟩) (m:=m) (c1:=c1) (ho.perm hperm) (Xdn M) (fun j u hu=>by rw [Addr.add_mid]; rw [Xcw] at hu; exact hr j u hu)
  (Xrf _) (by rw [Xgk,hm]) (fun p hp A hA=>by simp [Cell.facts] at hA) hes hl
 rw [Xfo] at e1 e2
 refine ⟨a2,k2,w',?_,e2⟩
 simp [execOp,Xag,invoke,builtin,hx.ok n a fr,hy.ok n a fr] at e1 ⊢
 simp [e1]
theorem Xer [Dr] {x y:Operand} {v:Value} {L M:List UInt8} {el ty:TypeId} {ed:TypeDesc} {sz by_ es eb b o p m c1:Nat} {z ez:Value} {ecs us:List Value} {Δ:List Fact}
  [hx:Ev e x v] [hB:HasBuf Γ v UInt8 iI el L Δ] [hy:Ev e y (.slice (some ⟨b,o,none⟩) m c1)] [hA:At Γ b p us] [hT:Ty P ty (.slice el) sz by_ z] [hE:Ty P el ed es eb ez] [hz:Cel ez ecs]
  (hd:Nat.blt d n.s=true) (hus:us=M.map Xaq) (ho':o=p) (hm:M.length=m) (hes:es=1∧ecs.length=es∧eb≤4096) (hl:L.length+m≤34359738368)
  (K:∀ a c,JO P n w0 F ops (i+1) os Q ((d, .slice a (L++M).length c)::e) (.res (buf a c el (L++M))::Δ)) :
  JR P n w0 F ops i ⟨some d, .call ⟨.builtin .append,#[x,y],#[ty,ty]⟩,t,pos,aft,g⟩ os Q e Γ :=
 JR.value hd fun a w fr ho=>by
  obtain ⟨a2,k2,w',hr,hh⟩:=Xj8 (P:=P) (x:=x) (y:=y) (b:=b) (o:=o) (us:=us) (t:=t) (pos:=pos) (aft:=aft) (g:=g) (hT:=hT) (hE:=hE) (hz:=hz) (d:=some d) hus ho' hm hes hl fr ho
  exact ⟨_,_,_,hr,hh,K a2 k2⟩
theorem OpV.cap [Dr] {x:Operand} {ty el:TypeId} {a0:Option Addr} {m c sz by_:Nat} {z:Value} {d:Option Nat} [hx:Ev e x (.slice a0 m c)] [hT:Ty P ty (.slice el) sz by_ z] :
  OpV P n w0 F ⟨d, .call ⟨.builtin .cap,#[x],#[ty]⟩,t,pos,aft,g⟩ e Γ (.int .i64 (c:Int)) :=
 fun a w fr _=>by
  have h1:=Xaz (P:=P) (t:=ty) w
  simp [execOp,Xag,invoke,builtin,Builtin.cap_,hx.ok n a fr,h1,goInt]
theorem Xay [Dr] {K:Type} [DecidableEq K] {kv:K→Value} {x y:Operand} {ty kt el:TypeId} {ed:TypeDesc} {sz by_ b s2 b2:Nat} {zz z v:Value} {M:List (K × Value)} (k:K) {d:Option Nat}
  [hT:Ty P ty (.map kt el) sz by_ zz] [hE:Ty P el ed s2 b2 z] [hK:MKey P kt kv] [hx:Ev e x (.map (some b))] [hy:Ev e y (kv k)] [hM:RdM Γ b (ents kv M) M.length]
  (hnd:(M.map (·.1)).Nodup) (h1:(Xa4 M k).getD z=v):OpV P n w0 F ⟨d, .lookup ty x y false,t,pos,aft,g⟩ e Γ v:=by
 have:=Xgo (P:=P) (n:=n) (w0:=w0) (F:=F) (t:=t) (pos:=pos) (aft:=aft) (g:=g) (e:=e) (Γ:=Γ) (x:=x) (y:=y) (ty:=ty) (M:=M) (k:=k) (c:=false) (d:=d) hnd
 rw [h1] at this
 exact this
theorem Xsp [Dr] {x:Operand} {ty f:Nat} {u v:Value} {d:Option Nat} [hx:Ev e x u] (hv:∀ w,(Instr.field ty u f).run P w = .ok v w):OpV P n w0 F ⟨d, .field ty x f,t,pos,aft,g⟩ e Γ v :=
 fun a w fr _=>by simp [execOp,hx.ok n a fr,hv]
theorem JM.three [Dr] {ops:List Oper} {m fuel:Nat} {done:List Bool} {o o' o2:Oper} {done1 done2 done3:List Bool} (i j k:Nat) (hr:Region.ready .any ⟨ops⟩ ⟨done⟩=[i,j,k]) (him:Nat.blt i m=true) (hjm:Nat.blt j m=true) (hkm:Nat.blt k m=true)
  (hi:ops[i]? = some o) (hj:ops[j]? = some o') (hk:ops[k]? = some o2) (hg:Xbj ops e o.guard=some true) (hg':Xbj ops e o'.guard=some true) (hg2:Xbj ops e o2.guard=some true)
  (hd1:done.set i true=done1) (hd2:done.set j true=done2) (hd3:done.set k true=done3)
  (h:JS P n w0 F o e Γ (JM P n w0 F ops m fuel done1 Q)) (h':JS P n w0 F o' e Γ (JM P n w0 F ops m fuel done2 Q)) (h2:JS P n w0 F o2 e Γ (JM P n w0 F ops m fuel done3 Q)):JM P n w0 F ops m (fuel+1) done Q e Γ :=
 JM.all hr rfl fun l hl=>by
  simp only [List.mem_cons,List.not_mem_nil,or_false] at hl
  rcases hl with rfl | rfl | rfl
  ·exact ⟨Nat.blt_eq.mp him,o,hi,hg,by rw [hd1]; exact h⟩
  ·exact ⟨Nat.blt_eq.mp hjm,o',hj,hg',by rw [hd2]; exact h'⟩
  ·exact ⟨Nat.blt_eq.mp hkm,o2,hk,hg2,by rw [hd3]; exact h2⟩
end
section
variable {P:Program} {n:Nn} {w0:World} {F:Nat→Prop} {ops:Array Oper} {i d:Nat} {t:TypeId} {pos:String} {aft:Array Edge} {g:Option (Nat × Bool)} {os:List Oper} {Q:Cont} {e:E} {Γ:List Fact} [Dr]
def X2h (a0:Option Addr) (c l s:Nat):Option Addr:=if c - l=0∧c=l then a0 else a0.map (·.add (l * s))
theorem Xlh {x lo:Operand} {a0:Option Addr} {m c l s:Nat} {kk:IntKind} {j:Int} {ty el:TypeId} {ed:TypeDesc} {sz by_ es eb:Nat} {z ez:Value} {d:Option Nat}
  [hx:Ev e x (.slice a0 m c)] [hi:Ev e lo (.int kk j)] [hk:NatI j l] [hT:Ty P ty (.slice el) sz by_ z] [hE:Ty P el ed es eb ez] (hes:es=s) (h:∀ w,Hold w0 F Γ w→l≤m∧m≤c) :
  OpV P n w0 F ⟨d, .slice ty x (some lo) none none,t,pos,aft,g⟩ e Γ (.slice (X2h a0 c l s) (m - l) (c - l)) :=
 fun a w fr ho=>by
  have hlc:=h w ho
  have h1:=Xaz (P:=P) (t:=ty) w
  have h2:=Xbg (P:=P) (t:=el) w
  have hj:=hk.ok
  subst hj hes
  have hb:(Instr.sliceBound (.int kk (l:Int)) m .sliceB).run P w = .ok l w:=by
   simp [Instr.sliceBound,asIntOf]
   omega
  simp [execOp,hx.ok n a fr,hi.ok n a fr,Instr.sliceAt,Instr.slice,h1,h2,Instr.sliceBounds,hb,X2h]
  by_cases hck:c=l
  ·simp [hck]
  ·rw [if_neg hck,if_neg (by omega)]
end
section
variable {P:Program} {n:Nn} {w0:World} {F:Nat→Prop} {ops:Array Oper} {i d:Nat} {t:TypeId} {pos:String} {aft:Array Edge} {g:Option (Nat × Bool)} {os:List Oper} {Q:Cont} {e:E} {Γ:List Fact}
theorem JS.appendNil [Dr] {α:Type} [ic:Cell α] {x y:Operand} {u:Value} {L':List α} {el ty:TypeId} {ed:TypeDesc} {sz by_ es eb:Nat} {z ez:Value} {ecs:List Value} {K:E→List Fact→Prop}
  [hx:Ev e x (.slice none 0 0)] [hy:Ev e y u] [hS:HasSl Γ u α ic L'] [hT:Ty P ty (.slice el) sz by_ z] [hE:Ty P el ed es eb ez] [hz:Cel ez ecs]
  (hd:Nat.blt d n.s=true) (hes:es=Cell.sz α∧ecs.length=es∧eb≤4096) (hl:L'.length≤34359738368)
  (k:∀ a c,K ((d, .slice a L'.length c)::e) (.res (buf a c el L')::Γ)) :
  JS P n w0 F ⟨some d, .call ⟨.builtin .append,#[x,y],#[ty,ty]⟩,t,pos,aft,g⟩ e Γ K :=
 JS.value hd fun a w fr ho=>by
  obtain ⟨a1,c1,rfl,hsl⟩:=hS.holds ho
  by_cases hL:L'=[]
  ·subst hL
   obtain ⟨ti,hti,hti1,hti2,hti3⟩:=hE.some
   refine ⟨.slice none 0 0,w,_,?_,Bel.refl _ _,ho.res (R:=buf (α:=α) none 0 el []) (fun k hk=>by obtain ⟨a,h,_⟩:=hk; cases h) buf_nil,k none 0⟩
   cases a1 <;> simp [execOp,Xag,invoke,builtin,hx.ok n a fr,hy.ok n a fr,Builtin.append_,run_underlying hT.und,sizeOf,typeInfo,hti,Builtin.lenOf,Builtin.firstCells,loadCells,loadCellsFrom]
  ·obtain ⟨b,off,rfl,hF,hlt,hrow⟩:=hsl.2.2.2 hL
   obtain ⟨r,hr1,hr2,hr3⟩:=Xi9 L' off hrow
   have hm:r.length=L'.length:=by rw [← hr1]; simp
   obtain ⟨ti,hti,hti1,hti2,hti3⟩:=hE.some
   have hfl:(flat r).length=L'.length * ti.size:=by rw [Xbf,hm,hti1,hes.1]
   have h0:0 < L'.length:=List.length_pos_iff.2 hL
   have hb48:L'.length * ti.bytes≤281474976710656:=by rw [hti2]; have:=Nat.mul_le_mul hl hes.2.2; omega
   have hr:=run_append_nil (P:=P) w ty t el ti ez hT.und hti hti3 ⟨b,off,none⟩ L'.length c1 (flat r) hfl (fun j u hu=>by rw [Addr.add_mid]; exact hr2 j u hu) (by omega) (by omega) hb48
   have hge:=grownCap_ge w L'.length 0 el
   have hcm:grownCap w L'.length 0 el≤maxLen:=grownCap_le_maxLen w L'.length 0 el (by simp only [maxLen]; omega)
   have hzs:ez.cells.size=ti.size:=by rw [Xbt (v:=ez) (cs:=ecs),hti1]; simpa using hes.2.1
   have hsz1:ti.size=Cell.sz α:=by rw [hti1,hes.1]
   have hbel:Bel w.heap.size w (w.drew.alloc (.cells ((flat r).toArray++Builtin.zeroCells ez.cells (grownCap w L'.length 0 el - L'.length)) el)):=((Bel.refl _ _).drew).alloc (Nat.le_refl _) _
   refine ⟨_,_,_,?_,hbel,ho.call (B:=[.res (buf (some ⟨w.heap.size,0,none⟩) (grownCap w L'.length 0 el) el L')]) hbel ⟨fun f hf=>?_,by simp,fun f hf k' hk=>?_⟩,k (some ⟨w.heap.size,0,none⟩) (grownCap w L'.length 0 el)⟩
   ·simp [execOp,Xag,invoke,builtin,hx.ok n a fr,hy.ok n a fr] at hr ⊢
    simp [hr]
   ·simp only [List.mem_singleton] at hf; subst hf
    refine ⟨by simp only [lim]; omega,r,hr1,⟨by rw [Xbf,hm], .inr ⟨w.heap.size,_,_,rfl,Nat.zero_le _,heap_alloc_new w.drew _,hge,hcm,?_,?_⟩⟩,fun p hp A hA=>?_⟩
    ·simp only [Array.size_append,List.size_toArray,size_zeroCells,hzs,hfl,← Nat.add_mul,← hsz1]
     congr 1
     omega
    ·simp only [Array.toList_append]
     exact List.take_left' (by rw [hfl,hsz1])
    ·refine Fact.sat_keep (f:=.st A) (hr3 p hp A hA) (fun k' hk hlt=>⟨.inl hk,fun f hf=>?_⟩) (fun k' hlt _=>hbel.block k' hlt)
     simp only [List.mem_singleton] at hf; subst hf
     rintro ⟨a',ha',rfl⟩
     injection ha' with ha'
     subst ha'
     simp at hlt
   ·simp only [List.mem_singleton] at hf; subst hf
    obtain ⟨a',ha',rfl⟩:=hk
    injection ha' with ha'
    subst ha'
    exact Nat.le_refl _
end
section
variable {P:Program} {n:Nn} {w0:World} {F:Nat→Prop} {ops:List Oper} {m fuel i d:Nat} {done done':List Bool} {t:TypeId} {pos:String} {aft:Array Edge} {g:Option (Nat × Bool)} {Q:Cont} {e:E} {Γ:List Fact}
theorem JM.both [Dr] {o o':Oper} (i j:Nat) (hr:Region.ready .any ⟨ops⟩ ⟨done⟩=[i,j]) (him:Nat.ble m i=true) (hjm:Nat.ble m j=true) (hi:ops[i]? = some o) (hj:ops[j]? = some o') (hg:Xbj ops e o.guard=some true) (hg':Xbj ops e o'.guard=some true)
  (h:JR P n w0 F ⟨[o]⟩ 0 o [] (fun x e' Γ'=>x = .normal∧JM P n w0 F ops m fuel (done.set i true) Q e' Γ') e Γ)
  (h':JR P n w0 F ⟨[o']⟩ 0 o' [] (fun x e' Γ'=>x = .normal∧JM P n w0 F ops m fuel (done.set j true) Q e' Γ') e Γ):JM P n w0 F ops m (fuel+1) done Q e Γ:=by
 intro a w fr ho
 refine ⟨fun h0=>?_,fun k hk=>?_⟩
 ·rw [h0] at hr; cases hr
 ·rw [hr] at hk
  simp only [List.mem_cons,List.not_mem_nil,or_false] at hk
  rcases hk with rfl | rfl
  ·rw [if_neg (by have:=Nat.le_of_ble_eq_true him; omega)]
   exact Xrh k hi hg h a w fr ho
  ·rw [if_neg (by have:=Nat.le_of_ble_eq_true hjm; omega)]
   exact Xrh k hj hg' h' a w fr ho
end
class Suf (Γ Δ:List Fact):Prop where
 ok:∃ R,Γ.Perm (Δ++R)
instance (priority:=1000) Suf.hit {Γ:List Fact}:Suf Γ Γ:=⟨[],by simp⟩
instance (priority:=100) Suf.miss {Γ Δ:List Fact} {g:Fact} [h:Suf Γ Δ]:Suf (g::Γ) Δ :=
 ⟨let ⟨R,hR⟩:=h.ok; ⟨g::R,(hR.cons g).trans (List.perm_middle.symm)⟩⟩
instance (priority:=10) Sub.suf {Γ Δ:List Fact} [h:Suf Γ Δ]:Sub Γ Δ:=⟨h.ok⟩
abbrev natV (k:Nat):Value:=.int .i64 (k:Int)
instance {k:Nat}:Cel (natV k) [natV k]:=⟨rfl⟩
section
variable {P:Program} {n:Nn} {w0:World} {F:Nat→Prop} {ops:Array Oper} {i d:Nat} {t:TypeId} {pos:String} {aft:Array Edge} {g:Option (Nat × Bool)} {os:List Oper} {Q:Cont} {e:E} {Γ:List Fact}
theorem Xx7 (c:Nat):(madeCells (Value.cells (.int .i64 0)) (c * 1))=((List.replicate c 0).map natV).toArray:=by
 apply Array.ext
 ·simp [size_madeCells]
 ·intro i h1 h2
  simp [madeCells,Value.cells,Nat.mod_one]
theorem Xp4 [Dr] {x y:Operand} {kk k2:IntKind} {j j2:Int} {l l2:Nat} {ty el:TypeId} {ed:TypeDesc} {sz by_:Nat} {z:Value}
  [hx:Ev e x (.int kk j)] [hk:NatI j l] [hy:Ev e y (.int k2 j2)] [hk2:NatI j2 l2] [hT:Ty P ty (.slice el) sz by_ z] [hE:Ty P el ed 1 8 (.int .i64 0)]
  (hd:Nat.blt d n.s=true) (he:l=l2) (hl:l≤1073741824)
  (K:∀ b,JO P n w0 F ops (i+1) os Q ((d, .slice (some ⟨b,0,none⟩) l l)::e) (.own b el ((List.replicate l 0).map natV)::Γ)) :
  JR P n w0 F ops i ⟨some d, .makeSlice ty x y,t,pos,aft,g⟩ os Q e Γ :=
 JR.value hd fun a w fr ho=>by
  subst he
  obtain ⟨ti,hti,hti1,hti2,hti3⟩:=hE.some
  have hj:=hk.ok
  have hj2:=hk2.ok
  subst hj hj2
  have hr:=run_make (P:=P) w ty el ti (.int .i64 0) hT.und hti hti3 kk k2 (l:Int) (l:Int) (by omega) (by omega) (by rw [hti2]; omega) (by omega)
  simp only [Int.toNat_natCast,hti1,Xx7] at hr
  refine ⟨_,w.alloc (.cells ((List.replicate l 0).map natV).toArray el),_,?_,ho.alloc el ((List.replicate l 0).map natV),K w.heap.size⟩
  simp [execOp,hx.ok n a fr,hy.ok n a fr,hr]
end
section
variable {P:Program} {ops:Array Oper} {C:World→Prop} {R X:Exit→Act→World→Prop}
def pOp (P:Program) (ops:Array Oper) (X:Exit→Act→World→Prop) (Rel:World→World→Prop) (i:Nat) (K:Act→World→Prop) (a:Act) (w:World):Prop :=
 match ops[i]? with
 | none=>K a w
 | some o=>if Region.wanted o (yielded ops a.tmps) then o.wp P a w (fun a' w'=>Rel w w'∧K a' w') X else K (a.put o.dst undef) w
theorem Xmz {o:Oper} {a:Act} {w:World} {K K':Act→World→Prop} {Q Q':Exit→Act→World→Prop} (hk:∀ a w,K a w→K' a w) (hq:∀ c w,Q (.panic c) a w→Q' (.panic c) a w) (hl:LetsOut Q→LetsOut Q') (h:o.wp P a w K Q):o.wp P a w K' Q':=by
 have h':=Oper.wp_mono (P:=P) hk h
 clear h
 unfold Oper.wp at *
 generalize (execOp a.eval o).run P w=r at *
 cases r with
 | ok n w' =>
  cases n <;> simp only [Oper.upon] at h' ⊢ <;> first | exact h' | skip
  refine Calls.mono h' fun e w'' he=>?_
  cases e with
  | returned v=>exact he
  | panicked c=>exact hq _ _ he
  | outgrown=>exact hl he
 | halt x w'=>cases x <;> simp only [Oper.upon] at h' ⊢ <;> first | exact h' | exact hq _ _ h'
theorem X2i {Rel:World→World→Prop} {i:Nat} {K K':Act→World→Prop} {a:Act} {w:World} (hx:∀ x a w,X x a w→R x a w) (hk:∀ a w,K a w→K' a w) (h:pOp P ops X Rel i K a w):wpOp P ops R i K' a w:=by
 unfold pOp at h
 unfold wpOp
 split
 ·rename_i ho; simp only [ho] at h; exact hk _ _ h
 ·rename_i o ho
  simp only [ho] at h
  split
  ·rename_i hw; simp only [hw,if_true] at h; exact .inl (Xmz (fun a w h=>hk a w h.2) (fun c w h=>hx _ a w h) (fun ⟨a,w,h⟩=>⟨a,w,hx _ _ _ h⟩) h)
  ·rename_i hw; simp only [hw] at h; exact hk _ _ h
theorem Xm0 {Rel Rel':World→World→Prop} {i:Nat} {K K':Act→World→Prop} {a:Act} {w:World} (hr:∀ w w',Rel w w'→Rel' w w') (hk:∀ a w,K a w→K' a w) (h:pOp P ops X Rel i K a w):pOp P ops X Rel' i K' a w:=by
 unfold pOp at *
 split
 ·rename_i ho; simp only [ho] at h; exact hk _ _ h
 ·rename_i o ho
  simp only [ho] at h
  split
  ·rename_i hw; simp only [hw,if_true] at h; exact Oper.wp_mono (fun a w h=>⟨hr _ _ h.1,hk _ _ h.2⟩) h
  ·rename_i hw; simp only [hw] at h; exact hk _ _ h
end
section
variable {P:Program} {ops:Array Oper} {C:World→Prop} {R X:Exit→Act→World→Prop} [Dr]
def pAny (P:Program) (ops:Array Oper) (X:Exit→Act→World→Prop) (Rel:Nat→World→World→Prop) (R:Exit→Act→World→Prop):Nat→Array Bool→Act→World→Prop
 | 0,listed,a,w=>Region.ready .any ops listed=[]∧R .normal a w
 | fuel+1,listed,a,w =>
  (Region.ready .any ops listed=[]→R .normal a w) ∧
  ∀ i∈Region.ready .any ops listed,pOp P ops X (Rel i) i (fun a' w'=>∀ w'',Bel w'.heap.size w' w''→pAny P ops X Rel R fuel (listed.setIfInBounds i true) a' w'') a w
theorem Xp5 {Rel:Nat→World→World→Prop} (hx:∀ x a w,X x a w→R x a w):∀ (fuel:Nat) (listed:Array Bool) (a:Act) (w:World),pAny P ops X Rel R fuel listed a w→wpAny P .any ops R fuel listed a w
 | 0,_,_,_,h=>h
 | fuel+1,listed,a,w,h=>⟨h.1,fun i hi=>X2i hx (fun a w h=>Xp5 hx fuel _ a w (h w (Bel.refl _ _))) (h.2 i hi)⟩
theorem Xeu {Rel Rel':Nat→World→World→Prop} (hr:∀ i w w',Rel i w w'→Rel' i w w'):∀ (fuel:Nat) (listed:Array Bool) (a:Act) (w:World),pAny P ops X Rel R fuel listed a w→pAny P ops X Rel' R fuel listed a w
 | 0,_,_,_,h=>h
 | fuel+1,listed,a,w,h=>⟨h.1,fun i hi=>Xm0 (hr i) (fun a w h w'' hb=>Xeu hr fuel _ a w'' (h w'' hb)) (h.2 i hi)⟩
theorem YieldsC.pOp {Rel:World→World→Prop} {i:Nat} {o:Oper} {v:Value} {a:Act} (hi:ops[i]? = some o) (hy:YieldsC P ops C o v a) {K:Act→World→Prop} {w:World} (hR:∀ w',Bel w.heap.size w w'→Rel w w') (hC:C w)
  (h:∀ w',Bel w.heap.size w w'→K (a.put o.dst v) w'):pOp P ops X Rel i K a w:=by
 unfold Ab.pOp
 simp only [hi]
 rcases hy with ⟨hw,hv⟩ | ⟨hw,rfl⟩
 ·simp only [hw,if_true]
  have h1:=hv w hC
  unfold Xdu at h1
  unfold Oper.wp
  generalize (execOp a.eval o).run P w=r at *
  cases r with
  | ok n w' =>
   cases n <;> simp only [Oper.upon] at h1 ⊢ <;> first | exact h1.elim | skip
   case value u =>
    obtain ⟨rfl,rfl⟩:=h1
    exact ⟨hR _ (Bel.refl _ _),h _ (Bel.refl _ _)⟩
   case enter f args =>
    refine Calls.mono h1 fun x w'' hx=>?_
    obtain ⟨rfl,hb⟩:=hx
    exact ⟨hR _ hb,h _ hb⟩
  | halt x w'=>exact h1.elim
 ·simp only [hw,Bool.false_eq_true,if_false]; exact h w (Bel.refl _ _)
theorem X0m {Rel:World→World→Prop} {j:Nat} {oi oj:Oper} {v:Value} (hj:ops[j]? = some oj) (hap:oi.apart ops oj=true)
  (hsi:∀ cs b,oi.op≠.select cs b) (hsj:∀ cs b,oj.op≠.select cs b) {K:Act→World→Prop} {a:Act} {w:World}
  (hX:∀ x a d v w,X x (a.put d v) w→X x a w) (hw0:C w) (hy:YieldsC P ops C oi v a) (h:pOp P ops X (fun w w'=>Rel w w'∧(C w→C w')) j K (a.put oi.dst v) w) :
  pOp P ops X Rel j (fun a' w'=>(C w'∧YieldsC P ops C oi v a')∧K (a'.put oi.dst v) w') a w:=by
 obtain ⟨h1,h2,h3⟩:=Oper.apart_spec hap
 have keep:∀ u,YieldsC P ops C oi v (a.put oj.dst u):=fun u=>hy.same (execOp_put oi hsi a oj.dst u h3) (wanted_put oi a oj.dst u h3)
 unfold pOp at *
 simp only [hj] at *
 rw [wanted_put oj a oi.dst v h1] at h
 split
 ·rename_i hw
  simp only [hw,if_true] at h
  unfold Oper.wp at *
  rw [execOp_put oj hsj a oi.dst v h1] at h
  generalize (execOp a.eval oj).run P w=r at *
  have put:∀ u w',((Rel w w'∧(C w→C w'))∧K ((a.put oi.dst v).put oj.dst u) w')→(Rel w w'∧(C w'∧YieldsC P ops C oi v (a.put oj.dst u))∧K ((a.put oj.dst u).put oi.dst v) w') :=
   fun u w' hh=>⟨hh.1.1,⟨hh.1.2 hw0,keep u⟩,by rw [← Act.put_comm a v u h2]; exact hh.2⟩
  cases r with
  | ok n w' =>
   cases n <;> simp only [Oper.upon] at h ⊢
   case value u=>exact put u _ h
   case skip=>exact put undef _ h
   case defer d =>
    have hd:YieldsC P ops C oi v ({ a with defers:=d::a.defers }:Act):=hy.same rfl rfl
    refine ⟨h.1.1,⟨h.1.2 hw0,hd.same (execOp_put oi hsi _ oj.dst undef h3) (wanted_put oi _ oj.dst undef h3)⟩,?_⟩
    rw [← Act.put_comm _ v undef h2,← Act.put_defers]
    exact h.2
   case enter f args =>
    refine Calls.mono h fun e w'' he=>?_
    cases e with
    | returned u=>exact put u _ he
    | panicked c=>exact hX _ _ _ _ _ he
    | outgrown=>exact he
   case row row args=>exact Rows.mono h fun u w'' he=>put u _ he
  | halt x w' =>
   cases x <;> simp only [Oper.upon] at h ⊢
   case panic u=>exact hX _ _ _ _ _ h
 ·rename_i hw
  simp only [hw] at h
  exact ⟨⟨hw0,keep _⟩,by rw [← Act.put_comm a v undef h2]; exact h⟩
theorem Xsq {Rel:Nat→World→World→Prop} {i:Nat} {oi:Oper} {v:Value} (hX:∀ x a d v w,X x (a.put d v) w→X x a w) (hi:ops[i]? = some oi) (hsel:∀ (j:Nat) (o:Oper) cs b,ops[j]? = some o→o.op≠.select cs b)
  (hC:∀ w w',C w→Bel w.heap.size w w'→C w') (hR:∀ j w w',Bel w.heap.size w w'→Rel j w w') (dep:Nat→Bool) (hdep:∀ k o,ops[k]? = some o→dep k=true→∃ e∈o.after,Region.binds .any e=true∧(e.on=i∨dep e.on=true)) :
  ∀ (fuel:Nat) (listed:Array Bool) (a:Act) (w:World),
   (∀ j oj,ops[j]? = some oj→j≠i→listed.getD j true=false→(∀ e∈oj.after,Region.binds .any e=true→e.on≠i)→oi.apart ops oj=true) →
   (∀ k,dep k=true→listed.getD k false=false)→i∈Region.ready .any ops listed→C w→YieldsC P ops C oi v a →
   (∀ w',Bel w.heap.size w w'→pAny P ops X (fun j w w'=>Rel j w w'∧(dep j=false→C w→C w')) R fuel (listed.setIfInBounds i true) (a.put oi.dst v) w')→pAny P ops X Rel R (fuel+1) listed a w:=by
 have hmono:∀ fuel listed a w,pAny P ops X (fun j w w'=>Rel j w w'∧(dep j=false→C w→C w')) R fuel listed a w→pAny P ops X Rel R fuel listed a w:=Xeu fun _ _ _ h=>h.1
 intro fuel
 induction fuel with
 | zero =>
  intro listed a w _ _ hr hw hy H
  refine ⟨fun h=>(by rw [h] at hr; cases hr),fun j hj=>?_⟩
  by_cases hji:j=i
  ·subst hji; exact hy.pOp hi (hR j w) hw (fun w' hb w'' hb'=>hmono _ _ _ _ (H w'' (hb.trans (hb'.mono hb.size))))
  ·have:=ready_mono hj hji
   rw [(H w (Bel.refl _ _)).1] at this
   cases this
 | succ fuel ih =>
  intro listed a w hfree hcl hr hw hy H
  refine ⟨fun h=>(by rw [h] at hr; cases hr),fun j hj=>?_⟩
  by_cases hji:j=i
  ·subst hji; exact hy.pOp hi (hR j w) hw (fun w' hb w'' hb'=>hmono _ _ _ _ (H w'' (hb.trans (hb'.mono hb.size))))
  ·have h1:=(H w (Bel.refl _ _)).2 j (ready_mono hj hji)
   obtain ⟨hjun,oj,hoj,hall⟩:=mem_ready.1 hj
   have hnot:∀ e∈oj.after,Region.binds .any e=true→e.on≠i:=fun e he hb heq=>by
    have h1:=hall e he hb
    have h0:=(mem_ready.1 hr).1
    rw [heq] at h1
    rcases Nat.lt_or_ge i listed.size with h' | h'
    ·simp [h'] at h0 h1; rw [h0] at h1; cases h1
    ·simp [Array.getElem?_eq_none h'] at h1
   have hjd:dep j=false:=by
    rw [← Bool.not_eq_true]
    intro hd
    obtain ⟨e,he,hb,hon⟩:=hdep j oj hoj hd
    rcases hon with hon | hon
    ·exact hnot e he hb hon
    ·have:=hall e he hb
     rw [hcl _ hon] at this
     cases this
   have hcl':∀ k,dep k=true→(listed.setIfInBounds j true).getD k false=false:=fun k hk=>by
    have hjk:j≠k:=fun e=>by subst e; rw [hk] at hjd; cases hjd
    rw [getD_set_ne false hjk]
    exact hcl k hk
   have h1':=Xm0 (Rel':=fun w w'=>Rel j w w'∧(C w→C w')) (fun w w' h=>⟨h.1,h.2 hjd⟩) (fun _ _ h=>h) h1
   have h2:=X0m hoj (hfree j oj hoj hji hjun hnot) (fun cs b=>hsel i oi cs b hi) (fun cs b=>hsel j oj cs b hoj) hX hw hy h1'
   have hfree':∀ k ok,ops[k]? = some ok→k≠i→(listed.setIfInBounds j true).getD k true=false →
     (∀ e∈ok.after,Region.binds .any e=true→e.on≠i)→oi.apart ops ok=true:=fun k ok hk hki hun hno=>by
    refine hfree k ok hk hki ?_ hno
    by_cases hjk:j=k
    ·subst hjk; exact hjun
    ·rw [getD_set_ne true hjk] at hun; exact hun
   refine Xm0 (fun _ _ h=>h) (fun a' w' h3 w2 hb2=>ih (listed.setIfInBounds j true) a' w2 hfree' hcl' (ready_mono hr (Ne.symm hji)) (hC _ _ h3.1.1 hb2) h3.1.2 (fun w3 hb3=>?_)) h2
   rw [Array.setIfInBounds_comm _ _ hji]
   exact h3.2 w3 (hb2.trans (hb3.mono hb2.size))
end
abbrev Obl:=List (List Bool × List Fact)
def Xuw [Dr] (w0:World) (F:Nat→Prop) (Ob:Obl) (j:Nat) (w w':World):Prop:=∀ p∈Ob,p.1.getD j false=false→Hold w0 F p.2 w→Hold w0 F p.2 w'
def Obs (Ob:Obl) (j:Nat) (Γ:List Fact):Prop:=∀ p∈Ob,p.1.getD j false=false→Sub Γ p.2
theorem Obs.nil {j:Nat} {Γ:List Fact}:Obs [] j Γ:=fun p hp=>by cases hp
theorem Obs.skip {j:Nat} {Γ:List Fact} {p:List Bool × List Fact} {Ob:Obl} (h:p.1.getD j false=true) (k:Obs Ob j Γ):Obs (p::Ob) j Γ:=fun q hq=>by
 rcases List.mem_cons.1 hq with rfl | hq
 ·intro h'; rw [h] at h'; cases h'
 ·exact k q hq
theorem Obs.keep {j:Nat} {Γ:List Fact} {p:List Bool × List Fact} {Ob:Obl} [h:Sub Γ p.2] (k:Obs Ob j Γ):Obs (p::Ob) j Γ:=fun q hq=>by
 rcases List.mem_cons.1 hq with rfl | hq
 ·exact fun _=>h
 ·exact k q hq
def Xp6 [Dr] (n:Nn) (w0:World) (F:Nat→Prop) (Q:Cont):Exit→Act→World→Prop:=fun x a w=>∃ c Γ,x = .panic c∧Q (.panic c) [] Γ∧Fr n [] a∧Hold w0 F Γ w
theorem Xux [Dr] {n:Nn} {w0:World} {F:Nat→Prop} {Q:Cont} (x:Exit) (a:Act) (d:Option Nat) (v:Value) (w:World) (h:Xp6 n w0 F Q x (a.put d v) w):Xp6 n w0 F Q x a w:=by
 obtain ⟨c,Γ,hx,hq,fr,ho⟩:=h
 refine ⟨c,Γ,hx,hq,⟨?_,?_,fun i u hu=>by cases hu⟩,ho⟩
 ·have:=fr.defers; cases d <;> simpa [Act.put] using this
 ·have:=fr.size; cases d <;> simpa [Act.put] using this
theorem Xrl [Dr] {n:Nn} {w0:World} {F:Nat→Prop} {Q:Cont} (x:Exit) (a:Act) (w:World) (h:Xp6 n w0 F Q x a w):up n w0 F Q x a w:=by
 obtain ⟨c,Γ,rfl,hq,fr,ho⟩:=h
 exact ⟨[],Γ,hq,fr,ho⟩
def JP [Dr] (P:Program) (n:Nn) (w0:World) (F:Nat→Prop) (ops:List Oper) (Ob:Obl) (fuel:Nat) (done:List Bool) (Q:Cont) (e:E) (Γ:List Fact):Prop :=
 ∀ a w,Fr n e a→Hold w0 F Γ w→pAny P ⟨ops⟩ (Xp6 n w0 F Q) (Xuw w0 F Ob) (up n w0 F Q) fuel ⟨done⟩ a w
def X0n (ops:List Oper) (done:List Bool) (i:Nat) (dep:List Bool):Bool :=
 (List.range ops.length).all fun k=>(!dep.getD k false || (!done.getD k false && (match ops[k]? with | some o=>o.after.any fun e=>Region.binds .any e && (e.on == i || dep.getD e.on false) | none=>false)))
def Xe6 (ops:List Oper) (done:List Bool) (i:Nat):Bool :=
 Region.noSelect ⟨ops⟩ && Region.free .any ⟨ops⟩ ⟨done⟩ i && (Region.ready .any ⟨ops⟩ ⟨done⟩).contains i && (X0n ops done i (Xc3 ops i) && Nat.beq (Xc3 ops i).length ops.length)
section
variable {P:Program} {n:Nn} {w0:World} {F:Nat→Prop} {ops:List Oper} {Ob:Obl} {fuel i d:Nat} {done done':List Bool} {t:TypeId} {pos:String} {aft:Array Edge} {g:Option (Nat × Bool)} {Q:Cont} {e:E} {Γ:List Fact}
theorem JC.drawP [Dr] {id:Nat} (hm:P.follows .mixedOrders=true) (h:JP P n w0 F ops [] ops.length (List.replicate ops.length false) Q e Γ):JC P n w0 F (.region id ⟨ops⟩ true) Q e Γ:=by
 intro a w fr ho
 refine wp_region_any hm ?_
 have:=Xp5 Xrl _ _ _ _ (h a w.drew fr ho.drew)
 have e1:(⟨List.replicate ops.length false⟩:Array Bool)=Array.replicate (⟨ops⟩:Array Oper).size false:=by apply Array.ext'; simp
 rw [← e1]
 exact this
theorem JP.nil [Dr] (hr:Region.ready .any ⟨ops⟩ ⟨done⟩=[]) (h:Q .normal e Γ):JP P n w0 F ops Ob fuel done Q e Γ:=by
 intro a w fr ho
 cases fuel with
 | zero=>exact ⟨hr,e,Γ,h,fr,ho⟩
 | succ fuel=>exact ⟨fun _=>⟨e,Γ,h,fr,ho⟩,by rw [hr]; simp⟩
theorem Xuy [Dr] {Ob:Obl} (j:Nat) (w w':World) (hb:Bel w.heap.size w w'):Xuw w0 F Ob j w w':=fun p _ _ h=>h.of_below hb
theorem Xg6 [Dr] {o:Oper} {v:Value} {C:World→Prop} (hi:ops[i]? = some o) (hok:Xe6 ops done i=true) (hC:∀ w w',C w→Bel w.heap.size w w'→C w') (hCw:∀ w,Hold w0 F Γ w→C w) (hy:∀ a,Fr n e a→YieldsC P ⟨ops⟩ C o v a)
  (h:∀ a w,Fr n e a→Hold w0 F Γ w→pAny P ⟨ops⟩ (Xp6 n w0 F Q) (fun j w w'=>Xuw w0 F Ob j w w'∧((Xc3 ops i).getD j false=false→C w→C w')) (up n w0 F Q) fuel ⟨done.set i true⟩ (a.put o.dst v) w):JP P n w0 F ops Ob (fuel+1) done Q e Γ:=by
 intro a w fr ho
 simp only [Xe6,Bool.and_eq_true] at hok
 obtain ⟨⟨⟨h2,h3⟩,h4⟩,h5⟩:=hok
 have hi':(⟨ops⟩:Array Oper)[i]? = some o:=by simpa using hi
 have h6:∀ k,k < ops.length→(Xc3 ops i).getD k false=true→done.getD k false=false∧∃ o,ops[k]? = some o∧∃ e∈o.after,Region.binds .any e=true∧(e.on=i∨(Xc3 ops i).getD e.on false=true):=by
  intro k hk hd
  have h7:=List.all_eq_true.1 h5.1 k (List.mem_range.2 hk)
  simp only [Bool.and_eq_true,Bool.or_eq_true,Bool.not_eq_true'] at h7
  rcases h7 with h8 | h8
  ·rw [hd] at h8; cases h8
  ·refine ⟨h8.1,ops[k],List.getElem?_eq_getElem hk,?_⟩
   have h9:=h8.2
   rw [List.getElem?_eq_getElem hk] at h9
   obtain ⟨e,he,hb⟩:=Array.any_eq_true'.1 h9
   simp only [Bool.and_eq_true,Bool.or_eq_true,beq_iff_eq] at hb
   exact ⟨e,he,hb.1,hb.2⟩
 have hlen:(Xc3 ops i).length=ops.length:=Nat.eq_of_beq_eq_true h5.2
 have hdl:∀ k,(Xc3 ops i).getD k false=true→k < ops.length:=by
  intro k hk
  rcases Nat.lt_or_ge k ops.length with h | h
  ·exact h
  ·rw [List.getD_eq_getElem?_getD,List.getElem?_eq_none (by omega)] at hk; cases hk
 refine Xsq (C:=C) Xux hi' (Region.noSelect_spec h2) hC (fun j w w' hb=>Xuy j w w' hb) (fun k=>(Xc3 ops i).getD k false) (fun k o' hk hd=>?_) fuel ⟨done⟩ a w (Region.free_spec hi' h3) (fun k hk=>?_) (by simpa using h4) (hCw w ho) (hy a fr) ?_
 ·obtain ⟨o2,ho2,h⟩:=(h6 k (hdl k hd) hd).2
  have:ops[k]? = some o':=by simpa using hk
  rw [this] at ho2
  injection ho2 with ho2
  subst ho2
  exact h
 ·have:=(h6 k (hdl k hk) hk).1
  simpa using this
 ·intro w' hb
  have:=h a w' fr (ho.of_below hb)
  simpa using this
theorem JP.take [Dr] {op:Op} {v:Value} (i:Nat) (Δ:List Fact) (hi:ops[i]? = some ⟨some d,op,t,pos,aft,g⟩) (hok:Xe6 ops done i=true) (hg:Xbj ops e g=some true) [hs:Sub Γ Δ] (h:OpV P n w0 F ⟨some d,op,t,pos,aft,g⟩ e Δ v) (hd:Nat.blt d n.s=true)
  (hdone:done.set i true=done') (k:JP P n w0 F ops ((Xc3 ops i,Δ)::Ob) fuel done' Q ((d,v)::e) Γ):JP P n w0 F ops Ob (fuel+1) done Q e Γ :=
 Xg6 (C:=Hold w0 F Δ) hi hok (fun w w' h hb=>h.of_below hb) (fun w ho=>ho.sub hs) (fun a fr=>.inl ⟨Xa9 (o:=⟨some d,op,t,pos,aft,g⟩) hg fr,fun w ho=>by unfold Xdu; rw [h a w fr ho]; exact ⟨rfl,rfl⟩⟩)
  (fun a w fr ho=>by
   subst hdone
   exact Xeu (fun j w w' hr=>⟨fun p hp=>hr p (List.mem_cons_of_mem _ hp),fun hdj=>hr _ (List.mem_cons_self ..) hdj⟩) _ _ _ _ (k _ w (fr.put hd v) ho))
theorem JP.pure [Dr] {op:Op} {v:Value} (i:Nat) (hi:ops[i]? = some ⟨some d,op,t,pos,aft,g⟩) (hok:Xe6 ops done i=true) (hg:Xbj ops e g=some true) (h:∀ w1,OpV P n w1 F ⟨some d,op,t,pos,aft,g⟩ e [] v) (hd:Nat.blt d n.s=true)
  (hdone:done.set i true=done') (k:JP P n w0 F ops Ob fuel done' Q ((d,v)::e) Γ):JP P n w0 F ops Ob (fuel+1) done Q e Γ :=
 Xg6 (C:=fun _=>True) hi hok (fun _ _ _ _=>trivial) (fun _ _=>trivial) (fun a fr=>.inl ⟨Xa9 (o:=⟨some d,op,t,pos,aft,g⟩) hg fr,fun w _=>by unfold Xdu; rw [h w a w fr (Hold.start w F)]; exact ⟨rfl,rfl⟩⟩)
  (fun a w fr ho=>by
   subst hdone
   exact Xeu (fun j w w' hr=>⟨hr,fun _ h=>h⟩) _ _ _ _ (k _ w (fr.put hd v) ho))
theorem JP.omit [Dr] {op:Op} (i:Nat) (hi:ops[i]? = some ⟨some d,op,t,pos,aft,g⟩) (hok:Xe6 ops done i=true) (hg:Xbj ops e g=some false) (hd:Nat.blt d n.s=true)
  (hdone:done.set i true=done') (k:JP P n w0 F ops Ob fuel done' Q ((d,undef)::e) Γ):JP P n w0 F ops Ob (fuel+1) done Q e Γ :=
 Xg6 (C:=fun _=>True) (v:=undef) hi hok (fun _ _ _ _=>trivial) (fun _ _=>trivial) (fun a fr=>.inr ⟨Xa9 (o:=⟨some d,op,t,pos,aft,g⟩) hg fr,rfl⟩)
  (fun a w fr ho=>by
   subst hdone
   exact Xeu (fun j w w' hr=>⟨hr,fun _ h=>h⟩) _ _ _ _ (k _ w (fr.put hd undef) ho))
theorem JP.takeCall [Dr] {v:Value} {f:Operand} {args:Array Operand} {ats:Array TypeId} {fid:FuncId} {caps vs us:List Value} (i:Nat) (Δ:List Fact) (hi:ops[i]? = some ⟨some d, .call ⟨.value f,args,ats⟩,t,pos,aft,g⟩) (hok:Xe6 ops done i=true) (hg:Xbj ops e g=some true) [hs:Sub Γ Δ]
  [hf:Fun e f fid caps] [hv:ArgVs e args.toList vs] [hu:App vs caps us] [hb:Body P fid]
  (hc:∀ w,Hold w0 F Δ w→GivesV P fid us w (fp w0 F Δ) v) (hd:Nat.blt d n.s=true)
  (hdone:done.set i true=done') (k:JP P n w0 F ops ((Xc3 ops i,Δ)::Ob) fuel done' Q ((d,v)::e) Γ):JP P n w0 F ops Ob (fuel+1) done Q e Γ :=
 Xg6 (C:=Hold w0 F Δ) (v:=v) hi hok (fun w w' h hb=>h.of_below hb) (fun w ho=>ho.sub hs) (fun a fr=>.inl ⟨Xa9 (o:=⟨some d, .call ⟨.value f,args,ats⟩,t,pos,aft,g⟩) hg fr,fun w ho=>by
   unfold Xdu
   rw [Xf6 fr hf hv hu hb]
   refine Calls.mono (hc w ho) ?_
   rintro x w' ⟨_,rfl,hbel,_⟩
   exact ⟨rfl,hbel⟩⟩)
  (fun a w fr ho=>by
   subst hdone
   exact Xeu (fun j w w' hr=>⟨fun p hp=>hr p (List.mem_cons_of_mem _ hp),fun hdj=>hr _ (List.mem_cons_self ..) hdj⟩) _ _ _ _ (k _ w (fr.put hd v) ho))
theorem JP.reslot [Dr] (s:Nat) {v:Value} (u:Value) [hs:Lk e s v] (h:v=u) (k:JP P n w0 F ops Ob fuel done Q ((s,u)::e) Γ):JP P n w0 F ops Ob fuel done Q e Γ :=
 fun a w fr ho=>k a w (fr.again (by rw [← h]; exact hs.ok)) ho
theorem JP.more [Dr] {Γ':List Fact} (h:∀ w,Hold w0 F Γ w→Hold w0 F Γ' w) (k:JP P n w0 F ops Ob fuel done Q e Γ'):JP P n w0 F ops Ob fuel done Q e Γ :=
 fun a w fr ho=>k a w fr (h w ho)
theorem opP [Dr] {o:Oper} (i:Nat) (hi:ops[i]? = some o) (hg:Xbj ops e o.guard=some true)
  (h:JR P n w0 F ⟨[o]⟩ 0 o [] (fun x e' Γ'=>(x = .normal∧Obs Ob i Γ'∧JP P n w0 F ops Ob fuel (done.set i true) Q e' Γ')∨(∃ c,x = .panic c∧Q (.panic c) [] Γ')) e Γ) (a:Act) (w:World) (fr:Fr n e a) (ho:Hold w0 F Γ w) :
  pOp P ⟨ops⟩ (Xp6 n w0 F Q) (Xuw w0 F Ob i) i (fun a' w'=>∀ w'',Bel w'.heap.size w' w''→pAny P ⟨ops⟩ (Xp6 n w0 F Q) (Xuw w0 F Ob) (up n w0 F Q) fuel ((⟨done⟩:Array Bool).setIfInBounds i true) a' w'') a w:=by
 have hi':(⟨ops⟩:Array Oper)[i]? = some o:=by simpa using hi
 unfold pOp
 simp only [hi']
 rw [if_pos (Xa9 hg fr)]
 refine Xmz (fun a' w' hk=>?_) (fun c w hx=>?_) (fun hx=>?_) (h rfl a w fr ho)
 ·simp only [List.range'_zero,List.length_nil,wpOps] at hk
  obtain ⟨e',Γ',hk,fr',ho'⟩:=hk
  rcases hk with ⟨_,hs,hj⟩ | ⟨c,hc,_⟩
  ·refine ⟨fun p hp hd _=>ho'.sub (hs p hp hd),fun w'' hb=>?_⟩
   have:=hj a' w'' fr' (ho'.of_below hb)
   simpa using this
  ·cases hc
 ·obtain ⟨e',Γ',hk,fr',ho'⟩:=hx
  rcases hk with ⟨hn,hs,hj⟩ | ⟨c',hc,hq⟩
  ·cases hn
  ·injection hc with hc
   subst hc
   exact ⟨c,Γ',rfl,hq,⟨fr'.defers,fr'.size,fun i u hu=>by cases hu⟩,ho'⟩
 ·obtain ⟨a,w,e',Γ',hk,_⟩:=hx
  rcases hk with ⟨hn,_⟩ | ⟨c,hc,_⟩
  ·cases hn
  ·cases hc
theorem JR.mono0 [Dr] {o:Oper} {Q':Cont} (h:JR P n w0 F ⟨[o]⟩ 0 o [] Q e Γ) (hq:∀ x e Γ,Q x e Γ→Q' x e Γ):JR P n w0 F ⟨[o]⟩ 0 o [] Q' e Γ:=by
 intro hd a w fr ho
 refine Xmz (fun a' w' hk=>?_) (fun c w hx=>?_) (fun hx=>?_) (h hd a w fr ho)
 ·simp only [List.range'_zero,List.length_nil,wpOps] at hk ⊢
  obtain ⟨e',Γ',hk,r⟩:=hk
  exact ⟨e',Γ',hq _ _ _ hk,r⟩
 ·obtain ⟨e',Γ',hk,r⟩:=hx
  exact ⟨e',Γ',hq _ _ _ hk,r⟩
 ·obtain ⟨a,w,e',Γ',hk,r⟩:=hx
  exact ⟨a,w,e',Γ',hq _ _ _ hk,r⟩
theorem JP.op [Dr] {o:Oper} (i:Nat) (hr:Region.ready .any ⟨ops⟩ ⟨done⟩=[i]) (hi:ops[i]? = some o) (hg:Xbj ops e o.guard=some true)
  (h:JR P n w0 F ⟨[o]⟩ 0 o [] (fun x e' Γ'=>x = .normal∧Obs Ob i Γ'∧JP P n w0 F ops Ob fuel (done.set i true) Q e' Γ') e Γ):JP P n w0 F ops Ob (fuel+1) done Q e Γ:=by
 intro a w fr ho
 refine ⟨fun h0=>?_,fun j hj=>?_⟩
 ·rw [h0] at hr; cases hr
 ·rw [hr] at hj
  simp only [List.mem_singleton] at hj; subst hj
  exact opP j hi hg (h.mono0 fun _ _ _ h=>.inl h) a w fr ho
theorem JP.both [Dr] {o o':Oper} (i j:Nat) (hr:Region.ready .any ⟨ops⟩ ⟨done⟩=[i,j]) (hi:ops[i]? = some o) (hj:ops[j]? = some o') (hg:Xbj ops e o.guard=some true) (hg':Xbj ops e o'.guard=some true)
  (h:JR P n w0 F ⟨[o]⟩ 0 o [] (fun x e' Γ'=>x = .normal∧Obs Ob i Γ'∧JP P n w0 F ops Ob fuel (done.set i true) Q e' Γ') e Γ)
  (h':JR P n w0 F ⟨[o']⟩ 0 o' [] (fun x e' Γ'=>x = .normal∧Obs Ob j Γ'∧JP P n w0 F ops Ob fuel (done.set j true) Q e' Γ') e Γ):JP P n w0 F ops Ob (fuel+1) done Q e Γ:=by
 intro a w fr ho
 refine ⟨fun h0=>?_,fun k hk=>?_⟩
 ·rw [h0] at hr; cases hr
 ·rw [hr] at hk
  simp only [List.mem_cons,List.not_mem_nil,or_false] at hk
  rcases hk with rfl | rfl
  ·exact opP k hi hg (h.mono0 fun _ _ _ h=>.inl h) a w fr ho
  ·exact opP k hj hg' (h'.mono0 fun _ _ _ h=>.inl h) a w fr ho
end
section
variable {P:Program} {ops:Array Oper} {C:World→Prop} {R:Exit→Act→World→Prop} [Dr]
def cOp (P:Program) (ops:Array Oper) (C:World→Prop) (i:Nat) (K:Act→World→Prop) (a:Act) (w:World):Prop :=
 match ops[i]? with
 | none=>K a w
 | some o=>if Region.wanted o (yielded ops a.tmps) then o.wp P a w (fun a' w'=>(C w→C w')∧K a' w') Xn4 else K (a.put o.dst undef) w
def cAny (P:Program) (ops:Array Oper) (C:World→Prop) (R:Exit→Act→World→Prop):Nat→Array Bool→Act→World→Prop
 | 0,listed,a,w=>Region.ready .any ops listed=[]∧R .normal a w
 | fuel+1,listed,a,w=>(Region.ready .any ops listed=[]→R .normal a w)∧∀ i∈Region.ready .any ops listed,cOp P ops C i (cAny P ops C R fuel (listed.setIfInBounds i true)) a w
end
section
variable {P:Program} {ops:Array Oper} {C:World→Prop} {R:Exit→Act→World→Prop}
theorem X2j {i:Nat} {K K':Act→World→Prop} {a:Act} {w:World} (hk:∀ a w,K a w→K' a w) (h:cOp P ops C i K a w):wpOp P ops R i K' a w:=by
 unfold cOp at h
 unfold wpOp
 split
 ·rename_i ho; simp only [ho] at h; exact hk _ _ h
 ·rename_i o ho
  simp only [ho] at h
  split
  ·rename_i hw; simp only [hw,if_true] at h; exact .inl (Xn5 (fun a w h=>hk a w h.2) h)
  ·rename_i hw; simp only [hw] at h; exact hk _ _ h
theorem Xuz:∀ (fuel:Nat) (listed:Array Bool) (a:Act) (w:World),cAny P ops C R fuel listed a w→wpAny P .any ops R fuel listed a w
 | 0,_,_,_,h=>h
 | fuel+1,listed,a,w,h=>⟨h.1,fun i hi=>X2j (fun a w=>Xuz fuel _ a w) (h.2 i hi)⟩
end
section
variable {P:Program} {ops:Array Oper} {C:World→Prop} {R:Exit→Act→World→Prop} [Dr]
def GivesC (P:Program) (ops:Array Oper) (C:World→Prop) (o:Oper) (v:Value) (a:Act):Prop :=
 Region.wanted o (yielded ops a.tmps)=true∧∀ w,C w→(execOp a.eval o).run P w = .ok (.value v) w
end
section
variable {P:Program} {ops:Array Oper} {C:World→Prop} {R:Exit→Act→World→Prop}
theorem GivesC.cOp {i:Nat} {o:Oper} {v:Value} {a:Act} (hi:ops[i]? = some o) (hy:GivesC P ops C o v a) {K:Act→World→Prop} {w:World} (hC:C w) (h:K (a.put o.dst v) w):cOp P ops C i K a w:=by
 unfold Ab.cOp
 simp only [hi]
 obtain ⟨hw,hv⟩:=hy
 simp only [hw,if_true]
 unfold Oper.wp
 rw [hv w hC]
 exact ⟨fun h=>h,h⟩
theorem GivesC.same {o:Oper} {v:Value} {a a':Act} (hy:GivesC P ops C o v a) (he:execOp a'.eval o=execOp a.eval o)
  (hw:Region.wanted o (yielded ops a'.tmps)=Region.wanted o (yielded ops a.tmps)):GivesC P ops C o v a':=by
 unfold GivesC at *
 rw [he,hw]
 exact hy
theorem X0o {j:Nat} {oi oj:Oper} {v:Value} (hj:ops[j]? = some oj) (hap:oi.apart ops oj=true)
  (hsi:∀ cs b,oi.op≠.select cs b) (hsj:∀ cs b,oj.op≠.select cs b) {K:Act→World→Prop} {a:Act} {w:World}
  (hw0:C w) (hy:GivesC P ops C oi v a) (h:cOp P ops C j K (a.put oi.dst v) w) :
  cOp P ops C j (fun a' w'=>(C w'∧GivesC P ops C oi v a')∧K (a'.put oi.dst v) w') a w:=by
 obtain ⟨h1,h2,h3⟩:=Oper.apart_spec hap
 have keep:∀ u,GivesC P ops C oi v (a.put oj.dst u):=fun u=>hy.same (execOp_put oi hsi a oj.dst u h3) (wanted_put oi a oj.dst u h3)
 unfold cOp at *
 simp only [hj] at *
 rw [wanted_put oj a oi.dst v h1] at h
 split
 ·rename_i hw
  simp only [hw,if_true] at h
  unfold Oper.wp at *
  rw [execOp_put oj hsj a oi.dst v h1] at h
  generalize (execOp a.eval oj).run P w=r at *
  have put:∀ u w',((C w→C w')∧K ((a.put oi.dst v).put oj.dst u) w')→((C w→C w')∧(C w'∧GivesC P ops C oi v (a.put oj.dst u))∧K ((a.put oj.dst u).put oi.dst v) w') :=
   fun u w' hh=>⟨hh.1,⟨hh.1 hw0,keep u⟩,by rw [← Act.put_comm a v u h2]; exact hh.2⟩
  cases r with
  | ok n w' =>
   cases n <;> simp only [Oper.upon] at h ⊢
   case value u=>exact put u _ h
   case skip=>exact put undef _ h
   case defer d =>
    have hd:GivesC P ops C oi v ({ a with defers:=d::a.defers }:Act):=hy.same rfl rfl
    refine ⟨h.1,⟨h.1 hw0,hd.same (execOp_put oi hsi _ oj.dst undef h3) (wanted_put oi _ oj.dst undef h3)⟩,?_⟩
    rw [← Act.put_comm _ v undef h2,← Act.put_defers]
    exact h.2
   case enter f args =>
    refine Calls.mono h fun e w'' he=>?_
    cases e with
    | returned u=>exact put u _ he
    | panicked c=>exact he
    | outgrown=>exact he
   case row row args=>exact Rows.mono h fun u w'' he=>put u _ he
  | halt x w' =>
   cases x <;> simp only [Oper.upon] at h ⊢
   case panic u=>exact h
 ·rename_i hw
  simp only [hw] at h
  exact ⟨⟨hw0,keep _⟩,by rw [← Act.put_comm a v undef h2]; exact h⟩
theorem Xx8 {i:Nat} {K K':Act→World→Prop} {a:Act} {w:World} (hk:∀ a w,K a w→K' a w) (h:cOp P ops C i K a w):cOp P ops C i K' a w:=by
 unfold cOp at *
 split
 ·rename_i ho; simp only [ho] at h; exact hk _ _ h
 ·rename_i o ho
  simp only [ho] at h
  split
  ·rename_i hw; simp only [hw,if_true] at h; exact Oper.wp_mono (fun a w h=>⟨h.1,hk _ _ h.2⟩) h
  ·rename_i hw; simp only [hw] at h; exact hk _ _ h
theorem Xsr {i:Nat} {oi:Oper} {v:Value} (hi:ops[i]? = some oi) (hsel:∀ (j:Nat) (o:Oper) cs b,ops[j]? = some o→o.op≠.select cs b) :
  ∀ (fuel:Nat) (listed:Array Bool) (a:Act) (w:World),
   (∀ j oj,ops[j]? = some oj→j≠i→listed.getD j true=false→(∀ e∈oj.after,Region.binds .any e=true→e.on≠i)→oi.apart ops oj=true) →
   i∈Region.ready .any ops listed→C w→GivesC P ops C oi v a →
   cAny P ops C R fuel (listed.setIfInBounds i true) (a.put oi.dst v) w→cAny P ops C R (fuel+1) listed a w:=by
 intro fuel
 induction fuel with
 | zero =>
  intro listed a w _ hr hw hy H
  refine ⟨fun h=>(by rw [h] at hr; cases hr),fun j hj=>?_⟩
  by_cases hji:j=i
  ·subst hji; exact hy.cOp hi hw H
  ·have:=ready_mono hj hji
   rw [H.1] at this
   cases this
 | succ fuel ih =>
  intro listed a w hfree hr hw hy H
  refine ⟨fun h=>(by rw [h] at hr; cases hr),fun j hj=>?_⟩
  by_cases hji:j=i
  ·subst hji; exact hy.cOp hi hw H
  ·have h1:=H.2 j (ready_mono hj hji)
   obtain ⟨hjun,oj,hoj,hall⟩:=mem_ready.1 hj
   have hnot:∀ e∈oj.after,Region.binds .any e=true→e.on≠i:=fun e he hb heq=>by
    have h1:=hall e he hb
    have h0:=(mem_ready.1 hr).1
    rw [heq] at h1
    rcases Nat.lt_or_ge i listed.size with h' | h'
    ·simp [h'] at h0 h1; rw [h0] at h1; cases h1
    ·simp [Array.getElem?_eq_none h'] at h1
   have h2:=X0o hoj (hfree j oj hoj hji hjun hnot) (fun cs b=>hsel i oi cs b hi) (fun cs b=>hsel j oj cs b hoj) hw hy h1
   have hfree':∀ k ok,ops[k]? = some ok→k≠i→(listed.setIfInBounds j true).getD k true=false →
     (∀ e∈ok.after,Region.binds .any e=true→e.on≠i)→oi.apart ops ok=true:=fun k ok hk hki hun hno=>by
    refine hfree k ok hk hki ?_ hno
    by_cases hjk:j=k
    ·subst hjk; exact hjun
    ·rw [getD_set_ne true hjk] at hun; exact hun
   refine Xx8 (fun a' w' h3=>ih (listed.setIfInBounds j true) a' w' hfree' (ready_mono hr (Ne.symm hji)) h3.1.1 h3.1.2 ?_) h2
   rw [Array.setIfInBounds_comm _ _ hji]
   exact h3.2
end
def JN [Dr] (P:Program) (n:Nn) (w0:World) (F:Nat→Prop) (ops:List Oper) (Δ:List Fact) (fuel:Nat) (done:List Bool) (Q:Cont) (e:E) (Γ:List Fact):Prop :=
 ∀ a w,Fr n e a→Hold w0 F Γ w→cAny P ⟨ops⟩ (Hold w0 F Δ) (up n w0 F Q) fuel ⟨done⟩ a w
section
variable {P:Program} {n:Nn} {w0:World} {F:Nat→Prop} {ops:List Oper} {Δ:List Fact} {fuel i d:Nat} {done done':List Bool} {t:TypeId} {pos:String} {aft:Array Edge} {g:Option (Nat × Bool)} {Q:Cont} {e:E} {Γ:List Fact} [Dr]
theorem Xjb {id:Nat} (Δ:List Fact) (hm:P.follows .mixedOrders=true) (h:JN P n w0 F ops Δ ops.length (List.replicate ops.length false) Q e Γ):JC P n w0 F (.region id ⟨ops⟩ true) Q e Γ:=by
 intro a w fr ho
 refine wp_region_any hm ?_
 have:=Xuz _ _ _ _ (h a w.drew fr ho.drew)
 have e1:(⟨List.replicate ops.length false⟩:Array Bool)=Array.replicate (⟨ops⟩:Array Oper).size false:=by apply Array.ext'; simp
 rw [← e1]
 exact this
theorem JN.nil (hr:Region.ready .any ⟨ops⟩ ⟨done⟩=[]) (h:Q .normal e Γ):JN P n w0 F ops Δ fuel done Q e Γ:=by
 intro a w fr ho
 cases fuel with
 | zero=>exact ⟨hr,e,Γ,h,fr,ho⟩
 | succ fuel=>exact ⟨fun _=>⟨e,Γ,h,fr,ho⟩,by rw [hr]; simp⟩
def Xu0 (ops:List Oper) (done:List Bool) (i:Nat):Bool :=
 Region.noSelect ⟨ops⟩ && Region.free .any ⟨ops⟩ ⟨done⟩ i && (Region.ready .any ⟨ops⟩ ⟨done⟩).contains i
theorem JN.take {op:Op} {v:Value} (i:Nat) (hi:ops[i]? = some ⟨some d,op,t,pos,aft,g⟩) (hok:Xu0 ops done i=true) (hg:Xbj ops e g=some true) [hs:Sub Γ Δ] (h:OpV P n w0 F ⟨some d,op,t,pos,aft,g⟩ e Δ v) (hd:Nat.blt d n.s=true)
  (hdone:done.set i true=done') (k:JN P n w0 F ops Δ fuel done' Q ((d,v)::e) Γ):JN P n w0 F ops Δ (fuel+1) done Q e Γ:=by
 intro a w fr ho
 simp only [Xu0,Bool.and_eq_true] at hok
 obtain ⟨⟨h2,h3⟩,h4⟩:=hok
 have hi':(⟨ops⟩:Array Oper)[i]? = some ⟨some d,op,t,pos,aft,g⟩:=by simpa using hi
 refine Xsr hi' (Region.noSelect_spec h2) fuel ⟨done⟩ a w (Region.free_spec hi' h3) (by simpa using h4) (ho.sub hs) ⟨Xa9 (o:=⟨some d,op,t,pos,aft,g⟩) hg fr,fun w ho=>h a w fr ho⟩ ?_
 have:=k _ w (fr.put hd v) ho
 rw [← hdone] at this
 simpa using this
theorem JN.reslot (s:Nat) {v:Value} (u:Value) [hs:Lk e s v] (h:v=u) (k:JN P n w0 F ops Δ fuel done Q ((s,u)::e) Γ):JN P n w0 F ops Δ fuel done Q e Γ :=
 fun a w fr ho=>k a w (fr.again (by rw [← h]; exact hs.ok)) ho
theorem JN.more {Γ':List Fact} (h:∀ w,Hold w0 F Γ w→Hold w0 F Γ' w) (k:JN P n w0 F ops Δ fuel done Q e Γ'):JN P n w0 F ops Δ fuel done Q e Γ :=
 fun a w fr ho=>k a w fr (h w ho)
theorem opN {o:Oper} (i:Nat) (hi:ops[i]? = some o) (hg:Xbj ops e o.guard=some true)
  (h:JR P n w0 F ⟨[o]⟩ 0 o [] (fun x e' Γ'=>x = .normal∧Sub Γ' Δ∧JN P n w0 F ops Δ fuel (done.set i true) Q e' Γ') e Γ) (a:Act) (w:World) (fr:Fr n e a) (ho:Hold w0 F Γ w) :
  cOp P ⟨ops⟩ (Hold w0 F Δ) i (cAny P ⟨ops⟩ (Hold w0 F Δ) (up n w0 F Q) fuel ((⟨done⟩:Array Bool).setIfInBounds i true)) a w:=by
 have hi':(⟨ops⟩:Array Oper)[i]? = some o:=by simpa using hi
 unfold cOp
 simp only [hi']
 rw [if_pos (Xa9 hg fr)]
 have h1:=h rfl a w fr ho
 have key:∀ (K K':Act→World→Prop) (Q1 Q2:Exit→Act→World→Prop),(∀ a w,K a w→K' a w)→(∀ x a w,Q1 x a w→x = .normal)→o.wp P a w K Q1→o.wp P a w K' Q2:=by
  intro K K' Q1 Q2 hk hq hh
  have hh':=Oper.wp_mono (P:=P) hk hh
  unfold Oper.wp at *
  generalize (execOp a.eval o).run P w=r at *
  cases r with
  | ok n w' =>
   cases n <;> simp only [Oper.upon] at hh' ⊢ <;> first | exact hh' | skip
   refine Calls.mono hh' fun e w'' he=>?_
   cases e with
   | returned v=>exact he
   | panicked c=>have:=hq _ _ _ he; cases this
   | outgrown=>obtain ⟨_,_,h⟩:=he; have:=hq _ _ _ h; cases this
  | halt x w'=>cases x <;> simp only [Oper.upon] at hh' ⊢ <;> first | exact hh' | (have:=hq _ _ _ hh'; cases this)
 refine key _ _ _ _ (fun a' w' hk=>?_) ?_ h1
 ·simp only [List.range'_zero,List.length_nil,wpOps] at hk
  obtain ⟨e',Γ',⟨_,hs,hj⟩,fr',ho'⟩:=hk
  have:=hj a' w' fr' ho'
  exact ⟨fun _=>ho'.sub hs,by simpa using this⟩
 ·rintro x a w ⟨e',Γ',⟨hx,_⟩,_⟩
  exact hx
theorem JN.op {o:Oper} (i:Nat) (hr:Region.ready .any ⟨ops⟩ ⟨done⟩=[i]) (hi:ops[i]? = some o) (hg:Xbj ops e o.guard=some true)
  (h:JR P n w0 F ⟨[o]⟩ 0 o [] (fun x e' Γ'=>x = .normal∧Sub Γ' Δ∧JN P n w0 F ops Δ fuel (done.set i true) Q e' Γ') e Γ):JN P n w0 F ops Δ (fuel+1) done Q e Γ:=by
 intro a w fr ho
 refine ⟨fun h0=>?_,fun j hj=>?_⟩
 ·rw [h0] at hr; cases hr
 ·rw [hr] at hj
  simp only [List.mem_singleton] at hj; subst hj
  exact opN j hi hg h a w fr ho
theorem JN.both {o o':Oper} (i j:Nat) (hr:Region.ready .any ⟨ops⟩ ⟨done⟩=[i,j]) (hi:ops[i]? = some o) (hj:ops[j]? = some o') (hg:Xbj ops e o.guard=some true) (hg':Xbj ops e o'.guard=some true)
  (h:JR P n w0 F ⟨[o]⟩ 0 o [] (fun x e' Γ'=>x = .normal∧Sub Γ' Δ∧JN P n w0 F ops Δ fuel (done.set i true) Q e' Γ') e Γ)
  (h':JR P n w0 F ⟨[o']⟩ 0 o' [] (fun x e' Γ'=>x = .normal∧Sub Γ' Δ∧JN P n w0 F ops Δ fuel (done.set j true) Q e' Γ') e Γ):JN P n w0 F ops Δ (fuel+1) done Q e Γ:=by
 intro a w fr ho
 refine ⟨fun h0=>?_,fun k hk=>?_⟩
 ·rw [h0] at hr; cases hr
 ·rw [hr] at hk
  simp only [List.mem_cons,List.not_mem_nil,or_false] at hk
  rcases hk with rfl | rfl
  ·exact opN k hi hg h a w fr ho
  ·exact opN k hj hg' h' a w fr ho
end
section
attribute [local irreducible] JC JO JR JQ andThen inBlock OpV Gives Xae JM JS
structure Bx (q:Prop):Prop where
 out:q
theorem wA {p q:Prop} (h:q) (f:Bx q→p:=by intro h; (repeat (first|refine Wa ?_|refine Wb ?_|refine Wc ?_|refine Wd ?_|refine We rfl ?_|refine Wf (by first|exact Va|exact Vb|exact Vc|exact Vd|exact Ve|exact Vf|exact Vg|exact Vh|exact Vi|exact Vj|exact Vk (by omega)|exact Vl|exact Vm|exact Vn|exact Vo|exact Vp|exact Vq|exact Vr|exact Vs (by omega)|exact Vt (by omega)|exact Vu (by omega)|exact Vv (by omega)|exact Vw|exact Vx|exact Vy|exact Vz|exact VA|exact VB|exact VC|exact VD|exact VE|exact VF) rfl ?_|refine Wi ?_|refine Wj ?_|refine Wk ?_|refine Wl ?_|refine Wm ?_|refine Wn ?_|refine Wo ?_|refine Wp ?_|refine Wq rfl ?_|refine Wr ?_|refine Ws ?_|refine Wt ?_|refine Wu ?_|refine Wv rfl rfl ?_)); exact h.out):p:=f ⟨h⟩
theorem wX {p q:Prop} (h:q) (f:Bx q→p:=by intro h; (repeat (first|refine Wa ?_|refine Wb ?_|refine Wc ?_|refine Wd ?_|refine We rfl ?_|refine Wf (by first|exact Va|exact Vb|exact Vc|exact Vd|exact Ve|exact Vf|exact Vg|exact Vh|exact Vi|exact Vj|exact Vk (by omega)|exact Vl|exact Vm|exact Vn|exact Vo|exact Vp|exact Vq|exact Vr|exact Vs (by omega)|exact Vt (by omega)|exact Vu (by omega)|exact Vv (by omega)|exact Vw|exact Vx|exact Vy|exact Vz|exact VA|exact VB|exact VC|exact VD|exact VE|exact VF) rfl ?_|refine Wi ?_|refine Wj ?_|refine Wk ?_|refine Wl ?_|refine Wm ?_|refine Wn ?_|refine Wo ?_|refine Wp ?_|refine Wq rfl ?_|refine Wr ?_|refine Ws ?_|refine Wt ?_|refine Wu ?_|refine Wv rfl rfl ?_|refine Wx rfl rfl ?_)); exact h.out):p:=f ⟨h⟩
theorem wz1 {p q:Prop} (h:q) (f:Bx q→p:=by intro h; (repeat (first|refine Wa ?_|refine Wb ?_|refine Wc ?_|refine Wd ?_|refine We rfl ?_|refine Wf (by first|exact Va|exact Vb|exact Vc|exact Vd|exact Vh|exact Vi|exact Vj) rfl ?_|refine Wj ?_|refine Wl ?_|refine Wn ?_|refine Ws ?_|refine Wt ?_|refine Wv rfl rfl ?_)); exact h.out):p:=f ⟨h⟩
theorem wz2 {p q:Prop} (h:q) (f:Bx q→p:=by intro h; (repeat (first|refine Wa ?_|refine Wb ?_|refine Wc ?_|refine Wd ?_|refine We rfl ?_|refine Wf (by first|exact Va|exact Vb|exact Vf|exact Vg|exact Vk (by omega)) rfl ?_|refine Wk ?_|refine Wl ?_|refine Wr ?_)); exact h.out):p:=f ⟨h⟩
theorem wz3 {p q:Prop} (h:q) (f:Bx q→p:=by intro h; (repeat (first|refine Wa ?_|refine Wb ?_|refine Wc ?_|refine Wd ?_|refine We rfl ?_|refine Wf (by first|exact Va|exact Vb|exact Vc) rfl ?_|refine Wi ?_|refine Wm ?_|refine Wo ?_|refine Wp ?_|refine Ws ?_|refine Wt ?_)); exact h.out):p:=f ⟨h⟩
theorem wz4 {p q:Prop} (h:q) (f:Bx q→p:=by intro h; (repeat (first|refine Wa ?_|refine Wb ?_|refine Wc ?_|refine Wd ?_|refine We rfl ?_|refine Wf (by first|exact Va|exact Vb|exact Vf|exact Vl|exact Vq) rfl ?_|refine Wn ?_)); exact h.out):p:=f ⟨h⟩
theorem wz5 {p q:Prop} (h:q) (f:Bx q→p:=by intro h; (repeat (first|refine Wa ?_|refine Wb ?_|refine Wc ?_|refine Wd ?_|refine We rfl ?_|refine Wf (by first|exact Va|exact Vb|exact Vf|exact Vh|exact Vj|exact Vo) rfl ?_|refine Ws ?_|refine Wt ?_|refine Wu ?_)); exact h.out):p:=f ⟨h⟩
theorem wz6 {p q:Prop} (h:q) (f:Bx q→p:=by intro h; (repeat (first|refine We rfl ?_|refine Wf (by first|exact Va|exact Vc|exact Vd|exact Vi|exact Vl) rfl ?_)); exact h.out):p:=f ⟨h⟩
theorem wz7 {p q:Prop} (h:q) (f:Bx q→p:=by intro h; (repeat (first|refine Wa ?_|refine Wb ?_|refine Wc ?_|refine Wd ?_|refine We rfl ?_|refine Wf (by first|exact Va|exact Vb|exact Vh|exact Vj) rfl ?_|refine Wk ?_|refine Wl ?_|refine Wn ?_)); exact h.out):p:=f ⟨h⟩
theorem wz8 {p q:Prop} (h:q) (f:Bx q→p:=by intro h; (repeat (first|refine Wa ?_|refine Wb ?_|refine Wc ?_|refine Wd ?_|refine We rfl ?_|refine Wf (by first|exact Va|exact Vb|exact Vh|exact Vi|exact Vj) rfl ?_|refine Wj ?_|refine Ws ?_|refine Wt ?_|refine Wu ?_|refine Wv rfl rfl ?_)); exact h.out):p:=f ⟨h⟩
theorem wz9 {p q:Prop} (h:q) (f:Bx q→p:=by intro h; (repeat (first|refine Wa ?_|refine Wb ?_|refine Wc ?_|refine Wd ?_|refine We rfl ?_|refine Wf (by first|exact Va|exact Vb|exact Vc|exact Vd) rfl ?_|refine Wi ?_|refine Ws ?_|refine Wt ?_)); exact h.out):p:=f ⟨h⟩
theorem wz10 {p q:Prop} (h:q) (f:Bx q→p:=by intro h; (repeat (first|refine Wa ?_|refine Wb ?_|refine Wc ?_|refine Wd ?_|refine We rfl ?_|refine Wf (by first|exact Va|exact Vb|exact Vp) rfl ?_|refine Ws ?_)); exact h.out):p:=f ⟨h⟩
theorem wz11 {p q:Prop} (h:q) (f:Bx q→p:=by intro h; (repeat (first|refine Wa ?_|refine Wb ?_|refine Wc ?_|refine Wd ?_|refine We rfl ?_|refine Wf (by first|exact Va|exact Vc|exact Vd|exact Vf|exact Vg|exact Vj|exact Vl) rfl ?_)); exact h.out):p:=f ⟨h⟩
theorem wz12 {p q:Prop} (h:q) (f:Bx q→p:=by intro h; (repeat (first|refine Wa ?_|refine Wb ?_|refine Wc ?_|refine Wd ?_|refine We rfl ?_|refine Wf (by first|exact Va|exact Vb|exact Vi|exact Vk (by omega)) rfl ?_|refine Wj ?_|refine Wl ?_|refine Wm ?_|refine Wo ?_|refine Wp ?_|refine Wq rfl ?_|refine Wr ?_|refine Ws ?_|refine Wv rfl rfl ?_)); exact h.out):p:=f ⟨h⟩
theorem wz13 {p q:Prop} (h:q) (f:Bx q→p:=by intro h; (repeat (first|refine Wa ?_|refine We rfl ?_|refine Ws ?_)); exact h.out):p:=f ⟨h⟩
theorem wz14 {p q:Prop} (h:q) (f:Bx q→p:=by intro h; (repeat (first|refine Wa ?_|refine Wb ?_|refine Wc ?_|refine We rfl ?_|refine Wf (by first|exact Va|exact Vo) rfl ?_|refine Wl ?_|refine Wn ?_)); exact h.out):p:=f ⟨h⟩
theorem wE {p:Prop} {Q:Nat→Prop} (h:∀ b,Q b) (f:Bx (∀ b,Q b)→p:=by intro h; (repeat (first|refine Wa ?_|refine Wb ?_|refine Wc ?_|refine Wd ?_|refine We rfl ?_|refine Wf (by first|exact Va|exact Vb|exact Vc|exact Vd|exact Ve|exact Vf|exact Vg|exact Vh|exact Vi|exact Vj|exact Vk (by omega)|exact Vl|exact Vm|exact Vn|exact Vo|exact Vp|exact Vq|exact Vr|exact Vs (by omega)|exact Vt (by omega)|exact Vu (by omega)|exact Vv (by omega)|exact Vw|exact Vx|exact Vy|exact Vz|exact VA|exact VB|exact VC|exact VD|exact VE|exact VF) rfl ?_|refine Wi ?_|refine Wj ?_|refine Wk ?_|refine Wl ?_|refine Wm ?_|refine Wn ?_|refine Wo ?_|refine Wp ?_|refine Wq rfl ?_|refine Wr ?_|refine Ws ?_|refine Wt ?_|refine Wu ?_|refine Wv rfl rfl ?_)); (first|refine Wg rfl ?_|refine Wh rfl ?_|refine Ww rfl ⟨rfl,by decide,by decide,by decide⟩ ?_); exact h.out):p:=f ⟨h⟩
theorem wF {p:Prop} {Q:Nat→Prop} (h:∀ b,Q b) (f:Bx (∀ b,Q b)→p:=by intro h; (repeat (first|refine Wa ?_|refine Wb ?_|refine Wc ?_|refine Wd ?_|refine We rfl ?_|refine Wf (by first|exact Va|exact Vb|exact Vc|exact Vd|exact Ve|exact Vf|exact Vg|exact Vh|exact Vi|exact Vj|exact Vk (by omega)|exact Vl|exact Vm|exact Vn|exact Vo|exact Vp|exact Vq|exact Vr|exact Vs (by omega)|exact Vt (by omega)|exact Vu (by omega)|exact Vv (by omega)|exact Vw|exact Vx|exact Vy|exact Vz|exact VA|exact VB|exact VC|exact VD|exact VE|exact VF) rfl ?_|refine Wi ?_|refine Wj ?_|refine Wk ?_|refine Wl ?_|refine Wm ?_|refine Wn ?_|refine Wo ?_|refine Wp ?_|refine Wq rfl ?_|refine Wr ?_|refine Ws ?_|refine Wt ?_|refine Wu ?_|refine Wv rfl rfl ?_|refine Wx rfl rfl ?_)); (first|refine Wg rfl ?_|refine Wh rfl ?_|refine Ww rfl ⟨rfl,by decide,by decide,by decide⟩ ?_); exact h.out):p:=f ⟨h⟩
theorem wQ {p q:Prop} (h:q) (f:Bx q→p:=by intro h; (repeat (first|refine Wy rfl (by first|exact Va|exact Vb|exact Vc|exact Vd|exact Ve|exact Vf|exact Vg|exact Vh|exact Vi|exact Vj|exact Vk (by omega)|exact Vl|exact Vm|exact Vn|exact Vo|exact Vp|exact Vq|exact Vr|exact Vs (by omega)|exact Vt (by omega)|exact Vu (by omega)|exact Vv (by omega)|exact Vw|exact Vx|exact Vy|exact Vz|exact VA|exact VB|exact VC|exact VD|exact VE|exact VF) rfl ?_|refine Wz rfl rfl ?_|refine WB ?_)); exact h.out):p:=f ⟨h⟩
theorem wY {p q:Prop} (h:q) (f:Bx q→p:=by intro h; (repeat (first|refine Wy rfl (by first|exact Va|exact Vb|exact Vc|exact Vd|exact Ve|exact Vf|exact Vg|exact Vh|exact Vi|exact Vj|exact Vk (by omega)|exact Vl|exact Vm|exact Vn|exact Vo|exact Vp|exact Vq|exact Vr|exact Vs (by omega)|exact Vt (by omega)|exact Vu (by omega)|exact Vv (by omega)|exact Vw|exact Vx|exact Vy|exact Vz|exact VA|exact VB|exact VC|exact VD|exact VE|exact VF) rfl ?_|refine Wz rfl rfl ?_|refine WA rfl rfl ?_|refine WB ?_)); exact h.out):p:=f ⟨h⟩
theorem z0z {p q:Prop} (h:q) (f:Bx q→p:=by intro h; (repeat (first | refine Wa ?_ | refine Wb ?_ | refine Wc ?_ | refine Wd ?_ | refine We rfl ?_ | refine Wf (by first | exact Va | exact Vb | exact Xa6 | exact Xa8 | exact Xa5 | exact Xak | exact Xai) rfl ?_ | refine Ws ?_ | refine Wt ?_)); exact h.out):p:=f ⟨h⟩
theorem z1z {p q:Prop} (h:q) (f:Bx q→p:=by intro h; (repeat (first | refine Wy rfl (by first | exact Va | exact Vb | exact Xa6 | exact Xa8 | exact Xa5 | exact Xak | exact Xai) rfl ?_ | refine WB ?_)); exact h.out):p:=f ⟨h⟩
theorem nO {x:Exit} {Ob:Obl} {j:Nat} {Γ:List Fact} {C:Prop} (k:C) (ho:Obs Ob j Γ:=by repeat (first|exact Obs.nil|refine Obs.keep ?_|refine Obs.skip (by kernel_rfl) ?_)):x=x∧Obs Ob j Γ∧C:=⟨rfl,ho,k⟩
section
variable {P:Program} {n:Nn} {w0:World} {F:Nat→Prop} {ops:List Oper} {Ob:Obl} {m fuel d:Nat} {done done':List Bool} {t:TypeId} {pos:String} {aft:Array Edge} {g:Option (Nat × Bool)} {Q:Cont} {e:E} {Γ:List Fact} {op:Op} {v:Value}
theorem Xad [Dr] (i:Nat) (k:JP P n w0 F ops Ob fuel done' Q ((d,v)::e) Γ) (hi:ops[i]? = some ⟨some d,op,t,pos,aft,g⟩:=by exact rfl) (hok:Xe6 ops done i=true:=by kernel_rfl) (hg:Xbj ops e g=some true:=by exact rfl) (h:∀ w1,OpV P n w1 F ⟨some d,op,t,pos,aft,g⟩ e [] v:=by intro _; first|exact Va|exact Vd|exact Vb|exact OpV.nilCheck|exact Vi|exact Vj|exact Vq|exact Vf|exact Vl|exact Xbm|exact Vh|exact Vm|exact VB) (hd:Nat.blt d n.s=true:=by exact rfl) (hdone:done.set i true=done':=by exact rfl):JP P n w0 F ops Ob (fuel+1) done Q e Γ:=JP.pure i hi hok hg h hd hdone k
theorem JP.ov [Dr] (i:Nat) (k:JP P n w0 F ops Ob fuel done' Q ((d,undef)::e) Γ) (hi:ops[i]? = some ⟨some d,op,t,pos,aft,g⟩:=by exact rfl) (hok:Xe6 ops done i=true:=by kernel_rfl) (hg:Xbj ops e g=some false:=by exact rfl) (hd:Nat.blt d n.s=true:=by exact rfl) (hdone:done.set i true=done':=by exact rfl):JP P n w0 F ops Ob (fuel+1) done Q e Γ:=JP.omit i hi hok hg hd hdone k
theorem JP.tv [Dr] (i:Nat) (Δ:List Fact) (k:JP P n w0 F ops ((Xc3 ops i,Δ)::Ob) fuel done' Q ((d,v)::e) Γ) (hi:ops[i]? = some ⟨some d,op,t,pos,aft,g⟩:=by exact rfl) (hok:Xe6 ops done i=true:=by kernel_rfl) (hg:Xbj ops e g=some true:=by exact rfl) [hs:Sub Γ Δ] (h:OpV P n w0 F ⟨some d,op,t,pos,aft,g⟩ e Δ v:=by exact Vc) (hd:Nat.blt d n.s=true:=by exact rfl) (hdone:done.set i true=done':=by exact rfl):JP P n w0 F ops Ob (fuel+1) done Q e Γ:=JP.take i Δ hi hok hg h hd hdone k
theorem Xal [Dr] {o:Oper} (i:Nat) (hi:ops[i]? = some o) (hg:Xbj ops e o.guard=some true)
  (h:JR P n w0 F ⟨[o]⟩ 0 o [] (fun x e' Γ'=>x = .normal∧Obs Ob i Γ'∧JP P n w0 F ops Ob fuel (done.set i true) Q e' Γ') e Γ) (hr:Region.ready .any ⟨ops⟩ ⟨done⟩=[i]:=by kernel_rfl):JP P n w0 F ops Ob (fuel+1) done Q e Γ:=JP.op i hr hi hg h
theorem JM.tv [Dr] (i:Nat) (k:JM P n w0 F ops m fuel done' Q ((d,v)::e) Γ) (hi:ops[i]? = some ⟨some d,op,t,pos,aft,g⟩:=by exact rfl) (hok:Xjx ops m done i=true:=by kernel_rfl) (hg:Xbj ops e g=some true:=by exact rfl) (h:OpV P n w0 F ⟨some d,op,t,pos,aft,g⟩ e Γ v:=by first|exact Va|exact Vc|exact Vd|exact Vb|exact OpV.nilCheck|exact Vi|exact Vj|exact Vq|exact Vf|exact Vl|exact Xbm|exact Vh|exact Vm|exact VB|exact Ve) (hd:Nat.blt d n.s=true:=by exact rfl) (hdone:done.set i true=done':=by exact rfl):JM P n w0 F ops m (fuel+1) done Q e Γ:=JM.take i hi hok hg h hd hdone k
theorem JM.ov [Dr] (i:Nat) (k:JM P n w0 F ops m fuel done' Q ((d,undef)::e) Γ) (hi:ops[i]? = some ⟨some d,op,t,pos,aft,g⟩:=by exact rfl) (hok:Xjx ops m done i=true:=by kernel_rfl) (hg:Xbj ops e g=some false:=by exact rfl) (hd:Nat.blt d n.s=true:=by exact rfl) (hdone:done.set i true=done':=by exact rfl):JM P n w0 F ops m (fuel+1) done Q e Γ:=JM.omit i hi hok hg hd hdone k
end
end
def Xam (a b:ByteArray):Bool:=Op.bytesLess a.toList b.toList
theorem Xj9:∀ l:List UInt8,Op.bytesLess l l=false
 | []=>rfl
 | a::l=>by simp [Op.bytesLess,Xj9 l]
theorem Xl2:∀ {a b c:List UInt8},Op.bytesLess a b=true→Op.bytesLess b c=true→Op.bytesLess a c=true
 | _,[],_,h,_=>by cases ‹List UInt8› <;> simp [Op.bytesLess] at h
 | _,_::_,[],_,h=>by simp [Op.bytesLess] at h
 | [],_::_,_::_,_,_=>rfl
 | x::a,y::b,z::c,h,k=>by
  simp only [Op.bytesLess,Bool.or_eq_true,Bool.and_eq_true,decide_eq_true_eq,beq_iff_eq] at h k ⊢
  rcases h with h | ⟨rfl,h⟩
  ·rcases k with k | ⟨rfl,k⟩
   ·exact .inl (by rw [UInt8.lt_iff_toNat_lt] at *; omega)
   ·exact .inl h
  ·rcases k with k | ⟨rfl,k⟩
   ·exact .inl k
   ·exact .inr ⟨rfl,Xl2 h k⟩
theorem Xl3:∀ {a b:List UInt8},a≠b→Op.bytesLess a b=true∨Op.bytesLess b a=true
 | [],[],h=>(h rfl).elim
 | [],_::_,_=>.inl rfl
 | _::_,[],_=>.inr rfl
 | x::a,y::b,h=>by
  simp only [Op.bytesLess,Bool.or_eq_true,Bool.and_eq_true,decide_eq_true_eq,beq_iff_eq]
  by_cases hxy:x=y
  ·subst hxy
   rcases Xl3 (a:=a) (b:=b) (fun e=>h (by rw [e])) with k | k
   ·exact .inl (.inr ⟨rfl,k⟩)
   ·exact .inr (.inr ⟨rfl,k⟩)
  ·have hne:x.toNat≠y.toNat:=fun e=>hxy (UInt8.toNat_inj.1 e)
   rw [UInt8.lt_iff_toNat_lt,UInt8.lt_iff_toNat_lt]
   rcases Nat.lt_or_gt_of_ne hne with k | k
   ·exact .inl (.inl k)
   ·exact .inr (.inl k)
theorem Xcx (a:ByteArray):Xam a a=false:=Xj9 _
theorem Xbr {a b c:ByteArray} (h:Xam a b=true) (k:Xam b c=true):Xam a c=true:=Xl2 h k
theorem Xcb {a b:ByteArray} (h:a≠b):Xam a b=true∨Xam b a=true:=by
 refine Xl3 fun e=>h ?_
 have:=Xd0 a b
 rw [e] at this
 simpa using this.symm
theorem Xd6 {a b:ByteArray} (h:Xam a b=true):Xam b a=false:=by
 cases hb:Xam b a with
 | false=>rfl
 | true=>have:=Xbr h hb; rw [Xcx] at this; cases this
theorem Xok {a b:ByteArray}:(Xam a b || decide (a=b)) = !Xam b a:=by
 by_cases e:a=b
 ·subst e; simp [Xcx]
 ·rcases Xcb e with h | h
  ·rw [h,Xd6 h]; rfl
  ·rw [h,Xd6 h,decide_eq_false e]; rfl
section
variable {P:Program} {n:Nn} {w0:World} {F:Nat→Prop} {d:Option Nat} {t:TypeId} {pos:String} {aft:Array Edge} {g:Option (Nat × Bool)} {e:E} {Γ:List Fact} {x y:Operand} {ty yt:TypeId} {s u:ByteArray}
theorem Xhw [Dr] [hx:Ev e x (.string s)] [hy:Ev e y (.string u)]:OpV P n w0 F ⟨d, .binOp .lss ty x y yt,t,pos,aft,g⟩ e Γ (.bool (Xam s u)) :=
 fun a w fr _=>by simp [execOp,hx.ok n a fr,hy.ok n a fr,eqGuard,binOp,Op.stringOp,Xam]
theorem Xl4 [Dr] [hx:Ev e x (.string s)] [hy:Ev e y (.string u)]:OpV P n w0 F ⟨d, .binOp .leq ty x y yt,t,pos,aft,g⟩ e Γ (.bool (!Xam u s)) :=
 fun a w fr _=>by
  have h1:=Xd0 s u
  have h2:(Op.bytesLess s.toList u.toList || s.toList == u.toList) = !Xam u s:=by rw [h1]; exact Xok
  simp [execOp,hx.ok n a fr,hy.ok n a fr,eqGuard,binOp,Op.stringOp,h2]
theorem Xl5 [Dr] [hx:Ev e x (.string s)] [hy:Ev e y (.string u)]:OpV P n w0 F ⟨d, .binOp .gtr ty x y yt,t,pos,aft,g⟩ e Γ (.bool (Xam u s)) :=
 fun a w fr _=>by
  have h1:=Xd0 s u
  have h2:(!(Op.bytesLess s.toList u.toList || s.toList == u.toList))=Xam u s:=by rw [h1,show Op.bytesLess s.toList u.toList=Xam s u from rfl,Xok,Bool.not_not]
  simp [execOp,hx.ok n a fr,hy.ok n a fr,eqGuard,binOp,Op.stringOp,h2]
end
structure Ctr_ where
 key:ByteArray
 n:Int
 deriving DecidableEq
structure Reg_ where
 key:ByteArray
 elem:ByteArray
 gen:Int
 ev:Ev_
 deriving DecidableEq
structure Pair_ where
 key:ByteArray
 elem:ByteArray
 ev:Ev_
 deriving DecidableEq
abbrev ctrC (c:Ctr_):List Value:=[.string c.key, .int .i64 c.n]
abbrev regC (r:Reg_):List Value:=[.string r.key, .string r.elem, .int .i64 r.gen, .int .i64 r.ev.node, .int .i64 r.ev.seq]
abbrev Xcc (p:Pair_):List Value:=[.string p.key, .string p.elem, .int .i64 p.ev.node, .int .i64 p.ev.seq]
instance:Cell Ctr_ where
 Ix:=Unit
 sz:=2
 cells c _:=ctrC c
 facts _ _:=[]
 len _ _:=rfl
 one _ _:=by
  intro v hv
  simp only [ctrC,List.mem_cons,List.not_mem_nil,or_false] at hv
  rcases hv with rfl | rfl <;> rfl
 pos:=by decide
instance:Cell Reg_ where
 Ix:=Unit
 sz:=5
 cells r _:=regC r
 facts _ _:=[]
 len _ _:=rfl
 one _ _:=by
  intro v hv
  simp only [regC,List.mem_cons,List.not_mem_nil,or_false] at hv
  rcases hv with rfl | rfl | rfl | rfl | rfl <;> rfl
 pos:=by decide
instance:Cell Pair_ where
 Ix:=Unit
 sz:=4
 cells p _:=Xcc p
 facts _ _:=[]
 len _ _:=rfl
 one _ _:=by
  intro v hv
  simp only [Xcc,List.mem_cons,List.not_mem_nil,or_false] at hv
  rcases hv with rfl | rfl | rfl | rfl <;> rfl
 pos:=by decide
instance:Cell ByteArray where
 Ix:=Unit
 sz:=1
 cells s _:=[.string s]
 facts _ _:=[]
 len _ _:=rfl
 one _ _:=by
  intro v hv
  simp only [List.mem_singleton] at hv
  subst hv; rfl
 pos:=by decide
instance {Γ:List Fact} {k:ByteArray} {m:Int}:Typed Γ [.string k, .int .i64 m] (⟨k,m⟩:Ctr_):=⟨(),rfl,by simp [Cell.facts]⟩
instance {Γ:List Fact} {k u:ByteArray} {g a b:Int}:Typed Γ [.string k, .string u, .int .i64 g, .int .i64 a, .int .i64 b] (⟨k,u,g,⟨a,b⟩⟩:Reg_):=⟨(),rfl,by simp [Cell.facts]⟩
instance {Γ:List Fact} {k u:ByteArray} {a b:Int}:Typed Γ [.string k, .string u, .int .i64 a, .int .i64 b] (⟨k,u,⟨a,b⟩⟩:Pair_):=⟨(),rfl,by simp [Cell.facts]⟩
instance {Γ:List Fact} {k:ByteArray}:Typed Γ [.string k] k:=⟨(),rfl,by simp [Cell.facts]⟩
section
variable {P:Program} {n:Nn} {w0:World} {F:Nat→Prop} {ops:Array Oper} {i d:Nat} {t:TypeId} {pos:String} {aft:Array Edge} {g:Option (Nat × Bool)} {os:List Oper} {Q:Cont} {e:E} {Γ:List Fact}
theorem Xka [Dr] {x ix:Operand} {v:Value} {L:List Ctr_} {kk:IntKind} {j:Int} {k:Nat} {ty el:TypeId} {sz by_ eb:Nat} {z ez:Value} {ed:TypeDesc}
  [hx:Ev e x v] [hL:HasSl Γ v Ctr_ iI L] [hi:Ev e ix (.int kk j)] [hk:NatI j k] [hT:Ty P ty (.slice el) sz by_ z] [hE:Ty P el ed 2 eb ez] (hd:Nat.blt d n.s=true) (h:k < L.length)
  (K:∀ b o,JO P n w0 F ops (i+1) os Q ((d, .pointer (some ⟨b,o,none⟩))::e) (.st (ro b o [.string (L[k]'h).key, .int .i64 (L[k]'h).n])::Γ)) :
  JR P n w0 F ops i ⟨some d, .indexAddr ty x ix,t,pos,aft,g⟩ os Q e Γ:=JR.index hd rfl h fun b o _=>K b o
theorem Xe7 [Dr] {x ix:Operand} {v:Value} {L:List Reg_} {kk:IntKind} {j:Int} {k:Nat} {ty el:TypeId} {sz by_ eb:Nat} {z ez:Value} {ed:TypeDesc}
  [hx:Ev e x v] [hL:HasSl Γ v Reg_ iI L] [hi:Ev e ix (.int kk j)] [hk:NatI j k] [hT:Ty P ty (.slice el) sz by_ z] [hE:Ty P el ed 5 eb ez] (hd:Nat.blt d n.s=true) (h:k < L.length)
  (K:∀ b o,JO P n w0 F ops (i+1) os Q ((d, .pointer (some ⟨b,o,none⟩))::e) (.st (ro b o [.string (L[k]'h).key, .string (L[k]'h).elem, .int .i64 (L[k]'h).gen, .int .i64 (L[k]'h).ev.node, .int .i64 (L[k]'h).ev.seq])::Γ)) :
  JR P n w0 F ops i ⟨some d, .indexAddr ty x ix,t,pos,aft,g⟩ os Q e Γ:=JR.index hd rfl h fun b o _=>K b o
theorem Xek [Dr] {x ix:Operand} {v:Value} {L:List Pair_} {kk:IntKind} {j:Int} {k:Nat} {ty el:TypeId} {sz by_ eb:Nat} {z ez:Value} {ed:TypeDesc}
  [hx:Ev e x v] [hL:HasSl Γ v Pair_ iI L] [hi:Ev e ix (.int kk j)] [hk:NatI j k] [hT:Ty P ty (.slice el) sz by_ z] [hE:Ty P el ed 4 eb ez] (hd:Nat.blt d n.s=true) (h:k < L.length)
  (K:∀ b o,JO P n w0 F ops (i+1) os Q ((d, .pointer (some ⟨b,o,none⟩))::e) (.st (ro b o [.string (L[k]'h).key, .string (L[k]'h).elem, .int .i64 (L[k]'h).ev.node, .int .i64 (L[k]'h).ev.seq])::Γ)) :
  JR P n w0 F ops i ⟨some d, .indexAddr ty x ix,t,pos,aft,g⟩ os Q e Γ:=JR.index hd rfl h fun b o _=>K b o
theorem JR.indexStr [Dr] {x ix:Operand} {v:Value} {L:List ByteArray} {kk:IntKind} {j:Int} {k:Nat} {ty el:TypeId} {sz by_ eb:Nat} {z ez:Value} {ed:TypeDesc}
  [hx:Ev e x v] [hL:HasSl Γ v ByteArray iI L] [hi:Ev e ix (.int kk j)] [hk:NatI j k] [hT:Ty P ty (.slice el) sz by_ z] [hE:Ty P el ed 1 eb ez] (hd:Nat.blt d n.s=true) (h:k < L.length)
  (K:∀ b o,JO P n w0 F ops (i+1) os Q ((d, .pointer (some ⟨b,o,none⟩))::e) (.st (ro b o [.string (L[k]'h)])::Γ)) :
  JR P n w0 F ops i ⟨some d, .indexAddr ty x ix,t,pos,aft,g⟩ os Q e Γ:=JR.index hd rfl h fun b o _=>K b o
theorem Xhx [Dr] {c:Code} (v:Value) {L:List Ctr_} (k:Nat) [hL:HasSl Γ v Ctr_ iI L] (h:k < L.length)
  (K:∀ b o,JC P n w0 F c Q e (.st (elA v k 2 b o)::.st (ro b o [.string (L[k]'h).key, .int .i64 (L[k]'h).n])::Γ)):JC P n w0 F c Q e Γ:=JC.open_ k hL h fun b o _=>K b o
theorem Xf9 [Dr] {c:Code} (v:Value) {L:List Reg_} (k:Nat) [hL:HasSl Γ v Reg_ iI L] (h:k < L.length)
  (K:∀ b o,JC P n w0 F c Q e (.st (elA v k 5 b o)::.st (ro b o [.string (L[k]'h).key, .string (L[k]'h).elem, .int .i64 (L[k]'h).gen, .int .i64 (L[k]'h).ev.node, .int .i64 (L[k]'h).ev.seq])::Γ)):JC P n w0 F c Q e Γ:=JC.open_ k hL h fun b o _=>K b o
theorem Xd7 [Dr] {c:Code} (v:Value) {L:List Pair_} (k:Nat) [hL:HasSl Γ v Pair_ iI L] (h:k < L.length)
  (K:∀ b o,JC P n w0 F c Q e (.st (elA v k 4 b o)::.st (ro b o [.string (L[k]'h).key, .string (L[k]'h).elem, .int .i64 (L[k]'h).ev.node, .int .i64 (L[k]'h).ev.seq])::Γ)):JC P n w0 F c Q e Γ:=JC.open_ k hL h fun b o _=>K b o
end
instance:Ty prog 1 (TypeDesc.func #[] #[] false) 1 8 (.nilFunc):=tY underlying1
instance:Ty prog 2 (TypeDesc.int IntKind.i64) 1 8 (.int .i64 0):=tY underlying2
instance:Ty prog 3 (TypeDesc.int IntKind.i64) 1 8 (.int .i64 0):=tY underlying3
instance:Ty prog 4 (TypeDesc.bool) 1 1 (.bool false):=tY underlying4
instance:Ty prog 5 (TypeDesc.int IntKind.u8) 1 1 (.int .u8 0):=tY underlying5
instance:Ty prog 6 (TypeDesc.int IntKind.u8) 1 1 (.int .u8 0):=tY underlying6
instance:Ty prog 9 (TypeDesc.string) 1 16 (.string .empty):=tY underlying9
instance:Ty prog 10 (TypeDesc.string) 1 16 (.string .empty):=tY underlying10
instance:Ty prog 11 (TypeDesc.string) 1 16 (.string .empty):=tY underlying11
instance:Ty prog 12 (TypeDesc.int IntKind.u64) 1 8 (.int .u64 0):=tY underlying12
instance:Ty prog 15 (TypeDesc.pointer 343) 1 8 (.pointer none):=tY underlying15
instance:Ty prog 16 (TypeDesc.pointer 346) 1 8 (.pointer none):=tY underlying16
instance:Ty prog 17 (TypeDesc.pointer 355) 1 8 (.pointer none):=tY underlying17
instance:Ty prog 18 (TypeDesc.struct #[⟨ "typ", 17,0,false, "", "internal/runtime/maps", 0⟩]) 1 8 (.agg ⟨[.pointer none]⟩):=tY underlying18
instance:Ty prog 19 (TypeDesc.struct #[⟨ "typ", 17,0,false, "", "internal/runtime/maps", 0⟩]) 1 8 (.agg ⟨[.pointer none]⟩):=tY underlying19
instance:Ty prog 20 (TypeDesc.interface #[]) 1 16 (.nilIface):=tY underlying20
instance:Ty prog 21 (TypeDesc.int IntKind.i32) 1 4 (.int .i32 0):=tY underlying21
instance:Ty prog 22 (TypeDesc.slice 31) 1 24 (.slice none 0 0):=tY underlying22
instance:Ty prog 23 (TypeDesc.struct #[⟨ "Node", 3,0,false, "", "", 0⟩,⟨ "Seq", 3,1,false, "", "", 8⟩]) 2 16 (.agg ⟨[.int .i64 0, .int .i64 0]⟩):=tY underlying23
instance:Ty prog 24 (TypeDesc.struct #[⟨ "Node", 3,0,false, "", "", 0⟩,⟨ "Seq", 3,1,false, "", "", 8⟩]) 2 16 (.agg ⟨[.int .i64 0, .int .i64 0]⟩):=tY underlying24
instance:Ty prog 25 (TypeDesc.struct #[⟨ "Kind", 3,0,false, "", "", 0⟩,⟨ "Key", 9,1,false, "", "", 8⟩,⟨ "Elem", 9,2,false, "", "", 24⟩,⟨ "N", 3,3,false, "", "", 40⟩]) 4 48 (.agg ⟨[.int .i64 0, .string .empty, .string .empty, .int .i64 0]⟩):=tY underlying25
instance:Ty prog 26 (TypeDesc.struct #[⟨ "Kind", 3,0,false, "", "", 0⟩,⟨ "Key", 9,1,false, "", "", 8⟩,⟨ "Elem", 9,2,false, "", "", 24⟩,⟨ "N", 3,3,false, "", "", 40⟩]) 4 48 (.agg ⟨[.int .i64 0, .string .empty, .string .empty, .int .i64 0]⟩):=tY underlying26
instance:Ty prog 27 (TypeDesc.func #[] #[4] false) 1 8 (.nilFunc):=tY underlying27
instance:Ty prog 28 (TypeDesc.func #[22,3] #[4] false) 1 8 (.nilFunc):=tY underlying28
instance:Ty prog 29 (TypeDesc.slice 72) 1 24 (.slice none 0 0):=tY underlying29
instance:Ty prog 30 (TypeDesc.struct #[⟨ "Ev", 24,0,false, "", "", 0⟩,⟨ "Gen", 3,2,false, "", "", 16⟩,⟨ "Parents", 29,3,false, "", "", 24⟩,⟨ "Op", 26,4,false, "", "", 48⟩]) 8 96 (.agg ⟨[.int .i64 0, .int .i64 0, .int .i64 0, .slice none 0 0, .int .i64 0, .string .empty, .string .empty, .int .i64 0]⟩):=tY underlying30
instance:Ty prog 31 (TypeDesc.struct #[⟨ "Ev", 24,0,false, "", "", 0⟩,⟨ "Gen", 3,2,false, "", "", 16⟩,⟨ "Parents", 29,3,false, "", "", 24⟩,⟨ "Op", 26,4,false, "", "", 48⟩]) 8 96 (.agg ⟨[.int .i64 0, .int .i64 0, .int .i64 0, .slice none 0 0, .int .i64 0, .string .empty, .string .empty, .int .i64 0]⟩):=tY underlying31
instance:Ty prog 33 (TypeDesc.func #[22,24,26] #[31,4] false) 1 8 (.nilFunc):=tY underlying33
instance:Ty prog 34 (TypeDesc.slice 97) 1 24 (.slice none 0 0):=tY underlying34
instance:Ty prog 35 (TypeDesc.slice 91) 1 24 (.slice none 0 0):=tY underlying35
instance:Ty prog 36 (TypeDesc.slice 77) 1 24 (.slice none 0 0):=tY underlying36
instance:Ty prog 37 (TypeDesc.struct #[⟨ "C", 34,0,false, "", "", 0⟩,⟨ "R", 35,1,false, "", "", 24⟩,⟨ "P", 36,2,false, "", "", 48⟩]) 3 72 (.agg ⟨[.slice none 0 0, .slice none 0 0, .slice none 0 0]⟩):=tY underlying37
instance:Ty prog 38 (TypeDesc.struct #[⟨ "C", 34,0,false, "", "", 0⟩,⟨ "R", 35,1,false, "", "", 24⟩,⟨ "P", 36,2,false, "", "", 48⟩]) 3 72 (.agg ⟨[.slice none 0 0, .slice none 0 0, .slice none 0 0]⟩):=tY underlying38
instance:Ty prog 39 (TypeDesc.int IntKind.i64) 1 8 (.int .i64 0):=tY underlying39
instance:Ty prog 41 (TypeDesc.func #[22] #[38,39] false) 1 8 (.nilFunc):=tY underlying41
instance:Ty prog 42 (TypeDesc.func #[38,26,24,3] #[38,39] false) 1 8 (.nilFunc):=tY underlying42
instance:Ty prog 43 (TypeDesc.func #[38,38] #[4] false) 1 8 (.nilFunc):=tY underlying43
instance:Ty prog 44 (TypeDesc.func #[22,24,26] #[4] false) 1 8 (.nilFunc):=tY underlying44
instance:Ty prog 45 (TypeDesc.func #[22] #[4] false) 1 8 (.nilFunc):=tY underlying45
instance:Ty prog 46 (TypeDesc.func #[22] #[22] false) 1 8 (.nilFunc):=tY underlying46
instance:Ty prog 47 (TypeDesc.slice 5) 1 24 (.slice none 0 0):=tY underlying47
instance:Ty prog 48 (TypeDesc.slice 3) 1 24 (.slice none 0 0):=tY underlying48
instance:Ty prog 49 (TypeDesc.struct #[⟨ "No", 3,0,false, "", "", 0⟩,⟨ "Disk", 47,1,false, "", "", 8⟩,⟨ "Room", 3,2,false, "", "", 32⟩,⟨ "L", 22,3,false, "", "", 40⟩,⟨ "Wait", 22,4,false, "", "", 64⟩,⟨ "Seq", 3,5,false, "", "", 88⟩,⟨ "Up", 4,6,false, "", "", 96⟩,⟨ "Peers", 48,7,false, "", "", 104⟩,⟨ "Next", 3,8,false, "", "", 128⟩,⟨ "Miss", 3,9,false, "", "", 136⟩]) 10 144 (.agg ⟨[.int .i64 0, .slice none 0 0, .int .i64 0, .slice none 0 0, .slice none 0 0, .int .i64 0, .bool false, .slice none 0 0, .int .i64 0, .int .i64 0]⟩):=tY underlying49
instance:Ty prog 50 (TypeDesc.struct #[⟨ "No", 3,0,false, "", "", 0⟩,⟨ "Disk", 47,1,false, "", "", 8⟩,⟨ "Room", 3,2,false, "", "", 32⟩,⟨ "L", 22,3,false, "", "", 40⟩,⟨ "Wait", 22,4,false, "", "", 64⟩,⟨ "Seq", 3,5,false, "", "", 88⟩,⟨ "Up", 4,6,false, "", "", 96⟩,⟨ "Peers", 48,7,false, "", "", 104⟩,⟨ "Next", 3,8,false, "", "", 128⟩,⟨ "Miss", 3,9,false, "", "", 136⟩]) 10 144 (.agg ⟨[.int .i64 0, .slice none 0 0, .int .i64 0, .slice none 0 0, .slice none 0 0, .int .i64 0, .bool false, .slice none 0 0, .int .i64 0, .int .i64 0]⟩):=tY underlying50
instance:Ty prog 51 (TypeDesc.func #[50] #[4] false) 1 8 (.nilFunc):=tY underlying51
instance:Ty prog 52 (TypeDesc.func #[50,50] #[4] false) 1 8 (.nilFunc):=tY underlying52
instance:Ty prog 53 (TypeDesc.func #[50,22] #[50] false) 1 8 (.nilFunc):=tY underlying53
instance:Ty prog 54 (TypeDesc.func #[50,22] #[4] false) 1 8 (.nilFunc):=tY underlying54
instance:Ty prog 55 (TypeDesc.func #[26] #[4] false) 1 8 (.nilFunc):=tY underlying55
instance:Ty prog 57 (TypeDesc.func #[50] #[50,39] false) 1 8 (.nilFunc):=tY underlying57
instance:Ty prog 58 (TypeDesc.func #[50,26,3] #[50] false) 1 8 (.nilFunc):=tY underlying58
instance:Ty prog 59 (TypeDesc.func #[50,26] #[50,39] false) 1 8 (.nilFunc):=tY underlying59
instance:Ty prog 60 (TypeDesc.func #[22,22] #[4] false) 1 8 (.nilFunc):=tY underlying60
instance:Ty prog 61 (TypeDesc.func #[50,26,3] #[4] false) 1 8 (.nilFunc):=tY underlying61
instance:Ty prog 62 (TypeDesc.func #[50] #[38,39] false) 1 8 (.nilFunc):=tY underlying62
instance:Ty prog 63 (TypeDesc.func #[50,26,22] #[4] false) 1 8 (.nilFunc):=tY underlying63
instance:Ty prog 64 (TypeDesc.func #[50,26] #[4] false) 1 8 (.nilFunc):=tY underlying64
instance:Ty prog 66 (TypeDesc.func #[3,3] #[50,4] false) 1 8 (.nilFunc):=tY underlying66
instance:Ty prog 67 (TypeDesc.func #[29,29] #[4] false) 1 8 (.nilFunc):=tY underlying67
instance:Ty prog 68 (TypeDesc.func #[29] #[29] false) 1 8 (.nilFunc):=tY underlying68
instance:Ty prog 69 (TypeDesc.func #[22] #[29] false) 1 8 (.nilFunc):=tY underlying69
instance:Ty prog 70 (TypeDesc.func #[] #[31] false) 1 8 (.nilFunc):=tY underlying70
instance:Ty prog 71 (TypeDesc.array 32 5) 32 32 (.agg ⟨List.replicate 32 (.int .u8 0)⟩):=tY underlying71
instance:Ty prog 72 (TypeDesc.array 32 5) 32 32 (.agg ⟨List.replicate 32 (.int .u8 0)⟩):=tY underlying72
instance:Ty prog 74 (TypeDesc.func #[31] #[72,39] false) 1 8 (.nilFunc):=tY underlying74
instance:Ty prog 75 (TypeDesc.func #[22,29] #[38,39] false) 1 8 (.nilFunc):=tY underlying75
instance:Ty prog 76 (TypeDesc.struct #[⟨ "Key", 9,0,false, "", "", 0⟩,⟨ "Elem", 9,1,false, "", "", 16⟩,⟨ "Ev", 24,2,false, "", "", 32⟩]) 4 48 (.agg ⟨[.string .empty, .string .empty, .int .i64 0, .int .i64 0]⟩):=tY underlying76
instance:Ty prog 77 (TypeDesc.struct #[⟨ "Key", 9,0,false, "", "", 0⟩,⟨ "Elem", 9,1,false, "", "", 16⟩,⟨ "Ev", 24,2,false, "", "", 32⟩]) 4 48 (.agg ⟨[.string .empty, .string .empty, .int .i64 0, .int .i64 0]⟩):=tY underlying77
instance:Ty prog 78 (TypeDesc.func #[31] #[4] false) 1 8 (.nilFunc):=tY underlying78
instance:Ty prog 79 (TypeDesc.func #[22] #[3] true) 1 8 (.nilFunc):=tY underlying79
instance:Ty prog 80 (TypeDesc.pointer 83) 1 8 (.pointer none):=tY underlying80
instance:Ty prog 81 (TypeDesc.map 72 38) 1 8 (.map none):=tY underlying81
instance:Ty prog 82 (TypeDesc.struct #[⟨ "l", 22,0,false, "", "anabranch/eval", 0⟩,⟨ "done", 81,1,false, "", "anabranch/eval", 24⟩]) 2 32 (.agg ⟨[.slice none 0 0, .map none]⟩):=tY underlying82
instance:Ty prog 83 (TypeDesc.struct #[⟨ "l", 22,0,false, "", "anabranch/eval", 0⟩,⟨ "done", 81,1,false, "", "anabranch/eval", 24⟩]) 2 32 (.agg ⟨[.slice none 0 0, .map none]⟩):=tY underlying83
instance:Ty prog 84 (TypeDesc.func #[29] #[38] false) 1 8 (.nilFunc):=tY underlying84
instance:Ty prog 85 (TypeDesc.func #[38] #[4] false) 1 8 (.nilFunc):=tY underlying85
instance:Ty prog 86 (TypeDesc.func #[24] #[4] false) 1 8 (.nilFunc):=tY underlying86
instance:Ty prog 87 (TypeDesc.func #[38] #[38] false) 1 8 (.nilFunc):=tY underlying87
instance:Ty prog 88 (TypeDesc.func #[34,9,3] #[34] false) 1 8 (.nilFunc):=tY underlying88
instance:Ty prog 89 (TypeDesc.func #[35,91] #[35] false) 1 8 (.nilFunc):=tY underlying89
instance:Ty prog 90 (TypeDesc.struct #[⟨ "Key", 9,0,false, "", "", 0⟩,⟨ "Elem", 9,1,false, "", "", 16⟩,⟨ "Gen", 3,2,false, "", "", 32⟩,⟨ "Ev", 24,3,false, "", "", 40⟩]) 5 56 (.agg ⟨[.string .empty, .string .empty, .int .i64 0, .int .i64 0, .int .i64 0]⟩):=tY underlying90
instance:Ty prog 91 (TypeDesc.struct #[⟨ "Key", 9,0,false, "", "", 0⟩,⟨ "Elem", 9,1,false, "", "", 16⟩,⟨ "Gen", 3,2,false, "", "", 32⟩,⟨ "Ev", 24,3,false, "", "", 40⟩]) 5 56 (.agg ⟨[.string .empty, .string .empty, .int .i64 0, .int .i64 0, .int .i64 0]⟩):=tY underlying91
instance:Ty prog 92 (TypeDesc.func #[36,77] #[36] false) 1 8 (.nilFunc):=tY underlying92
instance:Ty prog 93 (TypeDesc.func #[36,9,9] #[36] false) 1 8 (.nilFunc):=tY underlying93
instance:Ty prog 94 (TypeDesc.array 4 1) 4 32 (.agg ⟨[.nilFunc, .nilFunc, .nilFunc, .nilFunc]⟩):=tY underlying94
instance:Ty prog 95 (TypeDesc.func #[34,34] #[4] false) 1 8 (.nilFunc):=tY underlying95
instance:Ty prog 96 (TypeDesc.struct #[⟨ "Key", 9,0,false, "", "", 0⟩,⟨ "N", 3,1,false, "", "", 16⟩]) 2 24 (.agg ⟨[.string .empty, .int .i64 0]⟩):=tY underlying96
instance:Ty prog 97 (TypeDesc.struct #[⟨ "Key", 9,0,false, "", "", 0⟩,⟨ "N", 3,1,false, "", "", 16⟩]) 2 24 (.agg ⟨[.string .empty, .int .i64 0]⟩):=tY underlying97
instance:Ty prog 98 (TypeDesc.func #[35,35] #[4] false) 1 8 (.nilFunc):=tY underlying98
instance:Ty prog 99 (TypeDesc.func #[36,36] #[4] false) 1 8 (.nilFunc):=tY underlying99
instance:Ty prog 100 (TypeDesc.map 72 31) 1 8 (.map none):=tY underlying100
instance:Ty prog 101 (TypeDesc.map 72 202) 1 8 (.map none):=tY underlying101
instance:Ty prog 102 (TypeDesc.struct #[⟨ "of", 100,0,false, "", "anabranch/dag", 0⟩,⟨ "knows", 101,1,false, "", "anabranch/dag", 8⟩]) 2 16 (.agg ⟨[.map none, .map none]⟩):=tY underlying102
instance:Ty prog 103 (TypeDesc.struct #[⟨ "of", 100,0,false, "", "anabranch/dag", 0⟩,⟨ "knows", 101,1,false, "", "anabranch/dag", 8⟩]) 2 16 (.agg ⟨[.map none, .map none]⟩):=tY underlying103
instance:Ty prog 105 (TypeDesc.func #[22] #[103,29,4] false) 1 8 (.nilFunc):=tY underlying105
instance:Ty prog 106 (TypeDesc.func #[48,108] #[] false) 1 8 (.nilFunc):=tY underlying106
instance:Ty prog 107 (TypeDesc.func #[48] #[3] true) 1 8 (.nilFunc):=tY underlying107
instance:Ty prog 108 (TypeDesc.func #[3,3] #[3] false) 1 8 (.nilFunc):=tY underlying108
instance:Ty prog 109 (TypeDesc.func #[47,47] #[3] false) 1 8 (.nilFunc):=tY underlying109
instance:Ty prog 110 (TypeDesc.func #[31] #[31] false) 1 8 (.nilFunc):=tY underlying110
instance:Ty prog 111 (TypeDesc.func #[3] #[26] false) 1 8 (.nilFunc):=tY underlying111
instance:Ty prog 112 (TypeDesc.func #[34,9] #[3] false) 1 8 (.nilFunc):=tY underlying112
instance:Ty prog 113 (TypeDesc.pointer 119) 1 8 (.pointer none):=tY underlying113
instance:Ty prog 114 (TypeDesc.func #[50] #[113] false) 1 8 (.nilFunc):=tY underlying114
instance:Ty prog 115 (TypeDesc.func #[31] #[] false) 1 8 (.nilFunc):=tY underlying115
instance:Ty prog 116 (TypeDesc.struct #[⟨ "Node", 50,0,true, "", "", 0⟩]) 10 144 (.agg ⟨[.int .i64 0, .slice none 0 0, .int .i64 0, .slice none 0 0, .slice none 0 0, .int .i64 0, .bool false, .slice none 0 0, .int .i64 0, .int .i64 0]⟩):=tY underlying116
instance:Ty prog 117 (TypeDesc.struct #[⟨ "Node", 50,0,true, "", "", 0⟩]) 10 144 (.agg ⟨[.int .i64 0, .slice none 0 0, .int .i64 0, .slice none 0 0, .slice none 0 0, .int .i64 0, .bool false, .slice none 0 0, .int .i64 0, .int .i64 0]⟩):=tY underlying117
instance:Ty prog 118 (TypeDesc.struct #[⟨ "disk", 117,0,true, "", "anabranch/branch", 0⟩]) 10 144 (.agg ⟨[.int .i64 0, .slice none 0 0, .int .i64 0, .slice none 0 0, .slice none 0 0, .int .i64 0, .bool false, .slice none 0 0, .int .i64 0, .int .i64 0]⟩):=tY underlying118
instance:Ty prog 119 (TypeDesc.struct #[⟨ "disk", 117,0,true, "", "anabranch/branch", 0⟩]) 10 144 (.agg ⟨[.int .i64 0, .slice none 0 0, .int .i64 0, .slice none 0 0, .slice none 0 0, .int .i64 0, .bool false, .slice none 0 0, .int .i64 0, .int .i64 0]⟩):=tY underlying119
instance:Ty prog 120 (TypeDesc.func #[29,72] #[4] false) 1 8 (.nilFunc):=tY underlying120
instance:Ty prog 121 (TypeDesc.func #[50,31] #[4] false) 1 8 (.nilFunc):=tY underlying121
instance:Ty prog 122 (TypeDesc.func #[22,31] #[22] false) 1 8 (.nilFunc):=tY underlying122
instance:Ty prog 123 (TypeDesc.func #[50] #[50] false) 1 8 (.nilFunc):=tY underlying123
instance:Ty prog 124 (TypeDesc.func #[3,3] #[4] false) 1 8 (.nilFunc):=tY underlying124
instance:Ty prog 126 (TypeDesc.func #[47] #[22,3] false) 1 8 (.nilFunc):=tY underlying126
instance:Ty prog 127 (TypeDesc.func #[22,3] #[3] false) 1 8 (.nilFunc):=tY underlying127
instance:Ty prog 128 (TypeDesc.func #[47] #[47] false) 1 8 (.nilFunc):=tY underlying128
instance:Ty prog 129 (TypeDesc.func #[26] #[39] false) 1 8 (.nilFunc):=tY underlying129
instance:Ty prog 130 (TypeDesc.func #[31,31] #[4] false) 1 8 (.nilFunc):=tY underlying130
instance:Ty prog 131 (TypeDesc.map 72 4) 1 8 (.map none):=tY underlying131
instance:Ty prog 132 (TypeDesc.map 72 4) 1 8 (.map none):=tY underlying132
instance:Ty prog 133 (TypeDesc.func #[29] #[132] false) 1 8 (.nilFunc):=tY underlying133
instance:Ty prog 134 (TypeDesc.func #[] #[29] false) 1 8 (.nilFunc):=tY underlying134
instance:Ty prog 136 (TypeDesc.func #[31] #[47,39] false) 1 8 (.nilFunc):=tY underlying136
instance:Ty prog 137 (TypeDesc.func #[47] #[72] false) 1 8 (.nilFunc):=tY underlying137
instance:Ty prog 138 (TypeDesc.func #[22,29] #[22] false) 1 8 (.nilFunc):=tY underlying138
instance:Ty prog 139 (TypeDesc.func #[22,29] #[29] false) 1 8 (.nilFunc):=tY underlying139
instance:Ty prog 140 (TypeDesc.func #[29,29] #[29] false) 1 8 (.nilFunc):=tY underlying140
instance:Ty prog 141 (TypeDesc.func #[3,3,3] #[4] false) 1 8 (.nilFunc):=tY underlying141
instance:Ty prog 142 (TypeDesc.func #[29] #[4] false) 1 8 (.nilFunc):=tY underlying142
instance:Ty prog 143 (TypeDesc.func #[29] #[72] false) 1 8 (.nilFunc):=tY underlying143
instance:Ty prog 145 (TypeDesc.func #[72] #[38] false) 1 8 (.nilFunc):=tY underlying145
instance:Ty prog 146 (TypeDesc.func #[34] #[4] false) 1 8 (.nilFunc):=tY underlying146
instance:Ty prog 147 (TypeDesc.func #[35] #[4] false) 1 8 (.nilFunc):=tY underlying147
instance:Ty prog 148 (TypeDesc.func #[36] #[4] false) 1 8 (.nilFunc):=tY underlying148
instance:Ty prog 149 (TypeDesc.func #[26] #[47] false) 1 8 (.nilFunc):=tY underlying149
instance:Ty prog 150 (TypeDesc.func #[209,47] #[47,4] false) 1 8 (.nilFunc):=tY underlying150
instance:Ty prog 151 (TypeDesc.struct #[⟨ "may", 55,0,false, "", "anabranch/ops", 0⟩,⟨ "put", 149,1,false, "", "anabranch/ops", 8⟩,⟨ "get", 150,2,false, "", "anabranch/ops", 16⟩]) 3 24 (.agg ⟨[.nilFunc, .nilFunc, .nilFunc]⟩):=tY underlying151
instance:Ty prog 152 (TypeDesc.struct #[⟨ "may", 55,0,false, "", "anabranch/ops", 0⟩,⟨ "put", 149,1,false, "", "anabranch/ops", 8⟩,⟨ "get", 150,2,false, "", "anabranch/ops", 16⟩]) 3 24 (.agg ⟨[.nilFunc, .nilFunc, .nilFunc]⟩):=tY underlying152
instance:Ty prog 154 (TypeDesc.map 3 152) 1 8 (.map none):=tY underlying154
instance:Ty prog 155 (TypeDesc.func #[] #[154] false) 1 8 (.nilFunc):=tY underlying155
instance:Ty prog 156 (TypeDesc.func #[9] #[4] false) 1 8 (.nilFunc):=tY underlying156
instance:Ty prog 157 (TypeDesc.func #[34] #[34] false) 1 8 (.nilFunc):=tY underlying157
instance:Ty prog 158 (TypeDesc.func #[35] #[35] false) 1 8 (.nilFunc):=tY underlying158
instance:Ty prog 159 (TypeDesc.func #[36] #[36] false) 1 8 (.nilFunc):=tY underlying159
instance:Ty prog 160 (TypeDesc.map 9 3) 1 8 (.map none):=tY underlying160
instance:Ty prog 161 (TypeDesc.map 9 3) 1 8 (.map none):=tY underlying161
instance:Ty prog 162 (TypeDesc.func #[34,3] #[] false) 1 8 (.nilFunc):=tY underlying162
instance:Ty prog 163 (TypeDesc.func #[] #[34] false) 1 8 (.nilFunc):=tY underlying163
instance:Ty prog 164 (TypeDesc.func #[91] #[4] false) 1 8 (.nilFunc):=tY underlying164
instance:Ty prog 165 (TypeDesc.func #[35,35] #[35] false) 1 8 (.nilFunc):=tY underlying165
instance:Ty prog 166 (TypeDesc.map 77 3) 1 8 (.map none):=tY underlying166
instance:Ty prog 167 (TypeDesc.map 77 3) 1 8 (.map none):=tY underlying167
instance:Ty prog 168 (TypeDesc.func #[36] #[167] false) 1 8 (.nilFunc):=tY underlying168
instance:Ty prog 169 (TypeDesc.func #[] #[36] false) 1 8 (.nilFunc):=tY underlying169
instance:Ty prog 170 (TypeDesc.func #[36,171] #[36] false) 1 8 (.nilFunc):=tY underlying170
instance:Ty prog 171 (TypeDesc.func #[77] #[4] false) 1 8 (.nilFunc):=tY underlying171
instance:Ty prog 172 (TypeDesc.func #[72,31] #[4] false) 1 8 (.nilFunc):=tY underlying172
instance:Ty prog 173 (TypeDesc.func #[48,3,3,3,108] #[] false) 1 8 (.nilFunc):=tY underlying173
instance:Ty prog 174 (TypeDesc.func #[175] #[3] false) 1 8 (.nilFunc):=tY underlying174
instance:Ty prog 175 (TypeDesc.int IntKind.u64) 1 8 (.int .u64 0):=tY underlying175
instance:Ty prog 176 (TypeDesc.func #[3] #[4] false) 1 8 (.nilFunc):=tY underlying176
instance:Ty prog 177 (TypeDesc.func #[34,178] #[3] false) 1 8 (.nilFunc):=tY underlying177
instance:Ty prog 178 (TypeDesc.func #[97] #[4] false) 1 8 (.nilFunc):=tY underlying178
instance:Ty prog 179 (TypeDesc.func #[48] #[48] false) 1 8 (.nilFunc):=tY underlying179
instance:Ty prog 181 (TypeDesc.func #[22,29] #[31,22,4] false) 1 8 (.nilFunc):=tY underlying181
instance:Ty prog 182 (TypeDesc.func #[47,3,31] #[47,39] false) 1 8 (.nilFunc):=tY underlying182
instance:Ty prog 183 (TypeDesc.func #[246] #[] false) 1 8 (.nilFunc):=tY underlying183
instance:Ty prog 184 (TypeDesc.func #[246] #[] false) 1 8 (.nilFunc):=tY underlying184
instance:Ty prog 185 (TypeDesc.func #[47] #[184] false) 1 8 (.nilFunc):=tY underlying185
instance:Ty prog 186 (TypeDesc.func #[22,22,130] #[4] false) 1 8 (.nilFunc):=tY underlying186
instance:Ty prog 187 (TypeDesc.func #[31] #[39] false) 1 8 (.nilFunc):=tY underlying187
instance:Ty prog 188 (TypeDesc.func #[29,189] #[] false) 1 8 (.nilFunc):=tY underlying188
instance:Ty prog 189 (TypeDesc.func #[72,72] #[3] false) 1 8 (.nilFunc):=tY underlying189
instance:Ty prog 190 (TypeDesc.func #[234] #[47] true) 1 8 (.nilFunc):=tY underlying190
instance:Ty prog 191 (TypeDesc.func #[192] #[47] false) 1 8 (.nilFunc):=tY underlying191
instance:Ty prog 192 (TypeDesc.int IntKind.u64) 1 8 (.int .u64 0):=tY underlying192
instance:Ty prog 193 (TypeDesc.func #[3] #[192] false) 1 8 (.nilFunc):=tY underlying193
instance:Ty prog 194 (TypeDesc.func #[26] #[47,39] false) 1 8 (.nilFunc):=tY underlying194
instance:Ty prog 195 (TypeDesc.int IntKind.u32) 1 4 (.int .u32 0):=tY underlying195
instance:Ty prog 196 (TypeDesc.array 8 195) 8 32 (.agg ⟨[.int .u32 0, .int .u32 0, .int .u32 0, .int .u32 0, .int .u32 0, .int .u32 0, .int .u32 0, .int .u32 0]⟩):=tY underlying196
instance:Ty prog 197 (TypeDesc.func #[] #[196] false) 1 8 (.nilFunc):=tY underlying197
instance:Ty prog 199 (TypeDesc.func #[196,47] #[196,4] false) 1 8 (.nilFunc):=tY underlying199
instance:Ty prog 200 (TypeDesc.array 4 5) 4 4 (.agg ⟨[.int .u8 0, .int .u8 0, .int .u8 0, .int .u8 0]⟩):=tY underlying200
instance:Ty prog 201 (TypeDesc.func #[195] #[200] false) 1 8 (.nilFunc):=tY underlying201
instance:Ty prog 202 (TypeDesc.map 72 4) 1 8 (.map none):=tY underlying202
instance:Ty prog 203 (TypeDesc.func #[29,29,4] #[29] false) 1 8 (.nilFunc):=tY underlying203
instance:Ty prog 204 (TypeDesc.func #[72,72] #[4] false) 1 8 (.nilFunc):=tY underlying204
instance:Ty prog 205 (TypeDesc.func #[22,72] #[31,4] false) 1 8 (.nilFunc):=tY underlying205
instance:Ty prog 206 (TypeDesc.func #[22,29,29] #[29] false) 1 8 (.nilFunc):=tY underlying206
instance:Ty prog 207 (TypeDesc.func #[38,38,38] #[38,39] false) 1 8 (.nilFunc):=tY underlying207
instance:Ty prog 208 (TypeDesc.func #[77,77] #[4] false) 1 8 (.nilFunc):=tY underlying208
instance:Ty prog 209 (TypeDesc.pointer 26) 1 8 (.pointer none):=tY underlying209
instance:Ty prog 211 (TypeDesc.func #[47] #[192,3] false) 1 8 (.nilFunc):=tY underlying211
instance:Ty prog 212 (TypeDesc.func #[192] #[3] false) 1 8 (.nilFunc):=tY underlying212
instance:Ty prog 213 (TypeDesc.func #[9] #[47] false) 1 8 (.nilFunc):=tY underlying213
instance:Ty prog 215 (TypeDesc.func #[47,3] #[9,47,4] false) 1 8 (.nilFunc):=tY underlying215
instance:Ty prog 216 (TypeDesc.func #[9,5] #[3] false) 1 8 (.nilFunc):=tY underlying216
instance:Ty prog 217 (TypeDesc.func #[160,218] #[34] false) 1 8 (.nilFunc):=tY underlying217
instance:Ty prog 218 (TypeDesc.func #[9,3] #[97,4] false) 1 8 (.nilFunc):=tY underlying218
instance:Ty prog 219 (TypeDesc.slice 91) 1 24 (.slice none 0 0):=tY underlying219
instance:Ty prog 220 (TypeDesc.func #[91] #[] false) 1 8 (.nilFunc):=tY underlying220
instance:Ty prog 221 (TypeDesc.func #[36,222] #[] false) 1 8 (.nilFunc):=tY underlying221
instance:Ty prog 222 (TypeDesc.func #[77,77] #[3] false) 1 8 (.nilFunc):=tY underlying222
instance:Ty prog 223 (TypeDesc.func #[36,171] #[3] false) 1 8 (.nilFunc):=tY underlying223
instance:Ty prog 224 (TypeDesc.func #[48,3,3,108] #[] false) 1 8 (.nilFunc):=tY underlying224
instance:Ty prog 225 (TypeDesc.int IntKind.i64) 1 8 (.int .i64 0):=tY underlying225
instance:Ty prog 227 (TypeDesc.func #[48,3,3,108] #[3,225] false) 1 8 (.nilFunc):=tY underlying227
instance:Ty prog 228 (TypeDesc.func #[48,3,3,108] #[4] false) 1 8 (.nilFunc):=tY underlying228
instance:Ty prog 229 (TypeDesc.func #[48,3,3,3,108] #[3] false) 1 8 (.nilFunc):=tY underlying229
instance:Ty prog 231 (TypeDesc.func #[48,3,3,3,108] #[3,4] false) 1 8 (.nilFunc):=tY underlying231
instance:Ty prog 232 (TypeDesc.func #[195] #[3] false) 1 8 (.nilFunc):=tY underlying232
instance:Ty prog 233 (TypeDesc.func #[22,78] #[4] false) 1 8 (.nilFunc):=tY underlying233
instance:Ty prog 234 (TypeDesc.slice 47) 1 24 (.slice none 0 0):=tY underlying234
instance:Ty prog 236 (TypeDesc.func #[47] #[234,3] false) 1 8 (.nilFunc):=tY underlying236
instance:Ty prog 238 (TypeDesc.func #[47] #[31,47,39] false) 1 8 (.nilFunc):=tY underlying238
instance:Ty prog 239 (TypeDesc.func #[47] #[47,39] false) 1 8 (.nilFunc):=tY underlying239
instance:Ty prog 240 (TypeDesc.slice 244) 1 24 (.slice none 0 0):=tY underlying240
instance:Ty prog 241 (TypeDesc.func #[22,29] #[240] false) 1 8 (.nilFunc):=tY underlying241
instance:Ty prog 242 (TypeDesc.func #[22,29,240,3] #[4] false) 1 8 (.nilFunc):=tY underlying242
instance:Ty prog 243 (TypeDesc.func #[29,72] #[3] false) 1 8 (.nilFunc):=tY underlying243
instance:Ty prog 244 (TypeDesc.slice 4) 1 24 (.slice none 0 0):=tY underlying244
instance:Ty prog 245 (TypeDesc.func #[47,3,47] #[47,39] false) 1 8 (.nilFunc):=tY underlying245
instance:Ty prog 246 (TypeDesc.func #[31,3] #[4] false) 1 8 (.nilFunc):=tY underlying246
instance:Ty prog 247 (TypeDesc.pointer 117) 1 8 (.pointer none):=tY underlying247
instance:Ty prog 248 (TypeDesc.func #[29,3,3,3,189] #[] false) 1 8 (.nilFunc):=tY underlying248
instance:Ty prog 249 (TypeDesc.func #[47,3] #[47] false) 1 8 (.nilFunc):=tY underlying249
instance:Ty prog 250 (TypeDesc.func #[301] #[] false) 1 8 (.nilFunc):=tY underlying250
instance:Ty prog 251 (TypeDesc.func #[301] #[] false) 1 8 (.nilFunc):=tY underlying251
instance:Ty prog 252 (TypeDesc.func #[192] #[251] false) 1 8 (.nilFunc):=tY underlying252
instance:Ty prog 253 (TypeDesc.func #[234,47] #[47] false) 1 8 (.nilFunc):=tY underlying253
instance:Ty prog 254 (TypeDesc.array 8 5) 8 8 (.agg ⟨[.int .u8 0, .int .u8 0, .int .u8 0, .int .u8 0, .int .u8 0, .int .u8 0, .int .u8 0, .int .u8 0]⟩):=tY underlying254
instance:Ty prog 255 (TypeDesc.func #[192] #[254] false) 1 8 (.nilFunc):=tY underlying255
instance:Ty prog 256 (TypeDesc.array 64 195) 64 256 (.agg ⟨List.replicate 64 (.int .u32 0)⟩):=tY underlying256
instance:Ty prog 257 (TypeDesc.func #[] #[256] false) 1 8 (.nilFunc):=tY underlying257
instance:Ty prog 258 (TypeDesc.func #[47] #[256] false) 1 8 (.nilFunc):=tY underlying258
instance:Ty prog 259 (TypeDesc.func #[195,3,3,3] #[195] false) 1 8 (.nilFunc):=tY underlying259
instance:Ty prog 260 (TypeDesc.func #[195,195,195] #[195] false) 1 8 (.nilFunc):=tY underlying260
instance:Ty prog 261 (TypeDesc.slice 195) 1 24 (.slice none 0 0):=tY underlying261
instance:Ty prog 262 (TypeDesc.func #[34,34,34] #[34] false) 1 8 (.nilFunc):=tY underlying262
instance:Ty prog 263 (TypeDesc.func #[36,36,36] #[36] false) 1 8 (.nilFunc):=tY underlying263
instance:Ty prog 264 (TypeDesc.func #[306] #[29] true) 1 8 (.nilFunc):=tY underlying264
instance:Ty prog 265 (TypeDesc.slice 9) 1 24 (.slice none 0 0):=tY underlying265
instance:Ty prog 266 (TypeDesc.func #[265] #[] false) 1 8 (.nilFunc):=tY underlying266
instance:Ty prog 268 (TypeDesc.pointer 219) 1 8 (.pointer none):=tY underlying268
instance:Ty prog 269 (TypeDesc.func #[9] #[3,4] false) 1 8 (.nilFunc):=tY underlying269
instance:Ty prog 270 (TypeDesc.func #[219,3,35] #[219] true) 1 8 (.nilFunc):=tY underlying270
instance:Ty prog 271 (TypeDesc.func #[91,91] #[4] false) 1 8 (.nilFunc):=tY underlying271
instance:Ty prog 272 (TypeDesc.func #[36,3,3,3,222] #[] false) 1 8 (.nilFunc):=tY underlying272
instance:Ty prog 273 (TypeDesc.func #[9,9] #[3] false) 1 8 (.nilFunc):=tY underlying273
instance:Ty prog 274 (TypeDesc.int IntKind.u64) 1 8 (.int .u64 0):=tY underlying274
instance:Ty prog 275 (TypeDesc.func #[3] #[175] false) 1 8 (.nilFunc):=tY underlying275
instance:Ty prog 276 (TypeDesc.func #[] #[192] false) 1 8 (.nilFunc):=tY underlying276
instance:Ty prog 277 (TypeDesc.func #[48,3,278,108] #[3] false) 1 8 (.nilFunc):=tY underlying277
instance:Ty prog 278 (TypeDesc.pointer 3) 1 8 (.pointer none):=tY underlying278
instance:Ty prog 279 (TypeDesc.func #[48,3,3,3,278,108] #[3] false) 1 8 (.nilFunc):=tY underlying279
instance:Ty prog 280 (TypeDesc.func #[22,78] #[3] false) 1 8 (.nilFunc):=tY underlying280
instance:Ty prog 281 (TypeDesc.func #[22,3,3] #[22] false) 1 8 (.nilFunc):=tY underlying281
instance:Ty prog 282 (TypeDesc.pointer 284) 1 8 (.pointer none):=tY underlying282
instance:Ty prog 283 (TypeDesc.struct #[⟨ "B", 47,0,false, "", "", 0⟩,⟨ "Bad", 4,1,false, "", "", 24⟩]) 2 32 (.agg ⟨[.slice none 0 0, .bool false]⟩):=tY underlying283
instance:Ty prog 284 (TypeDesc.struct #[⟨ "B", 47,0,false, "", "", 0⟩,⟨ "Bad", 4,1,false, "", "", 24⟩]) 2 32 (.agg ⟨[.slice none 0 0, .bool false]⟩):=tY underlying284
instance:Ty prog 285 (TypeDesc.func #[] #[72] false) 1 8 (.nilFunc):=tY underlying285
instance:Ty prog 287 (TypeDesc.func #[47] #[26,47,39] false) 1 8 (.nilFunc):=tY underlying287
instance:Ty prog 288 (TypeDesc.func #[195,3] #[195] false) 1 8 (.nilFunc):=tY underlying288
instance:Ty prog 289 (TypeDesc.func #[47] #[200] false) 1 8 (.nilFunc):=tY underlying289
instance:Ty prog 290 (TypeDesc.struct #[]) 0 0 (.agg ⟨[]⟩):=tY underlying290
instance:Ty prog 291 (TypeDesc.struct #[]) 0 0 (.agg ⟨[]⟩):=tY underlying291
instance:Ty prog 293 (TypeDesc.pointer 295) 1 8 (.pointer none):=tY underlying293
instance:Ty prog 294 (TypeDesc.struct #[⟨ "b", 47,0,false, "", "anabranch/commit", 0⟩]) 1 24 (.agg ⟨[.slice none 0 0]⟩):=tY underlying294
instance:Ty prog 295 (TypeDesc.struct #[⟨ "b", 47,0,false, "", "anabranch/commit", 0⟩]) 1 24 (.agg ⟨[.slice none 0 0]⟩):=tY underlying295
instance:Ty prog 296 (TypeDesc.func #[29,3,3,189] #[] false) 1 8 (.nilFunc):=tY underlying296
instance:Ty prog 297 (TypeDesc.func #[29,3,3,189] #[3,225] false) 1 8 (.nilFunc):=tY underlying297
instance:Ty prog 298 (TypeDesc.func #[29,3,3,189] #[4] false) 1 8 (.nilFunc):=tY underlying298
instance:Ty prog 299 (TypeDesc.func #[29,3,3,3,189] #[3] false) 1 8 (.nilFunc):=tY underlying299
instance:Ty prog 300 (TypeDesc.func #[29,3,3,3,189] #[3,4] false) 1 8 (.nilFunc):=tY underlying300
instance:Ty prog 301 (TypeDesc.func #[5] #[4] false) 1 8 (.nilFunc):=tY underlying301
instance:Ty prog 302 (TypeDesc.func #[3] #[47] false) 1 8 (.nilFunc):=tY underlying302
instance:Ty prog 304 (TypeDesc.func #[47,3] #[195,4] false) 1 8 (.nilFunc):=tY underlying304
instance:Ty prog 305 (TypeDesc.func #[324] #[36] true) 1 8 (.nilFunc):=tY underlying305
instance:Ty prog 306 (TypeDesc.slice 29) 1 24 (.slice none 0 0):=tY underlying306
instance:Ty prog 307 (TypeDesc.func #[29,3] #[29] false) 1 8 (.nilFunc):=tY underlying307
instance:Ty prog 308 (TypeDesc.func #[265,3,3,3] #[] false) 1 8 (.nilFunc):=tY underlying308
instance:Ty prog 309 (TypeDesc.func #[219,9,310] #[3,4] false) 1 8 (.nilFunc):=tY underlying309
instance:Ty prog 310 (TypeDesc.func #[91,9] #[3] false) 1 8 (.nilFunc):=tY underlying310
instance:Ty prog 311 (TypeDesc.func #[35,3] #[] false) 1 8 (.nilFunc):=tY underlying311
instance:Ty prog 312 (TypeDesc.func #[36,3,3,222] #[] false) 1 8 (.nilFunc):=tY underlying312
instance:Ty prog 313 (TypeDesc.func #[36,3,3,222] #[3,225] false) 1 8 (.nilFunc):=tY underlying313
instance:Ty prog 314 (TypeDesc.func #[36,3,3,222] #[4] false) 1 8 (.nilFunc):=tY underlying314
instance:Ty prog 315 (TypeDesc.func #[36,3,3,3,222] #[3] false) 1 8 (.nilFunc):=tY underlying315
instance:Ty prog 316 (TypeDesc.func #[36,3,3,3,222] #[3,4] false) 1 8 (.nilFunc):=tY underlying316
instance:Ty prog 317 (TypeDesc.pointer 274) 1 8 (.pointer none):=tY underlying317
instance:Ty prog 319 (TypeDesc.func #[48,3,3,278,108] #[3,3] false) 1 8 (.nilFunc):=tY underlying319
instance:Ty prog 320 (TypeDesc.func #[3] #[3] false) 1 8 (.nilFunc):=tY underlying320
instance:Ty prog 321 (TypeDesc.func #[4] #[] false) 1 8 (.nilFunc):=tY underlying321
instance:Ty prog 322 (TypeDesc.func #[29,3,278,189] #[3] false) 1 8 (.nilFunc):=tY underlying322
instance:Ty prog 323 (TypeDesc.func #[29,3,3,3,278,189] #[3] false) 1 8 (.nilFunc):=tY underlying323
instance:Ty prog 324 (TypeDesc.slice 36) 1 24 (.slice none 0 0):=tY underlying324
instance:Ty prog 325 (TypeDesc.func #[36,3] #[36] false) 1 8 (.nilFunc):=tY underlying325
instance:Ty prog 326 (TypeDesc.func #[265,3,3] #[] false) 1 8 (.nilFunc):=tY underlying326
instance:Ty prog 327 (TypeDesc.func #[265,3,3] #[3,225] false) 1 8 (.nilFunc):=tY underlying327
instance:Ty prog 328 (TypeDesc.func #[265,3,3] #[4] false) 1 8 (.nilFunc):=tY underlying328
instance:Ty prog 329 (TypeDesc.func #[9,9] #[4] false) 1 8 (.nilFunc):=tY underlying329
instance:Ty prog 330 (TypeDesc.func #[265,3,3,3] #[3] false) 1 8 (.nilFunc):=tY underlying330
instance:Ty prog 331 (TypeDesc.func #[265,3,3,3] #[3,4] false) 1 8 (.nilFunc):=tY underlying331
instance:Ty prog 332 (TypeDesc.func #[36,3,278,222] #[3] false) 1 8 (.nilFunc):=tY underlying332
instance:Ty prog 333 (TypeDesc.func #[36,3,3,3,278,222] #[3] false) 1 8 (.nilFunc):=tY underlying333
instance:Ty prog 335 (TypeDesc.func #[29,3,3,278,189] #[3,3] false) 1 8 (.nilFunc):=tY underlying335
instance:Ty prog 336 (TypeDesc.func #[265,3,278] #[3] false) 1 8 (.nilFunc):=tY underlying336
instance:Ty prog 337 (TypeDesc.func #[265,3,3,3,278] #[3] false) 1 8 (.nilFunc):=tY underlying337
instance:Ty prog 338 (TypeDesc.func #[35] #[] false) 1 8 (.nilFunc):=tY underlying338
instance:Ty prog 339 (TypeDesc.func #[36,3,3,278,222] #[3,3] false) 1 8 (.nilFunc):=tY underlying339
instance:Ty prog 340 (TypeDesc.func #[265,3,3,278] #[3,3] false) 1 8 (.nilFunc):=tY underlying340
instance:Ty prog 341 (TypeDesc.func #[] #[9] false) 1 8 (.nilFunc):=tY underlying341
instance:Ty prog 344 (TypeDesc.array 0 16) 0 0 (.agg ⟨[]⟩):=tY underlying344
instance:Ty prog 347 (TypeDesc.func #[] #[3] false) 1 8 (.nilFunc):=tY underlying347
instance:Ty prog 348 (TypeDesc.int IntKind.u8) 1 1 (.int .u8 0):=tY underlying348
instance:Ty prog 349 (TypeDesc.int IntKind.u8) 1 1 (.int .u8 0):=tY underlying349
instance:Ty prog 350 (TypeDesc.func #[356,356] #[4] false) 1 8 (.nilFunc):=tY underlying350
instance:Ty prog 351 (TypeDesc.pointer 5) 1 8 (.pointer none):=tY underlying351
instance:Ty prog 352 (TypeDesc.int IntKind.i32) 1 4 (.int .i32 0):=tY underlying352
instance:Ty prog 353 (TypeDesc.int IntKind.i32) 1 4 (.int .i32 0):=tY underlying353
instance:Ty prog 354 (TypeDesc.struct #[⟨ "Size_", 12,0,false, "", "", 0⟩,⟨ "PtrBytes", 12,1,false, "", "", 8⟩,⟨ "Hash", 195,2,false, "", "", 16⟩,⟨ "TFlag", 348,3,false, "", "", 20⟩,⟨ "Align_", 5,4,false, "", "", 21⟩,⟨ "FieldAlign_", 5,5,false, "", "", 22⟩,⟨ "Kind_", 349,6,false, "", "", 23⟩,⟨ "Equal", 350,7,false, "", "", 24⟩,⟨ "GCData", 351,8,false, "", "", 32⟩,⟨ "Str", 352,9,false, "", "", 40⟩,⟨ "PtrToThis", 353,10,false, "", "", 44⟩]) 11 48 (.agg ⟨[.int .u64 0, .int .u64 0, .int .u32 0, .int .u8 0, .int .u8 0, .int .u8 0, .int .u8 0, .nilFunc, .pointer none, .int .i32 0, .int .i32 0]⟩):=tY underlying354
instance:Ty prog 355 (TypeDesc.struct #[⟨ "Size_", 12,0,false, "", "", 0⟩,⟨ "PtrBytes", 12,1,false, "", "", 8⟩,⟨ "Hash", 195,2,false, "", "", 16⟩,⟨ "TFlag", 348,3,false, "", "", 20⟩,⟨ "Align_", 5,4,false, "", "", 21⟩,⟨ "FieldAlign_", 5,5,false, "", "", 22⟩,⟨ "Kind_", 349,6,false, "", "", 23⟩,⟨ "Equal", 350,7,false, "", "", 24⟩,⟨ "GCData", 351,8,false, "", "", 32⟩,⟨ "Str", 352,9,false, "", "", 40⟩,⟨ "PtrToThis", 353,10,false, "", "", 44⟩]) 11 48 (.agg ⟨[.int .u64 0, .int .u64 0, .int .u32 0, .int .u8 0, .int .u8 0, .int .u8 0, .int .u8 0, .nilFunc, .pointer none, .int .i32 0, .int .i32 0]⟩):=tY underlying355
instance:Ty prog 356 (TypeDesc.unsafePointer) 1 8 (.pointer none):=tY underlying356
instance:Fld prog 18 0 0:=Fld.mk' (ft:=17) rfl rfl
instance:Fld prog 19 0 0:=Fld.mk' (ft:=17) rfl rfl
instance:Fld prog 23 0 0:=Fld.mk' (ft:=3) rfl rfl
instance:Fld prog 23 1 1:=Fld.mk' (ft:=3) rfl rfl
instance:Fld prog 24 0 0:=Fld.mk' (ft:=3) rfl rfl
instance:Fld prog 24 1 1:=Fld.mk' (ft:=3) rfl rfl
instance:Fld prog 25 0 0:=Fld.mk' (ft:=3) rfl rfl
instance:Fld prog 25 1 1:=Fld.mk' (ft:=9) rfl rfl
instance:Fld prog 25 2 2:=Fld.mk' (ft:=9) rfl rfl
instance:Fld prog 25 3 3:=Fld.mk' (ft:=3) rfl rfl
instance:Fld prog 26 0 0:=Fld.mk' (ft:=3) rfl rfl
instance:Fld prog 26 1 1:=Fld.mk' (ft:=9) rfl rfl
instance:Fld prog 26 2 2:=Fld.mk' (ft:=9) rfl rfl
instance:Fld prog 26 3 3:=Fld.mk' (ft:=3) rfl rfl
instance:Fld prog 30 0 0:=Fld.mk' (ft:=24) rfl rfl
instance:Fld prog 30 1 2:=Fld.mk' (ft:=3) rfl rfl
instance:Fld prog 30 2 3:=Fld.mk' (ft:=29) rfl rfl
instance:Fld prog 30 3 4:=Fld.mk' (ft:=26) rfl rfl
instance:Fld prog 31 0 0:=Fld.mk' (ft:=24) rfl rfl
instance:Fld prog 31 1 2:=Fld.mk' (ft:=3) rfl rfl
instance:Fld prog 31 2 3:=Fld.mk' (ft:=29) rfl rfl
instance:Fld prog 31 3 4:=Fld.mk' (ft:=26) rfl rfl
instance:Fld prog 37 0 0:=Fld.mk' (ft:=34) rfl rfl
instance:Fld prog 37 1 1:=Fld.mk' (ft:=35) rfl rfl
instance:Fld prog 37 2 2:=Fld.mk' (ft:=36) rfl rfl
instance:Fld prog 38 0 0:=Fld.mk' (ft:=34) rfl rfl
instance:Fld prog 38 1 1:=Fld.mk' (ft:=35) rfl rfl
instance:Fld prog 38 2 2:=Fld.mk' (ft:=36) rfl rfl
instance:Fld prog 49 0 0:=Fld.mk' (ft:=3) rfl rfl
instance:Fld prog 49 1 1:=Fld.mk' (ft:=47) rfl rfl
instance:Fld prog 49 2 2:=Fld.mk' (ft:=3) rfl rfl
instance:Fld prog 49 3 3:=Fld.mk' (ft:=22) rfl rfl
instance:Fld prog 49 4 4:=Fld.mk' (ft:=22) rfl rfl
instance:Fld prog 49 5 5:=Fld.mk' (ft:=3) rfl rfl
instance:Fld prog 49 6 6:=Fld.mk' (ft:=4) rfl rfl
instance:Fld prog 49 7 7:=Fld.mk' (ft:=48) rfl rfl
instance:Fld prog 49 8 8:=Fld.mk' (ft:=3) rfl rfl
instance:Fld prog 49 9 9:=Fld.mk' (ft:=3) rfl rfl
instance:Fld prog 50 0 0:=Fld.mk' (ft:=3) rfl rfl
instance:Fld prog 50 1 1:=Fld.mk' (ft:=47) rfl rfl
instance:Fld prog 50 2 2:=Fld.mk' (ft:=3) rfl rfl
instance:Fld prog 50 3 3:=Fld.mk' (ft:=22) rfl rfl
instance:Fld prog 50 4 4:=Fld.mk' (ft:=22) rfl rfl
instance:Fld prog 50 5 5:=Fld.mk' (ft:=3) rfl rfl
instance:Fld prog 50 6 6:=Fld.mk' (ft:=4) rfl rfl
instance:Fld prog 50 7 7:=Fld.mk' (ft:=48) rfl rfl
instance:Fld prog 50 8 8:=Fld.mk' (ft:=3) rfl rfl
instance:Fld prog 50 9 9:=Fld.mk' (ft:=3) rfl rfl
instance:Fld prog 76 0 0:=Fld.mk' (ft:=9) rfl rfl
instance:Fld prog 76 1 1:=Fld.mk' (ft:=9) rfl rfl
instance:Fld prog 76 2 2:=Fld.mk' (ft:=24) rfl rfl
instance:Fld prog 77 0 0:=Fld.mk' (ft:=9) rfl rfl
instance:Fld prog 77 1 1:=Fld.mk' (ft:=9) rfl rfl
instance:Fld prog 77 2 2:=Fld.mk' (ft:=24) rfl rfl
instance:Fld prog 82 0 0:=Fld.mk' (ft:=22) rfl rfl
instance:Fld prog 82 1 1:=Fld.mk' (ft:=81) rfl rfl
instance:Fld prog 83 0 0:=Fld.mk' (ft:=22) rfl rfl
instance:Fld prog 83 1 1:=Fld.mk' (ft:=81) rfl rfl
instance:Fld prog 90 0 0:=Fld.mk' (ft:=9) rfl rfl
instance:Fld prog 90 1 1:=Fld.mk' (ft:=9) rfl rfl
instance:Fld prog 90 2 2:=Fld.mk' (ft:=3) rfl rfl
instance:Fld prog 90 3 3:=Fld.mk' (ft:=24) rfl rfl
instance:Fld prog 91 0 0:=Fld.mk' (ft:=9) rfl rfl
instance:Fld prog 91 1 1:=Fld.mk' (ft:=9) rfl rfl
instance:Fld prog 91 2 2:=Fld.mk' (ft:=3) rfl rfl
instance:Fld prog 91 3 3:=Fld.mk' (ft:=24) rfl rfl
instance:Fld prog 96 0 0:=Fld.mk' (ft:=9) rfl rfl
instance:Fld prog 96 1 1:=Fld.mk' (ft:=3) rfl rfl
instance:Fld prog 97 0 0:=Fld.mk' (ft:=9) rfl rfl
instance:Fld prog 97 1 1:=Fld.mk' (ft:=3) rfl rfl
instance:Fld prog 102 0 0:=Fld.mk' (ft:=100) rfl rfl
instance:Fld prog 102 1 1:=Fld.mk' (ft:=101) rfl rfl
instance:Fld prog 103 0 0:=Fld.mk' (ft:=100) rfl rfl
instance:Fld prog 103 1 1:=Fld.mk' (ft:=101) rfl rfl
instance:Fld prog 116 0 0:=Fld.mk' (ft:=50) rfl rfl
instance:Fld prog 117 0 0:=Fld.mk' (ft:=50) rfl rfl
instance:Fld prog 118 0 0:=Fld.mk' (ft:=117) rfl rfl
instance:Fld prog 119 0 0:=Fld.mk' (ft:=117) rfl rfl
instance:Fld prog 151 0 0:=Fld.mk' (ft:=55) rfl rfl
instance:Fld prog 151 1 1:=Fld.mk' (ft:=149) rfl rfl
instance:Fld prog 151 2 2:=Fld.mk' (ft:=150) rfl rfl
instance:Fld prog 152 0 0:=Fld.mk' (ft:=55) rfl rfl
instance:Fld prog 152 1 1:=Fld.mk' (ft:=149) rfl rfl
instance:Fld prog 152 2 2:=Fld.mk' (ft:=150) rfl rfl
instance:Fld prog 283 0 0:=Fld.mk' (ft:=47) rfl rfl
instance:Fld prog 283 1 1:=Fld.mk' (ft:=4) rfl rfl
instance:Fld prog 284 0 0:=Fld.mk' (ft:=47) rfl rfl
instance:Fld prog 284 1 1:=Fld.mk' (ft:=4) rfl rfl
instance:Fld prog 294 0 0:=Fld.mk' (ft:=47) rfl rfl
instance:Fld prog 295 0 0:=Fld.mk' (ft:=47) rfl rfl
instance:Fld prog 354 0 0:=Fld.mk' (ft:=12) rfl rfl
instance:Fld prog 354 1 1:=Fld.mk' (ft:=12) rfl rfl
instance:Fld prog 354 2 2:=Fld.mk' (ft:=195) rfl rfl
instance:Fld prog 354 3 3:=Fld.mk' (ft:=348) rfl rfl
instance:Fld prog 354 4 4:=Fld.mk' (ft:=5) rfl rfl
instance:Fld prog 354 5 5:=Fld.mk' (ft:=5) rfl rfl
instance:Fld prog 354 6 6:=Fld.mk' (ft:=349) rfl rfl
instance:Fld prog 354 7 7:=Fld.mk' (ft:=350) rfl rfl
instance:Fld prog 354 8 8:=Fld.mk' (ft:=351) rfl rfl
instance:Fld prog 354 9 9:=Fld.mk' (ft:=352) rfl rfl
instance:Fld prog 354 10 10:=Fld.mk' (ft:=353) rfl rfl
instance:Fld prog 355 0 0:=Fld.mk' (ft:=12) rfl rfl
instance:Fld prog 355 1 1:=Fld.mk' (ft:=12) rfl rfl
instance:Fld prog 355 2 2:=Fld.mk' (ft:=195) rfl rfl
instance:Fld prog 355 3 3:=Fld.mk' (ft:=348) rfl rfl
instance:Fld prog 355 4 4:=Fld.mk' (ft:=5) rfl rfl
instance:Fld prog 355 5 5:=Fld.mk' (ft:=5) rfl rfl
instance:Fld prog 355 6 6:=Fld.mk' (ft:=349) rfl rfl
instance:Fld prog 355 7 7:=Fld.mk' (ft:=350) rfl rfl
instance:Fld prog 355 8 8:=Fld.mk' (ft:=351) rfl rfl
instance:Fld prog 355 9 9:=Fld.mk' (ft:=352) rfl rfl
instance:Fld prog 355 10 10:=Fld.mk' (ft:=353) rfl rfl
instance:Plain prog 24:=⟨by kernel_rfl,by kernel_rfl⟩
instance:Plain prog 26:=⟨by kernel_rfl,by kernel_rfl⟩
instance:Plain prog 31:=⟨by kernel_rfl,by kernel_rfl⟩
instance:Plain prog 38:=⟨by kernel_rfl,by kernel_rfl⟩
instance:Plain prog 50:=⟨by kernel_rfl,by kernel_rfl⟩
instance:Plain prog 71:=⟨by kernel_rfl,by kernel_rfl⟩
instance:Plain prog 72:=⟨by kernel_rfl,by kernel_rfl⟩
instance:Plain prog 77:=⟨by kernel_rfl,by kernel_rfl⟩
instance:Plain prog 83:=⟨by kernel_rfl,by kernel_rfl⟩
instance:Plain prog 91:=⟨by kernel_rfl,by kernel_rfl⟩
instance:Plain prog 94:=⟨by kernel_rfl,by kernel_rfl⟩
instance:Plain prog 97:=⟨by kernel_rfl,by kernel_rfl⟩
instance:Plain prog 103:=⟨by kernel_rfl,by kernel_rfl⟩
instance:Plain prog 117:=⟨by kernel_rfl,by kernel_rfl⟩
instance:Plain prog 119:=⟨by kernel_rfl,by kernel_rfl⟩
instance:Plain prog 152:=⟨by kernel_rfl,by kernel_rfl⟩
instance:Plain prog 196:=⟨by kernel_rfl,by kernel_rfl⟩
instance:Plain prog 200:=⟨by kernel_rfl,by kernel_rfl⟩
instance:Plain prog 254:=⟨by kernel_rfl,by kernel_rfl⟩
instance:Plain prog 256:=⟨by kernel_rfl,by kernel_rfl⟩
instance:Plain prog 284:=⟨by kernel_rfl,by kernel_rfl⟩
instance:Plain prog 291:=⟨by kernel_rfl,by kernel_rfl⟩
instance:Plain prog 295:=⟨by kernel_rfl,by kernel_rfl⟩
instance:Plain prog 344:=⟨by kernel_rfl,by kernel_rfl⟩
instance:NotBlank "Align_" := ⟨by decide⟩
instance:NotBlank "B" := ⟨by decide⟩
instance:NotBlank "Bad" := ⟨by decide⟩
instance:NotBlank "C" := ⟨by decide⟩
instance:NotBlank "Disk" := ⟨by decide⟩
instance:NotBlank "Elem" := ⟨by decide⟩
instance:NotBlank "Equal" := ⟨by decide⟩
instance:NotBlank "Ev" := ⟨by decide⟩
instance:NotBlank "FieldAlign_" := ⟨by decide⟩
instance:NotBlank "GCData" := ⟨by decide⟩
instance:NotBlank "Gen" := ⟨by decide⟩
instance:NotBlank "Hash" := ⟨by decide⟩
instance:NotBlank "Key" := ⟨by decide⟩
instance:NotBlank "Kind" := ⟨by decide⟩
instance:NotBlank "Kind_" := ⟨by decide⟩
instance:NotBlank "L" := ⟨by decide⟩
instance:NotBlank "Miss" := ⟨by decide⟩
instance:NotBlank "N" := ⟨by decide⟩
instance:NotBlank "Next" := ⟨by decide⟩
instance:NotBlank "No" := ⟨by decide⟩
instance:NotBlank "Node" := ⟨by decide⟩
instance:NotBlank "Op" := ⟨by decide⟩
instance:NotBlank "P" := ⟨by decide⟩
instance:NotBlank "Parents" := ⟨by decide⟩
instance:NotBlank "Peers" := ⟨by decide⟩
instance:NotBlank "PtrBytes" := ⟨by decide⟩
instance:NotBlank "PtrToThis" := ⟨by decide⟩
instance:NotBlank "R" := ⟨by decide⟩
instance:NotBlank "Room" := ⟨by decide⟩
instance:NotBlank "Seq" := ⟨by decide⟩
instance:NotBlank "Size_" := ⟨by decide⟩
instance:NotBlank "Str" := ⟨by decide⟩
instance:NotBlank "TFlag" := ⟨by decide⟩
instance:NotBlank "Up" := ⟨by decide⟩
instance:NotBlank "Wait" := ⟨by decide⟩
instance:NotBlank "_interface" := ⟨by decide⟩
instance:NotBlank "addr" := ⟨by decide⟩
instance:NotBlank "asserted" := ⟨by decide⟩
instance:NotBlank "b" := ⟨by decide⟩
instance:NotBlank "code" := ⟨by decide⟩
instance:NotBlank "concrete" := ⟨by decide⟩
instance:NotBlank "disk" := ⟨by decide⟩
instance:NotBlank "done" := ⟨by decide⟩
instance:NotBlank "get" := ⟨by decide⟩
instance:NotBlank "knows" := ⟨by decide⟩
instance:NotBlank "l" := ⟨by decide⟩
instance:NotBlank "may" := ⟨by decide⟩
instance:NotBlank "missingMethod" := ⟨by decide⟩
instance:NotBlank "msg" := ⟨by decide⟩
instance:NotBlank "of" := ⟨by decide⟩
instance:NotBlank "put" := ⟨by decide⟩
instance:NotBlank "signed" := ⟨by decide⟩
instance:NotBlank "typ" := ⟨by decide⟩
instance:NotBlank "x" := ⟨by decide⟩
instance:NotBlank "y" := ⟨by decide⟩
instance:MKey prog 3 intV:=MKey.int (by kernel_rfl)
instance:MKey prog 72 idV:=MKey.id (e:=5) ⟨by kernel_rfl,by kernel_rfl,by kernel_rfl,by kernel_rfl⟩ (by kernel_rfl) ⟨356,by kernel_rfl⟩
instance:Body prog 3:=bO func3
instance:Body prog 4:=bO func4
instance:Body prog 5:=bO func5
instance:Body prog 6:=bO func6
instance:Body prog 7:=bO func7
instance:Body prog 8:=bO func8
instance:Body prog 9:=bO func9
instance:Body prog 10:=bO func10
instance:Body prog 11:=bO func11
instance:Body prog 12:=bO func12
instance:Body prog 13:=bO func13
instance:Body prog 14:=bO func14
instance:Body prog 15:=bO func15
instance:Body prog 16:=bO func16
instance:Body prog 17:=bO func17
instance:Body prog 18:=bO func18
instance:Body prog 19:=bO func19
instance:Body prog 20:=bO func20
instance:Body prog 21:=bO func21
instance:Body prog 22:=bO func22
instance:Body prog 23:=bO func23
instance:Body prog 24:=bO func24
instance:Body prog 25:=bO func25
instance:Body prog 26:=bO func26
instance:Body prog 27:=bO func27
instance:Body prog 28:=bO func28
instance:Body prog 29:=bO func29
instance:Body prog 30:=bO func30
instance:Body prog 31:=bO func31
instance:Body prog 32:=bO func32
instance:Body prog 33:=bO func33
instance:Body prog 34:=bO func34
instance:Body prog 35:=bO func35
instance:Body prog 36:=bO func36
instance:Body prog 37:=bO func37
instance:Body prog 38:=bO func38
instance:Body prog 39:=bO func39
instance:Body prog 40:=bO func40
instance:Body prog 41:=bO func41
instance:Body prog 42:=bO func42
instance:Body prog 43:=bO func43
instance:Body prog 44:=bO func44
instance:Body prog 45:=bO func45
instance:Body prog 46:=bO func46
instance:Body prog 47:=bO func47
instance:Body prog 48:=bO func48
instance:Body prog 49:=bO func49
instance:Body prog 50:=bO func50
instance:Body prog 51:=bO func51
instance:Body prog 52:=bO func52
instance:Body prog 53:=bO func53
instance:Body prog 54:=bO func54
instance:Body prog 55:=bO func55
instance:Body prog 56:=bO func56
instance:Body prog 57:=bO func57
instance:Body prog 58:=bO func58
instance:Body prog 59:=bO func59
instance:Body prog 60:=bO func60
instance:Body prog 61:=bO func61
instance:Body prog 62:=bO func62
instance:Body prog 63:=bO func63
instance:Body prog 64:=bO func64
instance:Body prog 65:=bO func65
instance:Body prog 66:=bO func66
instance:Body prog 67:=bO func67
instance:Body prog 68:=bO func68
instance:Body prog 69:=bO func69
instance:Body prog 70:=bO func70
instance:Body prog 71:=bO func71
instance:Body prog 72:=bO func72
instance:Body prog 73:=bO func73
instance:Body prog 74:=bO func74
instance:Body prog 75:=bO func75
instance:Body prog 76:=bO func76
instance:Body prog 77:=bO func77
instance:Body prog 78:=bO func78
instance:Body prog 79:=bO func79
instance:Body prog 80:=bO func80
instance:Body prog 81:=bO func81
instance:Body prog 82:=bO func82
instance:Body prog 83:=bO func83
instance:Body prog 84:=bO func84
instance:Body prog 85:=bO func85
instance:Body prog 86:=bO func86
instance:Body prog 87:=bO func87
instance:Body prog 88:=bO func88
instance:Body prog 89:=bO func89
instance:Body prog 90:=bO func90
instance:Body prog 91:=bO func91
instance:Body prog 92:=bO func92
instance:Body prog 93:=bO func93
instance:Body prog 94:=bO func94
instance:Body prog 95:=bO func95
instance:Body prog 96:=bO func96
instance:Body prog 97:=bO func97
instance:Body prog 98:=bO func98
instance:Body prog 99:=bO func99
instance:Body prog 100:=bO func100
instance:Body prog 101:=bO func101
instance:Body prog 102:=bO func102
instance:Body prog 103:=bO func103
instance:Body prog 104:=bO func104
instance:Body prog 105:=bO func105
instance:Body prog 106:=bO func106
instance:Body prog 107:=bO func107
instance:Body prog 108:=bO func108
instance:Body prog 109:=bO func109
instance:Body prog 110:=bO func110
instance:Body prog 111:=bO func111
instance:Body prog 112:=bO func112
instance:Body prog 113:=bO func113
instance:Body prog 114:=bO func114
instance:Body prog 115:=bO func115
instance:Body prog 116:=bO func116
instance:Body prog 117:=bO func117
instance:Body prog 118:=bO func118
instance:Body prog 119:=bO func119
instance:Body prog 120:=bO func120
instance:Body prog 121:=bO func121
instance:Body prog 122:=bO func122
instance:Body prog 123:=bO func123
instance:Body prog 125:=bO func125
instance:Body prog 126:=bO func126
instance:Body prog 127:=bO func127
instance:Body prog 128:=bO func128
instance:Body prog 129:=bO func129
instance:Body prog 130:=bO func130
instance:Body prog 131:=bO func131
instance:Body prog 132:=bO func132
instance:Body prog 133:=bO func133
instance:Body prog 134:=bO func134
instance:Body prog 135:=bO func135
instance:Body prog 136:=bO func136
instance:Body prog 137:=bO func137
instance:Body prog 138:=bO func138
instance:Body prog 139:=bO func139
instance:Body prog 140:=bO func140
instance:Body prog 141:=bO func141
instance:Body prog 142:=bO func142
instance:Body prog 143:=bO func143
instance:Body prog 144:=bO func144
instance:Body prog 145:=bO func145
instance:Body prog 146:=bO func146
instance:Body prog 147:=bO func147
instance:Body prog 148:=bO func148
instance:Body prog 149:=bO func149
instance:Body prog 150:=bO func150
instance:Body prog 151:=bO func151
instance:Body prog 152:=bO func152
instance:Body prog 153:=bO func153
instance:Body prog 154:=bO func154
instance:Body prog 155:=bO func155
instance:Body prog 156:=bO func156
instance:Body prog 157:=bO func157
instance:Body prog 158:=bO func158
instance:Body prog 159:=bO func159
instance:Body prog 160:=bO func160
instance:Body prog 161:=bO func161
instance:Body prog 162:=bO func162
instance:Body prog 163:=bO func163
instance:Body prog 164:=bO func164
instance:Body prog 165:=bO func165
instance:Body prog 166:=bO func166
instance:Body prog 167:=bO func167
instance:Body prog 168:=bO func168
instance:Body prog 169:=bO func169
instance:Body prog 170:=bO func170
instance:Body prog 171:=bO func171
instance:Body prog 172:=bO func172
instance:Body prog 173:=bO func173
instance:Body prog 174:=bO func174
instance:Body prog 175:=bO func175
instance:Body prog 176:=bO func176
instance:Body prog 177:=bO func177
instance:Body prog 178:=bO func178
instance:Body prog 179:=bO func179
instance:Body prog 180:=bO func180
instance:Body prog 181:=bO func181
instance:Body prog 182:=bO func182
instance:Body prog 183:=bO func183
instance:Body prog 184:=bO func184
instance:Body prog 185:=bO func185
instance:Body prog 186:=bO func186
instance:Body prog 187:=bO func187
instance:Body prog 188:=bO func188
instance:Body prog 189:=bO func189
instance:Body prog 190:=bO func190
instance:Body prog 191:=bO func191
instance:Body prog 192:=bO func192
instance:Body prog 193:=bO func193
instance:Body prog 194:=bO func194
instance:Body prog 195:=bO func195
instance:Body prog 196:=bO func196
instance:Body prog 197:=bO func197
instance:Body prog 198:=bO func198
instance:Body prog 199:=bO func199
instance:Body prog 200:=bO func200
instance:Body prog 201:=bO func201
instance:Body prog 202:=bO func202
instance:Body prog 203:=bO func203
instance:Body prog 204:=bO func204
instance:Body prog 205:=bO func205
instance:Body prog 206:=bO func206
instance:Body prog 207:=bO func207
instance:Body prog 208:=bO func208
instance:Body prog 209:=bO func209
instance:Body prog 210:=bO func210
instance:Body prog 211:=bO func211
instance:Body prog 212:=bO func212
instance:Body prog 213:=bO func213
instance:Body prog 214:=bO func214
instance:Body prog 215:=bO func215
instance:Body prog 216:=bO func216
instance:Body prog 217:=bO func217
instance:Body prog 218:=bO func218
instance:Body prog 219:=bO func219
instance:Body prog 220:=bO func220
instance:Body prog 221:=bO func221
instance:Body prog 222:=bO func222
instance:Body prog 223:=bO func223
instance:Body prog 224:=bO func224
instance:Body prog 225:=bO func225
instance:Body prog 226:=bO func226
instance:Body prog 227:=bO func227
instance:Body prog 228:=bO func228
instance:Body prog 229:=bO func229
instance:Body prog 230:=bO func230
instance:Body prog 231:=bO func231
instance:Body prog 232:=bO func232
instance:Body prog 233:=bO func233
instance:Body prog 234:=bO func234
instance:Body prog 235:=bO func235
instance:Body prog 236:=bO func236
instance:Body prog 237:=bO func237
instance:Body prog 238:=bO func238
instance:Body prog 239:=bO func239
instance:Body prog 240:=bO func240
instance:Body prog 241:=bO func241
instance:Body prog 242:=bO func242
instance:Body prog 243:=bO func243
instance:Body prog 244:=bO func244
instance:Body prog 245:=bO func245
instance:Body prog 246:=bO func246
instance:Body prog 247:=bO func247
instance:Body prog 248:=bO func248
instance:Body prog 249:=bO func249
instance:Body prog 250:=bO func250
instance:Body prog 251:=bO func251
instance:Body prog 252:=bO func252
instance:Body prog 253:=bO func253
instance:Body prog 254:=bO func254
instance:Body prog 255:=bO func255
instance:Body prog 256:=bO func256
instance:Body prog 257:=bO func257
instance:Body prog 258:=bO func258
instance:Body prog 259:=bO func259
instance:Body prog 260:=bO func260
instance:Body prog 261:=bO func261
instance:Body prog 262:=bO func262
instance:Body prog 263:=bO func263
instance:Body prog 264:=bO func264
instance:Body prog 265:=bO func265
instance:Body prog 266:=bO func266
instance:Body prog 267:=bO func267
instance:Body prog 268:=bO func268
instance:Body prog 269:=bO func269
instance:Body prog 270:=bO func270
instance:Body prog 271:=bO func271
instance:Body prog 272:=bO func272
instance:Body prog 273:=bO func273
instance:Body prog 274:=bO func274
instance:Body prog 275:=bO func275
instance:Body prog 276:=bO func276
instance:Body prog 277:=bO func277
instance:Body prog 278:=bO func278
instance:Body prog 280:=bO func280
instance:Body prog 281:=bO func281
instance:Body prog 282:=bO func282
instance:Body prog 283:=bO func283
instance:Body prog 284:=bO func284
instance:Body prog 285:=bO func285
instance:Body prog 287:=bO func287
instance:Body prog 288:=bO func288
instance:Body prog 289:=bO func289
instance:Body prog 291:=bO func291
instance:Body prog 292:=bO func292
instance:Body prog 293:=bO func293
instance:Body prog 294:=bO func294
instance:Body prog 295:=bO func295
instance:Body prog 296:=bO func296
instance:Body prog 297:=bO func297
instance:Body prog 298:=bO func298
instance:Body prog 299:=bO func299
instance:Body prog 300:=bO func300
instance:Body prog 301:=bO func301
instance:Body prog 302:=bO func302
instance:Body prog 303:=bO func303
instance:Body prog 304:=bO func304
instance:Body prog 305:=bO func305
instance:Body prog 306:=bO func306
instance:Body prog 307:=bO func307
instance:Body prog 308:=bO func308
instance:Body prog 309:=bO func309
instance:Body prog 310:=bO func310
instance:Body prog 311:=bO func311
instance:Body prog 312:=bO func312
instance:Body prog 313:=bO func313
instance:Body prog 314:=bO func314
instance:Body prog 315:=bO func315
instance:Body prog 316:=bO func316
instance:Body prog 317:=bO func317
instance:Body prog 318:=bO func318
instance:Body prog 319:=bO func319
instance:Body prog 320:=bO func320
instance:Body prog 321:=bO func321
instance:Body prog 322:=bO func322
instance:Body prog 323:=bO func323
instance:Body prog 324:=bO func324
instance:Body prog 325:=bO func325
instance:Body prog 326:=bO func326
instance:Body prog 327:=bO func327
instance:Body prog 328:=bO func328
instance:Body prog 329:=bO func329
instance:Body prog 330:=bO func330
instance:Body prog 331:=bO func331
instance:Body prog 332:=bO func332
instance:Body prog 333:=bO func333
instance drOff:Dr:=⟨False⟩
theorem mixed:prog.follows .mixedOrders=true:=Checked.mixed Tryz.checked
def Xm1 (a b:ID):Int:=Lib.compareBytes a.1 b.1
def idLt (a b:ID):Bool:=decide (Xm1 a b < 0)
theorem Xkb (a b:List UInt8):Lib.compareBytes a b < 0↔a < b:=by
 induction a generalizing b with
 | nil=>cases b <;> simp [Lib.compareBytes]
 | cons x a ih =>
  cases b with
  | nil=>simp [Lib.compareBytes]
  | cons y b =>
   rw [List.cons_lt_cons_iff]
   unfold Lib.compareBytes
   by_cases h1:x < y
   ·simp [h1]
   ·by_cases h2:y < x
    ·have:¬ x=y:=fun e=>by subst e; exact h1 h2
     simp [h1,h2,this]
    ·have:x=y:=UInt8.le_antisymm (UInt8.not_lt.1 h2) (UInt8.not_lt.1 h1)
     subst this
     simp [ih]
theorem Xjc (a b:ID):idLt a b=true↔a.1 < b.1:=by simp [idLt,Xm1,Xkb]
theorem Xkc (a:ID):idLt a a=false:=by
 rw [← Bool.not_eq_true,Xjc]; exact List.lt_irrefl _
theorem Xl6 {a b c:ID} (h1:idLt a b=true) (h2:idLt b c=true):idLt a c=true:=by
 rw [Xjc] at *; exact List.lt_trans h1 h2
theorem Xhy {a b:ID} (h1:idLt a b=false) (h2:idLt b a=false):a=b:=by
 rw [← Bool.not_eq_true,Xjc] at *
 exact Subtype.ext (List.le_antisymm (List.not_lt.1 h2) (List.not_lt.1 h1))
theorem Xss {a b:ID} (h:idLt a b=true):idLt b a=false:=by
 cases hb:idLt b a with
 | false=>rfl
 | true=>have:=Xl6 h hb; rw [Xkc] at this; cases this
theorem Xhz {a b c:ID} (h1:idLt b a=false) (h2:idLt c b=false):idLt c a=false:=by
 rw [← Bool.not_eq_true,Xjc] at *
 exact List.not_lt.2 (List.le_trans (List.not_lt.1 h1) (List.not_lt.1 h2))
def Xcq (L:List ID):List ID:=L.mergeSort (fun x y=>!idLt y x)
theorem Xfp (L:List ID):(Xcq L).length=L.length:=by simp [Xcq]
theorem Xb7 (L:List ID):(Xcq L).Pairwise (fun x y=>idLt y x=false):=by
 have:=List.pairwise_mergeSort (le:=fun x y=>!idLt y x) (fun a b c h1 h2=>by simp at *; exact Xhz h1 h2) (fun a b=>by
  cases h:idLt b a with
  | false=>simp
  | true=>simp [Xss h]) L
 simpa [Xcq] using this
theorem Xcr (L:List ID):(Xcq L).Perm L:=List.mergeSort_perm _ _
theorem Xe8 {L M:List ID} (h:L.Perm M) (h1:L.Pairwise (fun x y=>idLt y x=false)) (h2:M.Pairwise (fun x y=>idLt y x=false)):L=M :=
 List.Perm.eq_of_pairwise (le:=fun x y=>idLt y x=false) (fun a b _ _ h1 h2=>Xhy h2 h1) h1 h2 h
theorem Xst {L M:List ID} (h:L.Perm M):Xcq L=Xcq M :=
 Xe8 (((Xcr L).trans h).trans (Xcr M).symm) (Xb7 L) (Xb7 M)
theorem Xfq {L:List ID} {x:ID}:x∈Xcq L↔x∈L:=(Xcr L).mem_iff
def Xge:List ID→Bool
 | a::b::l=>idLt a b && Xge (b::l)
 | _=>true
def Xu1:List UInt8:=[97,98,99,100,101,102,103,104,105,106,107,108,109,110,111,112,113,114,115,116,117,118,119,120,121,122,48,49,50,51,52,53,54,55,56,57]
def Xc4 (s:ByteArray):Bool:=s.data.toList.all (fun c=>decide (c∈Xu1)) && decide (s.size≠0) && decide (s.size≤8)
def inB (n lo hi:Int):Bool:=decide (lo≤n) && decide (n≤hi)
def op0:Op_:=⟨0, .empty, .empty,0⟩
def Xes (o:Op_):Bool :=
 if o.kind=0 then Xc4 o.key && (decide (o.n≠0) && decide (-1048576≤o.n) && decide (o.n≤1048576) && decide (o.elem = .empty))
 else if o.kind=1∨o.kind=2∨o.kind=3 then Xc4 o.key && (decide (o.n=0) && Xc4 o.elem)
 else false
def may (c:Commit):Bool :=
 if !inB c.gen 1 1048576 || decide (8 < c.parents.length) || !Xge c.parents || (decide (c.gen=1) != decide (c.parents.length=0)) then false
 else if c.ev.node = -1 then decide (2≤c.parents.length) && decide (c.ev.seq=0) && decide (c.op=op0)
 else inB c.ev.node 0 7 && inB c.ev.seq 1 1048576 && Xes c.op
def merge (c:Commit):Bool:=decide (c.ev.node = -1) && may c
section
attribute [local irreducible] JC JO JR JQ andThen inBlock OpV Gives Xae JM JS
theorem Xd8 {α:Type} [Cell α] {c:Nat} {L:List α} {F:Nat→Prop} {w:World} (h:(sl none c L).holds F w):L=[]:=by
 by_cases hL:L=[]
 ·exact hL
 ·obtain ⟨b,off,h1,_⟩:=h.2.2.2 hL; cases h1
theorem Xm2 (a:Option Addr) (c:Nat) (L:List ID) (h:(sl a c L).holds F w) (hl:L.length≤34359738368) :
  GivesBuf prog 125 [.slice a L.length c] w F 72 L:=by
 refine Xaa func125 rfl ntmps125 rfl rfl [.st (sl a c L)] (.start1 h) ?_
 refine wA ?_
 refine JC.test (fun ha=>?_) (fun ha=>?_)
 ·cases a with
  | some a=>cases ha
  | none =>
   obtain rfl:=Xd8 h
   refine wz9 ?_
   exact CT.done (none,0) rfl (fun w ho=>ho.bufNil)
 ·refine wz14 ?_
  refine Xjw (α:=ID) rfl ?_
  intro a2
  refine wz6 ?_
  refine Xbq rfl (by exact ⟨rfl,rfl,by decide⟩) (by simpa using hl) ?_
  intro a3 c3
  rw [List.nil_append]
  refine wz10 ?_
  exact Xab (a3,c3) rfl
def idxV:Option Nat→Int
 | some i=>(i:Int)
 | none=>-1
theorem Xij {α:Type} (p:α→Bool) (L:List α) (k:Nat) (hk:k < L.length) (h:(L.take k).findIdx? p=none) :
  (p L[k]=true→L.findIdx? p=some k)∧(p L[k]=false→(L.take (k+1)).findIdx? p=none):=by
 have h1:L=L.take k++L[k]::L.drop (k+1):=by
  conv=>lhs; rw [← List.take_append_drop k L]
  rw [List.drop_eq_getElem_cons hk]
 constructor
 ·intro hp
  have h2:L.findIdx? p=(L.take k++L[k]::L.drop (k+1)).findIdx? p:=by rw [← h1]
  rw [h2,List.findIdx?_append,h]
  rw [List.findIdx?_cons,if_pos hp]
  simp [Nat.min_eq_left (Nat.le_of_lt hk)]
 ·intro hp
  rw [List.take_succ_eq_append_getElem hk,List.findIdx?_append,h]
  simp [List.findIdx?_cons,hp]
theorem Xu2 (a:Option Addr) (c:Nat) (L:List ID) (x:ID) (h:(sl a c L).holds F w) :
  GivesV prog 218 [.slice a L.length c, .agg ⟨idc x⟩] w F (.int .i64 (idxV (L.findIdx? (fun y=>decide (x=y))))):=by
 have hL:L.length < 9223372036854775807:=by have:=h.2.2.1; simp only [lim] at this; omega
 refine Xaa func218 rfl ntmps218 rfl rfl [.st (sl a c L)] (.start1 h) ?_
 (repeat (refine wE ?_; intro _)); refine wA ?_
 rename_i bx
 refine Xaj (fun k:Nat=>[(0, .slice a L.length c),(3, .pointer (some ⟨bx,0,none⟩)),(7, .int .i64 (L.length:Int)),(8, .int .i64 (k:Int))]) (fun _=>[.own bx 72 (idc x), .st (sl a c L)])
  (fun k=>k≤L.length∧(L.take k).findIdx? (fun y=>decide (x=y))=none) (fun k=>L.length - k) 0 ⟨Nat.zero_le _,by simp⟩ iI ?_
 intro k ⟨hk,hno⟩
 refine wz11 ?_
 refine JC.test (fun hlt=>?_) (fun hge=>?_)
 ·have hlt':k < L.length:=by omega
  have hft:=Xij _ L k hlt' hno
  refine wz7 ?_
  refine Xg1 (.slice a L.length c) k hlt' ?_
  intro b o
  refine Xbe mixed (by kernel_rfl) ?_
  refine wQ ?_
  refine wz13 ?_
  refine JC.test (fun hy=>?_) (fun hn=>?_)
  ·refine wz5 ?_
   refine Xab () ?_
   rw [hft.1 (by simpa using hy)]; rfl
  ·refine wz2 ?_
   exact ⟨k+1,⟨by omega,hft.2 (by simpa using hn)⟩,by omega,iI⟩
 ·have hk0:k=L.length:=by omega
  refine wz3 ?_
  refine Xab () ?_
  rw [List.take_of_length_le (by omega)] at hno
  rw [hno]; rfl
theorem Xol (a:Option Addr) (c:Nat) (L:List ID) (x:ID) (h:(sl a c L).holds F w) :
  GivesV prog 144 [.slice a L.length c, .agg ⟨idc x⟩] w F (.bool (decide (x∈L))):=by
 refine Xaa func144 rfl ntmps144 rfl rfl [.st (sl a c L)] (.start1 h) ?_
 (repeat (refine wE ?_; intro _)); refine wA ?_
 refine JR.callV rfl (fun w1 hw=>Xu2 w1 _ a c L x hw.get) ?_
 refine wz10 ?_
 refine Xab () ?_
 simp only [Xaf]
 congr 1
 cases hf:L.findIdx? (fun y=>decide (x=y)) with
 | none =>
  have:¬ x∈L:=fun hx=>by
   have:=List.findIdx?_eq_none_iff.1 hf x hx
   simp at this
  simp [idxV,this]
 | some i =>
  have:x∈L:=by
   obtain ⟨hi,h1,_⟩:=List.findIdx?_eq_some_iff_getElem.1 hf
   rw [of_decide_eq_true h1]; exact List.getElem_mem hi
  simp [idxV,this]
theorem X0p (a:Option Addr) (c:Nat) (L:List ID) (x:ID) (h:(sl a c L).holds F w) :
  GivesV prog 84 [.slice a L.length c, .agg ⟨idc x⟩] w F (.bool (decide (x∈L))):=by
 refine Xaa func84 rfl ntmps84 rfl rfl [.st (sl a c L)] (.start1 h) ?_
 (repeat (refine wE ?_; intro _)); refine wA ?_
 refine JR.callV rfl (fun w1 hw=>Xol w1 _ a c L x hw.get) ?_
 refine wz10 ?_
 exact Xab () rfl
theorem Xel (w:World) {a b:Option Addr} {c k:Nat} {L M:List UInt8} {F G:Nat→Prop} (h:(sl a c L).holds F w) (h':(sl b k M).holds G w) :
  (callFunc 124 ⟨[.slice a L.length c, .slice b M.length k]⟩).run prog w = .ok (.value (.int .i64 (Lib.compareBytes L M))) w:=by
 rw [run_callFunc_extern func124 (by kernel_rfl) (by kernel_rfl) (by kernel_rfl) (e:=Extern.BytealgCompare.compare) (by kernel_rfl)]
 have:(Extern.BytealgCompare.compare ⟨[.slice a L.length c, .slice b M.length k]⟩).run prog w = .ok (.int .i64 (Lib.compareBytes L M)) w:=by
  change Sem.run prog (do pure (goInt (Extern.BytealgCompare.cmp (← Extern.Bytes.bytesOf (.slice a L.length c)) (← Extern.Bytes.bytesOf (.slice b M.length k))))) w=_
  simp only [Sem.run_bind,Xjy h,Xjy h',Result.andThen_ok,Sem.run_pure,Lib.cmp_eq,goInt]
 rw [this]; rfl
theorem Xm3 [Dr] (a b:Option Addr) (c k:Nat) (L M:List UInt8) (h:(sl a c L).holds F w) (h':(sl b k M).holds F w) :
  GivesV prog 64 [.slice a L.length c, .slice b M.length k] w F (.int .i64 (Lib.compareBytes L M)):=by
 refine Xaa func64 rfl ntmps64 rfl rfl [.st (sl a c L), .st (sl b k M)] (.start2 h h') ?_
 refine wz10 ?_
 refine Wf (Xht fun w1 hw=>Xel w1 hw.get hw.get) rfl ?_
 refine wz10 ?_
 exact Xab () rfl
theorem Xu3 [Dr] (a b:ID):GivesV prog 148 [.agg ⟨idc a⟩, .agg ⟨idc b⟩] w F (.int .i64 (Xm1 a b)):=by
 refine Xaa func148 rfl ntmps148 rfl rfl [] (.start w F) ?_
 (repeat (refine wE ?_; intro _)); refine wA ?_
 rename_i bx by_
 refine Xbe mixed (by kernel_rfl) ?_
 refine Wy rfl (Xcv (by decide)) rfl ?_
 refine Wy rfl (Xcv (by decide)) rfl ?_
 refine JQ.call (v:=.int .i64 (Xm1 a b)) rfl rfl (fun w1 hw=>?_) ?_
 ·have:=(Xm3 w1 (fun _=>True) (some ⟨bx,0,none⟩) (some ⟨by_,0,none⟩) 32 32 a.1 b.1
   (At.sl_bytes (Γ:=[.own by_ _ (idc b), .own bx _ (idc a)]) iI rfl hw a.2 (by decide)) (At.sl_bytes (Γ:=[.own by_ _ (idc b), .own bx _ (idc a)]) iI rfl hw b.2 (by decide))).any (G:=fp w F [.own by_ 72 (idc b), .own bx 72 (idc a)])
  rw [a.2,b.2] at this
  exact this
 refine wQ ?_
 refine wz13 ?_
 exact Xab () rfl
theorem Xx9 (a b:ID):GivesV prog 158 [.agg ⟨idc a⟩, .agg ⟨idc b⟩] w F (.bool (idLt a b)):=by
 refine Xaa func158 rfl ntmps158 rfl rfl [] (.start w F) ?_
 (repeat (refine wE ?_; intro _)); refine wA ?_
 refine JR.callV rfl (fun w1 hw=>Xu3 w1 _ a b) ?_
 refine wA ?_
 exact Xab () rfl
theorem Xsu (L:List ID) (k:Nat) (h1:1≤k) (hk:k < L.length) (h:Xge (L.take k)=true):Xge (L.take (k+1))=idLt L[k - 1] L[k]∧(idLt L[k - 1] L[k]=false→Xge L=false):=by
 induction L generalizing k with
 | nil=>simp at hk
 | cons a L ih =>
  cases L with
  | nil=>simp at hk; omega
  | cons b L =>
   match k,h1 with
   | 1,_ =>
    refine ⟨by simp [Xge],fun h=>?_⟩
    simp at h
    simp [Xge,h]
   | k+2,_ =>
    have h':idLt a b=true∧Xge ((b::L).take (k+1))=true:=by
     simpa [Xge] using h
    obtain ⟨i1,i2⟩:=ih (k+1) (by omega) (by simpa using hk) h'.2
    refine ⟨?_,fun hf=>?_⟩
    ·simp only [List.take_succ_cons,Xge,h'.1,Bool.true_and] at i1 ⊢
     simpa using i1
    ·have:=i2 (by simpa using hf)
     simp [Xge,h'.1,this]
theorem Xkd (L:List ID) (h:L.length≤1):Xge L=true:=by
 match L with
 | []=>rfl
 | [_]=>rfl
 | _::_::_=>simp at h
theorem Xu4 (a:Option Addr) (c:Nat) (L:List ID) (h:(sl a c L).holds F w) :
  GivesV prog 98 [.slice a L.length c] w F (.bool (Xge L)):=by
 have hL:L.length < 9223372036854775807:=by have:=h.2.2.1; simp only [lim] at this; omega
 refine Xaa func98 rfl ntmps98 rfl rfl [.st (sl a c L)] (.start1 h) ?_
 refine wz4 ?_
 refine JC.reslot 3 (.int .i64 ((1:Nat):Int)) rfl ?_
 refine Xaj (fun k:Nat=>[(0, .slice a L.length c),(3, .int .i64 (k:Int))]) (fun _=>[.st (sl a c L)])
  (fun k=>1≤k∧(k≤L.length∨k=1)∧Xge (L.take k)=true) (fun k=>L.length+1 - k) 1 ⟨Nat.le_refl _, .inr rfl,Xkd _ (by simp; omega)⟩ iI ?_
 intro k ⟨h1,hk,hr⟩
 refine wz11 ?_
 refine JC.test (fun hlt=>?_) (fun hge=>?_)
 ·have hlt':k < L.length:=by omega
  have hr':=Xsu L k h1 hlt' hr
  refine wz14 ?_
  refine Xg1 (.slice a L.length c) (k - 1) (by omega) ?_
  intro b1 o1
  refine Xg1 (.slice a L.length c) k hlt' ?_
  intro b2 o2
  refine Xbe mixed (by kernel_rfl) ?_
  refine wQ ?_
  refine JQ.call rfl rfl (fun w1 hw=>Xx9 w1 _ _ _) ?_
  refine wQ ?_
  refine wz13 ?_
  refine JC.test (fun hne=>?_) (fun heq2=>?_)
  ·refine wz5 ?_
   refine Xab () ?_
   simp [Xaf,hr'.2 (by simpa using hne)]
  ·refine wz2 ?_
   exact ⟨k+1,⟨by omega, .inl (by omega),by rw [hr'.1]; simpa using heq2⟩,by omega,iI⟩
 ·refine wz3 ?_
  refine Xab () ?_
  have:Xge L=true:=by
   rcases hk with hk | hk
   ·rwa [List.take_of_length_le (by omega)] at hr
   ·exact Xkd L (by omega)
  simp [Xaf,this]
theorem Xeh (w:World) (s:ByteArray) (c:UInt8) :
  (callFunc 286 ⟨[.string s, .int .u8 (c.toNat:Int)]⟩).run prog w = .ok (.value (.int .i64 (Lib.indexByte s.data.toList c))) w:=by
 rw [run_callFunc_extern func286 (by kernel_rfl) (by kernel_rfl) (by kernel_rfl) (e:=Extern.BytealgIndexByte.indexByte) (by kernel_rfl),Lib.run_indexByteString]
 simp
theorem Xm4 (s:ByteArray) (c:UInt8):GivesV prog 235 [.string s, .int .u8 (c.toNat:Int)] w F (.int .i64 (Lib.indexByte s.data.toList c)):=by
 refine Xaa func235 rfl ntmps235 rfl rfl [] (.start w F) ?_
 refine wz10 ?_
 refine Wf (Xht fun w1 hw=>Xeh w1 s c) rfl ?_
 refine wz10 ?_
 exact Xab () rfl
theorem Xh0 (s:ByteArray) (c:UInt8):GivesV prog 174 [.string s, .int .u8 (c.toNat:Int)] w F (.int .i64 (Lib.indexByte s.data.toList c)):=by
 refine Xaa func174 rfl ntmps174 rfl rfl [] (.start w F) ?_
 refine wz10 ?_
 refine JR.callV rfl (fun w1 hw=>Xm4 w1 _ s c) ?_
 refine wz10 ?_
 exact Xab () rfl
theorem Xg7 (l:List UInt8) (c:UInt8):Lib.indexByte l c < 0↔c∉l:=by
 induction l with
 | nil=>simp [Lib.indexByte]
 | cons b l ih =>
  have:=Lib.indexByte_ge l c
  unfold Lib.indexByte
  by_cases hb:b=c
  ·simp [hb]
  ·have hb':¬ c=b:=fun h=>hb h.symm
   simp only [beq_iff_eq,hb,if_false,List.mem_cons,hb',false_or]
   split
   ·rename_i h; rw [← ih]; simp [h]
   ·rename_i h; rw [← ih]; omega
theorem Xdo (s:ByteArray) (hs:s.size < 4611686018427387904):GivesV prog 106 [.string s] w F (.bool (Xc4 s)):=by
 refine Xaa func106 rfl ntmps106 rfl rfl [] (.start w F) ?_
 refine wA ?_
 refine Xaj (fun k:Nat=>[(0, .string s),(5, .int .i64 (s.size:Int)),(6, .int .i64 (k:Int))]) (fun _=>[])
  (fun k=>k≤s.size∧(s.data.toList.take k).all (fun c=>decide (c∈Xu1))=true) (fun k=>s.size - k) 0 ⟨Nat.zero_le _,by simp⟩ iI ?_
 intro k ⟨hk,hin⟩
 have hlen:s.data.toList.length=s.size:=rfl
 refine wz11 ?_
 refine JC.test (fun hlt=>?_) (fun hge=>?_)
 ·have hlt':k < s.size:=by omega
  have hget:s.data.toList[k]'(by omega)=s[k]:=rfl
  refine wz7 ?_
  refine Wf (OpV.indexStr hlt') rfl ?_
  refine wz13 ?_
  refine JR.callV rfl (fun w1 hw=>Xh0 w1 _ _ _) ?_
  refine wz11 ?_
  refine JC.test (fun hneg=>?_) (fun hpos=>?_)
  ·refine wz5 ?_
   refine Xab () ?_
   have h1:=(Xg7 _ _).1 hneg
   have h2:s.data.toList.all (fun c=>decide (c∈Xu1))=false:=by
    rw [List.all_eq_false]
    exact ⟨s[k],by rw [← hget]; exact List.getElem_mem _,fun h=>h1 (of_decide_eq_true h)⟩
   simp [Xaf,Xc4,h2]
  ·have h1:s[k]∈Xu1:=Classical.not_not.1 (mt (Xg7 _ _).2 hpos)
   refine wz2 ?_
   refine ⟨k+1,⟨by omega,?_⟩,by omega,iI⟩
   rw [List.take_succ_eq_append_getElem (by omega),List.all_append,hin,hget]
   simp [h1]
 ·have hall:s.data.toList.all (fun c=>decide (c∈Xu1))=true:=by
   rwa [List.take_of_length_le (by omega)] at hin
  refine wA ?_
  refine JO.test 17 (fun h=>?_) (fun h=>?_)
  ·refine wA ?_
   refine Xab () ?_
   have:s.size≠0:=fun h0=>h (by apply ByteArray.ext; apply Array.eq_empty_of_size_eq_zero; exact h0)
   simp only [Xaf,Xc4,hall,Bool.true_and,this,decide_true,ne_eq,not_false_eq_true]
   simp
   omega
  ·refine wz8 ?_
   refine Xab () ?_
   have:s.size=0:=by
    have h:s=ByteArray.mk #[]:=by simpa using h
    rw [h]; rfl
   simp [Xaf,Xc4,this]
theorem Xke (n lo hi:Int):GivesV prog 97 [.int .i64 n, .int .i64 lo, .int .i64 hi] w F (.bool (inB n lo hi)):=by
 refine Xaa func97 rfl ntmps97 rfl rfl [] (.start w F) ?_
 refine wz10 ?_
 refine JO.test 10 (fun h=>?_) (fun h=>?_)
 ·refine wA ?_
  exact Xab () (by simp [Xaf,inB,h])
 ·refine wz8 ?_
  exact Xab () (by simp [Xaf,inB,h])
end
section
variable {P:Program} {n:Nn} {w0:World} {F:Nat→Prop} {i d:Nat} {t:TypeId} {pos:String} {aft:Array Edge} {g:Option (Nat × Bool)} {Q:Cont} {e:E} {Γ:List Fact} [Dr]
def Xu5 (ops:List Oper) (e:E):Option (Nat × Bool)→Bool
 | none=>false
 | some (j,_) =>
  match ops[j]? with
  | some o=>match o.dst with
   | some d=>match look e d with
    | some (.tuple _)=>true
    | _=>false
   | none=>false
  | none=>false
end
section
variable {P:Program} {n:Nn} {w0:World} {F:Nat→Prop} {i d:Nat} {t:TypeId} {pos:String} {aft:Array Edge} {g:Option (Nat × Bool)} {Q:Cont} {e:E} {Γ:List Fact}
theorem Xm5 {ops:List Oper} {e:E} {o:Oper} {a:Act} (h:Xu5 ops e o.guard=true) (fr:Fr n e a):Region.wanted o (yielded ⟨ops⟩ a.tmps)=false:=by
 unfold Xu5 at h
 unfold Region.wanted
 split at h
 ·cases h
 ·rename_i j want hg
  rw [hg]
  split at h
  ·rename_i o' ho'
   split at h
   ·rename_i d hd
    split at h
    ·rename_i b hb
     have:=fr.slot _ _ hb
     simp only [yielded]
     have e1:((⟨ops⟩:Array Oper)[j]?)=some o':=by simpa using ho'
     rw [e1]
     simp [hd,this]
    ·cases h
   ·cases h
  ·cases h
theorem Wx [Dr] {ops:List Oper} {op:Op} {os:List Oper} (hg:Xu5 ops e g=true) (hd:Nat.blt d n.s=true)
  (h:JO P n w0 F ⟨ops⟩ (i+1) os Q ((d,undef)::e) Γ):JO P n w0 F ⟨ops⟩ i (⟨some d,op,t,pos,aft,g⟩::os) Q e Γ:=by
 intro hdr a w fr ho
 obtain ⟨h1,h2⟩:=Xdm hdr
 simp only [List.length_cons,List.range'_succ,wpOps]
 rw [h1]
 simp only [Xm5 (o:=⟨some d,op,t,pos,aft,g⟩) hg fr,Bool.false_eq_true,if_false]
 exact h h2 _ w (fr.put hd _) ho
theorem WA [Dr] {ops os:List Oper} {K:E→Prop} {op:Op} (hg:Xu5 ops e g=true) (hd:Nat.blt d n.s=true) (k:JQ P n w0 F ops os K ((d,undef)::e) Γ) :
  JQ P n w0 F ops (⟨some d,op,t,pos,aft,g⟩::os) K e Γ:=by
 intro a fr
 unfold wpQuiet
 rw [Xm5 (o:=⟨some d,op,t,pos,aft,g⟩) hg fr,if_neg (by decide)]
 exact k _ (fr.put hd _)
end
section
attribute [local irreducible] JC JO JR JQ andThen inBlock OpV Gives Xae JM JS
def Xgq (n:Nat) (p:Nat→Bool):Bool:=(List.range n).all p
theorem Xkf {n i:Nat} {p:Nat→Bool} (hi:i < n) (h:p i=false):Xgq n p=false:=by
 rw [← Bool.not_eq_true]
 intro ha
 have:=List.all_eq_true.1 ha i (List.mem_range.2 hi)
 rw [h] at this; cases this
theorem Xh1 {i:Nat} {p:Nat→Bool} (h:Xgq i p=true) (h':p i=true):Xgq (i+1) p=true:=by
 unfold Xgq at *
 rw [List.range_succ,List.all_append,h]
 simpa using h'
def Xiy (L:List Ctr_) (i:Nat):Bool :=
 match L[i]? with
 | some c=>Xc4 c.key && decide (c.n≠0) && (match L[i - 1]? with | some b=>decide (i=0) || Xam b.key c.key | none=>true)
 | none=>true
def Xcy (L:List Ctr_):Bool:=Xgq L.length (Xiy L)
theorem Xjd {L:List Ctr_} {i:Nat} (h:i < L.length):Xiy L i=(Xc4 L[i].key && decide (L[i].n≠0) && (decide (i=0) || Xam (L[i - 1]'(by omega)).key L[i].key)):=by
 unfold Xiy
 rw [List.getElem?_eq_getElem h,List.getElem?_eq_getElem (show i - 1 < L.length by omega)]
theorem Xkg (a:Option Addr) (k:Nat) (L:List Ctr_) (h:(sl a k L).holds F w) (hs:∀ c∈L,c.key.size < 4611686018427387904) :
  GivesV prog 102 [.slice a L.length k] w F (.bool (Xcy L)):=by
 have hL:L.length < 9223372036854775807:=by have:=h.2.2.1; simp only [lim] at this; omega
 unfold Xcy
 refine Xaa func102 rfl ntmps102 rfl rfl [.st (sl a k L)] (.start1 h) ?_
 refine wz4 ?_
 refine Xaj (fun (i:Nat)=>[(0, .slice a L.length k),(5, .slice a L.length k),(6, .int .i64 (L.length:Int)),(7, .int .i64 (i:Int))])
  (fun _=>[.st (sl a k L)]) (fun i=>i≤L.length∧Xgq i (Xiy L)=true) (fun i=>L.length - i) 0 ⟨Nat.zero_le _,rfl⟩ iI ?_
 rintro i ⟨hi,hall⟩
 refine wz11 ?_
 refine JC.test (fun hlt=>?_) (fun hge=>?_)
 ·have hlt':i < L.length:=by omega
  have hat:=Xjd hlt'
  have hcut:=Xkf (p:=Xiy L) hlt'
  have hck:=hs _ (List.getElem_mem hlt')
  obtain ⟨c,hc⟩:∃ c,c=L[i]:=⟨_,rfl⟩
  rw [← hc] at hat hck
  refine wz14 ?_
  refine Xka rfl hlt' ?_
  intro b3 o3
  rw [← hc]
  (repeat (refine wE ?_; intro _)); refine wA ?_
  rename_i bc
  obtain ⟨j,hj⟩:∃ j,j=i - 1:=⟨_,rfl⟩
  have hjl:j < L.length:=by omega
  refine Xfi (fun _:Unit=>[(0, .slice a L.length k),(5, .slice a L.length k),(6, .int .i64 (L.length:Int)),(7, .int .i64 (i:Int)),(35, .bool (!Xiy L i))]) (fun _=>[.st (sl a k L)]) ?_ ?_
  ·refine Xhx (L:=L) (.slice a L.length k) j hjl ?_
   intro b4 o4
   obtain ⟨p,hp⟩:∃ p,p=L[j]:=⟨_,rfl⟩
   rw [← hp]
   have hat':Xiy L i=(Xc4 c.key && decide (c.n≠0) && (decide (i=0) || Xam p.key c.key)):=by rw [hat,hp]; simp only [hj]
   refine Xbe mixed (by kernel_rfl) ?_
   refine wY ?_
   refine JQ.call rfl rfl (fun w1 hw=>Xdo w1 _ c.key hck) ?_
   cases hk:Xc4 c.key with
   | false =>
    refine JQ.reslot 14 (.bool false) rfl ?_
    refine wY ?_
    rw [show Xiy L i=false by rw [hat',hk]; rfl,Bool.not_false]
    exact ⟨rfl,(),iI⟩
   | true =>
   refine JQ.reslot 14 (.bool true) rfl ?_
   refine wY ?_
   by_cases hn:c.n=0
   ·refine JQ.reslot 21 (.bool true) (by congr 1; exact decide_eq_true hn) ?_
    refine wY ?_
    rw [show Xiy L i=false by rw [hat',hk,hn]; rfl,Bool.not_false]
    exact ⟨rfl,(),iI⟩
   refine JQ.reslot 21 (.bool false) (by congr 1; exact decide_eq_false hn) ?_
   refine wY ?_
   by_cases h0:i=0
   ·refine JQ.reslot 24 (.bool false) (by congr 1; exact decide_eq_false (by omega)) ?_
    refine wY ?_
    rw [show Xiy L i=true by rw [hat',hk,decide_eq_true h0,decide_eq_true hn]; rfl,Bool.not_true]
    exact ⟨rfl,(),iI⟩
   refine JQ.reslot 24 (.bool true) (by congr 1; exact decide_eq_true (by omega)) ?_
   refine wY ?_
   refine JQ.reslot 29 (.int .i64 (j:Int)) (by congr 1; omega) ?_
   refine wY ?_
   refine Wy rfl Xl4 rfl ?_
   refine wY ?_
   rw [show Xiy L i=Xam p.key c.key by rw [hat',hk,decide_eq_false h0,decide_eq_true hn]; rfl]
   exact ⟨rfl,(),iI⟩
  rintro ⟨⟩
  cases hx:Xiy L i with
  | false =>
   refine wz8 ?_
   refine Xab () ?_
   simp only [Xaf]
   rw [hcut hx]
  | true =>
  refine wz2 ?_
  exact ⟨i+1,⟨by omega,Xh1 hall hx⟩,by omega,iI⟩
 ·obtain rfl:i=L.length:=by omega
  refine wz3 ?_
  refine Xab () ?_
  simp only [Xaf]
  rw [hall]
end
abbrev strV (s:ByteArray):Value:=.string s
theorem Xzp (a:ByteArray):(a == a)=true:=by
 cases a with
 | mk d=>show (d == d)=true; simp
open Go.MapKept in
theorem MKey.str {P:Program} {k:TypeId} (hu:P.underlying k=some .string):MKey P k strV:=by
 refine ⟨fun a b h=>?_,fun w em a=>?_,fun w a es hes=>?_,fun w a=>?_⟩
 ·simpa [strV] using h
 ·exact run_checkKey hu (by simp [IsKey,strV]) em 9999
 ·have hk:IsKey .string (strV a):=by simp [IsKey,strV]
  have:=findNow_spec hk es 0 (fun x hx=>by obtain ⟨c,hc⟩:=hes x hx; rw [hc]; simp [IsKey,strV])
  rcases this with ⟨h1,h2⟩ | ⟨j,x,h1,h2,h3⟩
  ·exact .inl ⟨run_findKey hu h1,h2⟩
  ·exact .inr ⟨j,x,by simpa using run_findKey hu h1,h2,h3⟩
 ·simp [Instr.keyThatStays,Instr.sameBits,strV,Xzp]
section
variable {P:Program} {n:Nn} {w0:World} {F:Nat→Prop} {Q:Cont} {e:E} {Γ:List Fact}
theorem Xp7 [Dr] {c:Code} {a0:Option Addr} {k:Nat} {el:TypeId} {L:List ByteArray} (hne:L≠[])
  (h:∀ b junk,a0=some ⟨b,0,none⟩→L.length+junk.length=k→k≤maxLen→L.length≤lim→JC P n w0 F c Q e (.own b el (L.map strV++junk)::Γ)):JC P n w0 F c Q e (.res (buf a0 k el L)::Γ):=by
 intro a w fr ho
 have hs:(buf a0 k el L).holds (fp w0 F (.res (buf a0 k el L)::Γ)) w:=ho.sat (.res (buf a0 k el L)) (by simp)
 have hs0:=hs
 obtain ⟨h0,r,h1,h2,h3⟩:=hs0
 rcases h2.2 with ⟨hv,hn⟩ | ⟨g,cap,cur,hv,_,hg,hnc,hcm,hcs,ht⟩
 ·injection hv with e1 e2 e3
  exact absurd (List.eq_nil_of_length_eq_zero e2) hne
 ·injection hv with e1 e2 e3
  subst e1 e3
  obtain ⟨q,cur',q0,q1,q2,qg,qnc,qcm,qcs,qt⟩:=Xg3 hs
  rw [hg] at qg
  injection qg with qg
  injection qg with qg
  subst qg
  have hsz:cur.toList.length=k:=by rw [Array.length_toList,hcs]; show k * 1=k; omega
  have hfl:flat q=L.map strV:=by
   rw [← q1]
   clear q1 q2 qt qnc q0
   induction q with
   | nil=>rfl
   | cons p q ih=>obtain ⟨x,y⟩:=p; simp only [flat,List.map_cons]; rw [ih]; rfl
  have hql:q.length=L.length:=by rw [← q1,List.length_map]
  have htk:cur.toList.take L.length=L.map strV:=by
   rw [← hfl,← qt]; congr 1; show L.length=_ * 1; omega
  have hcur:L.map strV++cur.toList.drop L.length=cur.toList:=by rw [← htk,List.take_append_drop]
  refine h g (cur.toList.drop L.length) rfl (by rw [List.length_drop]; omega) hcm h0 a w fr ?_
  have hown:∀ j,(Fact.res (buf (some ⟨g,0,none⟩) k el L)).owns j↔j=g:=by
   intro j
   constructor
   ·rintro ⟨a',ha',rfl⟩; injection ha' with ha'; subst ha'; rfl
   ·rintro rfl; exact ⟨_,rfl,rfl⟩
  refine ⟨ho.below,fun f hf=>?_,?_,fun f hf j hj=>?_⟩
  ·rcases List.mem_cons.1 hf with rfl | hf
   ·show w.heap[g]? = _
    rw [hcur]
    exact hg
   ·refine Fact.sat_keep (ho.sat f (List.mem_cons_of_mem _ hf)) (fun j hj _=>⟨hj.1,fun f' hf'=>?_⟩) (fun _ _ _=>rfl)
    rcases List.mem_cons.1 hf' with rfl | hf'
    ·intro h9
     exact hj.2 _ (List.mem_cons_self ..) ((hown j).2 h9)
    ·exact hj.2 f' (List.mem_cons_of_mem _ hf')
  ·have hd:=ho.dis
   rw [List.pairwise_cons] at hd ⊢
   exact ⟨fun f hf j hj=>hd.1 f hf j ⟨(hown j).2 hj.1,hj.2⟩,hd.2⟩
  ·rcases List.mem_cons.1 hf with rfl | hf
   ·exact ho.new _ (List.mem_cons_self ..) j ((hown j).2 hj)
   ·exact ho.new f (List.mem_cons_of_mem _ hf) j hj
end
section
variable {P:Program} {n:Nn} {w0:World} {F:Nat→Prop} {ops:Array Oper} {i d:Nat} {t:TypeId} {pos:String} {aft:Array Edge} {g:Option (Nat × Bool)} {os:List Oper} {Q:Cont} {e:E} {Γ:List Fact}
theorem Xd2 [Dr] {d:Option Nat} {x ix:Operand} {kk:IntKind} {j:Int} {k m c:Nat} {ty el:TypeId} {ed:TypeDesc} {sz by_ eb b:Nat} {z ez:Value} [hx:Ev e x (.slice (some ⟨b,0,none⟩) m c)] [hi:Ev e ix (.int kk j)] [hk:NatI j k] [hT:Ty P ty (.slice el) sz by_ z] [hE:Ty P el ed 1 eb ez] (h:k < m) :
  OpV P n w0 F ⟨d, .indexAddr ty x ix,t,pos,aft,g⟩ e Γ (.pointer (some ⟨b,k,none⟩)) :=
 fun a w fr ho=>by
  have e1:=Xaz (P:=P) (t:=ty) w
  have e2:=Xbg (P:=P) (t:=el) w
  have hj:=hk.ok
  subst hj
  simp [execOp,hx.ok n a fr,hi.ok n a fr,Instr.indexAt,e1,e2,asIntOf,Addr.add_mid,h]
theorem Xe9 [Dr] {d:Option Nat} {x:Operand} {ty bt:TypeId} {by_ b o:Nat} {z:Value} {vs:List Value} {v:ByteArray} {Δ:List Fact} [hx:Ev e x (.pointer (some ⟨b,o,none⟩))] [hO:Own Γ b bt vs Δ] [hT:Ty P ty (.string) 1 by_ z] (h:vs[o]? = some (strV v)) :
  OpV P n w0 F ⟨d, .load ty x,t,pos,aft,g⟩ e Γ (strV v) :=
 fun a w fr ho=>by
  have hw:w.heap[b]? = some (.cells vs.toArray bt (0,0)):=(ho.perm hO.ok).sat (.own b bt vs) (by simp)
  have hr:w.rangeAt b o [strV v]:=fun j u hj=>by
   cases j with
   | zero =>
    simp only [List.getElem?_cons_zero,Option.some.injEq] at hj
    subst hj
    rw [Nat.add_zero,cell_of_row w b _ _ _ _ hw]
    simpa using h
   | succ j=>simp at hj
  have hv:Val (.string) [strV v] (strV v):=iI
  simp [execOp,hx.ok n a fr,Xd4 (P:=P) (t:=ty) (v:=strV v) hr rfl]
theorem Xkh [Dr] {x y:Operand} {ty bt:TypeId} {by_ b o:Nat} {z:Value} {vs:List Value} {v:ByteArray} {Δ:List Fact} [hx:Ev e x (.pointer (some ⟨b,o,none⟩))] [hy:Ev e y (strV v)] [hO:Own Γ b bt vs Δ] [hT:Ty P ty (.string) 1 by_ z] (h:o < vs.length)
  (k:JO P n w0 F ops (i+1) os Q e (.own b bt (vs.set o (strV v))::Δ)):JR P n w0 F ops i ⟨none, .store ty x y,t,pos,aft,g⟩ os Q e Γ :=
 Xdi fun a w fr ho=>by
  have ho':=ho.perm hO.ok
  have hw:w.heap[b]? = some (.cells vs.toArray bt (0,0)):=ho'.sat (.own b bt vs) (by simp)
  have hset:o + [strV v].length≤vs.length∧vs.take o++[strV v]++vs.drop (o + [strV v].length)=vs.set o (strV v):=by
   refine ⟨by simp; omega,?_⟩
   rw [List.set_eq_take_append_cons_drop,if_pos h]
   simp
  refine ⟨.skip,w.setRow b (vs.set o (strV v)).toArray,_, .inl rfl,?_,ho'.setRow,k⟩
  have hc:Cel (strV v) [strV v]:=iI
  have h1:One [strV v]:=iI
  simp [execOp,hx.ok n a fr,hy.ok n a fr,Xc2 (P:=P) (ty:=ty) (cs:=[strV v]) (r:=vs.set o (strV v)) hw rfl hset]
end
section
variable {w0:World} {F:Nat→Prop} {Γ:List Fact}
theorem Hold.pubStrs [Dr] {w:World} {b k:Nat} {el:TypeId} {L:List ByteArray} {junk:List Value} (h:Hold w0 F (.own b el (L.map strV++junk)::Γ) w) (hjk:L.length+junk.length=k) (hmax:k≤maxLen) (hlim:L.length≤lim):Hold w0 F (.st (sl (some ⟨b,0,none⟩) k L)::Γ) w:=by
 have hs:w.heap[b]? = some (.cells (L.map strV++junk).toArray el (0,0)):=h.sat (.own b el (L.map strV++junk)) (by simp)
 refine h.publish fun hk=>?_
 refine ⟨by omega,hmax,hlim,fun hne=>⟨b,0,rfl,hk b (.inr rfl),(Array.getElem?_eq_some_iff.1 hs).1,fun i hi=>⟨(),?_,by simp [Cell.facts]⟩⟩⟩
 intro j v hj
 simp only [Cell.cells,List.getElem?_singleton] at hj
 split at hj
 ·rename_i h0; subst h0
  injection hj with hj
  subst hj
  rw [cell_of_row w b _ _ _ _ hs]
  simp [Cell.sz,hi,List.getElem?_append_left]
 ·cases hj
end
class W32 (p:Int) (a:outParam UInt32):Prop where
 ok:p=(a.toNat:Int)
instance (priority:=1000) {a:UInt32}:W32 (a.toNat:Int) a:=⟨rfl⟩
instance:W32 (16777216:Int) 16777216:=⟨rfl⟩
instance:W32 (65536:Int) 65536:=⟨rfl⟩
instance:W32 (256:Int) 256:=⟨rfl⟩
instance:W32 (1024:Int) 1024:=⟨rfl⟩
instance:W32 (8:Int) 8:=⟨rfl⟩
class W64 (p:Int) (a:outParam UInt64):Prop where
 ok:p=(a.toNat:Int)
instance (priority:=1000) {a:UInt64}:W64 (a.toNat:Int) a:=⟨rfl⟩
instance:W64 (256:Int) 256:=⟨rfl⟩
instance:W64 (128:Int) 128:=⟨rfl⟩
instance:W64 (127:Int) 127:=⟨rfl⟩
instance:W64 (8:Int) 8:=⟨rfl⟩
instance:W64 (2:Int) 2:=⟨rfl⟩
instance:W64 (1:Int) 1:=⟨rfl⟩
theorem JR.reslot [Dr] {P:Program} {n:Nn} {w0:World} {F:Nat→Prop} {ops:Array Oper} {i:Nat} {o:Oper} {os:List Oper} {Q:Cont} {e:E} {Γ:List Fact} (s:Nat) {v:Value} (u:Value) [hs:Lk e s v] (h:v=u) (k:JR P n w0 F ops i o os Q ((s,u)::e) Γ):JR P n w0 F ops i o os Q e Γ :=
 fun hd a w fr ho=>k hd a w (fr.again (by rw [← h]; exact hs.ok)) ho
theorem JR.reown [Dr] {P:Program} {n:Nn} {w0:World} {F:Nat→Prop} {ops:Array Oper} {i:Nat} {o:Oper} {os:List Oper} {Q:Cont} {e:E} {Γ:List Fact} {bt:TypeId} {vs:List Value} {Δ:List Fact} (b:Nat) (us:List Value) [h:Own Γ b bt vs Δ] (he:vs=us) (k:JR P n w0 F ops i o os Q e (.own b bt us::Δ)):JR P n w0 F ops i o os Q e Γ :=
 JR.more (fun w ho=>by subst he; exact ho.perm h.ok) k
section
variable {P:Program} {n:Nn} {w0:World} {F:Nat→Prop} {d:Option Nat} {t:TypeId} {pos:String} {aft:Array Edge} {g:Option (Nat × Bool)} {e:E} {Γ:List Fact}
 {x y:Operand} {ty yt:TypeId}
end
abbrev pan (v:Value):List PanicEntry:=[{ v:=v,recovered:=false }]
section
variable {P:Program} {n:Nn} {w0:World} {F:Nat→Prop} {ops:Array Oper} {i:Nat} {t:TypeId} {pos:String} {aft:Array Edge} {g:Option (Nat × Bool)} {os:List Oper} {Q:Cont} {e:E} {Γ:List Fact}
theorem JR.panic [Dr] {dst:Option Nat} {x:Operand} {ty:TypeId} {v:Value} [hx:Ev e x (.iface ty v)] (k:Q (.panic (pan (.iface ty v))) e Γ) :
  JR P n w0 F ops i ⟨dst, .panic x,t,pos,aft,g⟩ os Q e Γ:=by
 intro hdr a w fr ho
 unfold Oper.wp
 have h1:(execOp a.eval ⟨dst, .panic x,t,pos,aft,g⟩).run P w = .halt (.panic (.iface ty v)) w:=by
  simp only [execOp,hx.ok n a fr,Sem.run_bind,run_panic_iface]
  rfl
 rw [h1]
 exact ⟨e,Γ,k,fr,ho⟩
end
section
variable {w0:World} {F:Nat→Prop} {Q:Cont} {e:E} {Γ:List Fact} {next:E→List Fact→Prop} {c:List PanicEntry}
theorem CT.panic (h:Q (.panic c) e Γ):andThen next Q (.panic c) e Γ:=h
end
section
variable {P:Program} {w0:World} {F:Nat→Prop} {e:E} {Γ:List Fact}
theorem Xem [Dr] {rs:List ResultVar} {vs:List Value} {Y:Type} {v:Y→Value} {B:Y→List Fact} (y:Y) [hr:ResVs P e Γ rs vs] (hv:Xaf vs=v y) (hB:∀ w,Hold w0 F Γ w→Hold w0 F (B y) w):Xae P w0 F rs v B .normal e Γ :=
 ⟨.inr rfl,y,vs,hr,hv,hB⟩
theorem Xl7 [Dr] {rs:List ResultVar} {vs:List Value} {Y:Type} {v:Y→Value} {B:Y→List Fact} (y:Y) [hr:ResVs P e Γ rs vs] (hv:Xaf vs=v y) [hB:Sub Γ (B y)]:Xae P w0 F rs v B .normal e Γ:=Xem y hv fun w ho=>ho.sub hB
end
section
variable {P:Program} {n:Nn} {w0:World} {F:Nat→Prop} {d:Option Nat} {t:TypeId} {pos:String} {aft:Array Edge} {g:Option (Nat × Bool)} {e:E} {Γ:List Fact}
theorem OpV.nilCheck [Dr] {x:Operand} {b o:Nat} [hx:Ev e x (.pointer (some ⟨b,o,none⟩))]:OpV P n w0 F ⟨d, .nilCheck x,t,pos,aft,g⟩ e Γ (.pointer (some ⟨b,o,none⟩)) :=
 fun a w fr _=>by simp [execOp,hx.ok n a fr]
end
section
variable {P:Program} {n:Nn} {w0:World} {F:Nat→Prop} {ops:Array Oper} {i d:Nat} {t:TypeId} {pos:String} {aft:Array Edge} {g:Option (Nat × Bool)} {os:List Oper} {Q:Cont} {e:E} {Γ:List Fact}
end
section
variable {P:Program} {n:Nn} {w0:World} {F:Nat→Prop} {ops:Array Oper} {i d:Nat} {t:TypeId} {pos:String} {aft:Array Edge} {g:Option (Nat × Bool)} {os:List Oper} {Q:Cont} {e:E} {Γ:List Fact} [Dr]
def JX (P:Program) (n:Nn) (w0:World) (F:Nat→Prop) (c:Code) (Q:Nn→Cont) (e:E) (Γ:List Fact):Prop :=
 ∀ a w,Fr n e a→Hold w0 F Γ w→c.wp P (fun x a w=>∃ n' e Γ,Q n' x e Γ∧Fr n' e a∧Hold w0 F Γ w) a w
theorem JX.seq {Q:Nn→Cont} {x y:Code} (h:JC P n w0 F x (fun z e' Γ'=>z = .normal∧JX P n w0 F y Q e' Γ') e Γ):JX P n w0 F (.seq x y) Q e Γ:=by
 intro a w fr ho
 refine wp_seq (wp_mono (h a w fr ho) ?_)
 rintro z a w ⟨e,Γ,⟨rfl,hq⟩,fr,ho⟩
 exact hq a w fr ho
theorem JX.defer {Q:Nn→Cont} {id:Nat} {y:Code} {fn:Fn} {caps:Array Operand} {us:List Value} {t1 t2:TypeId} {p1 p2:String} {f1 f2:Array Edge} {ats:Array TypeId} [hc:ArgVs e caps.toList us] (hd:Nat.blt d n.s=true)
  (h:JC P ⟨n.s,⟨.fn fn ⟨us⟩,#[]⟩::n.ds⟩ w0 F y (Q ⟨n.s,⟨.fn fn ⟨us⟩,#[]⟩::n.ds⟩) ((d, .func fn #[] ⟨us⟩)::e) Γ) :
  JX P n w0 F (.seq (.region id ⟨[⟨some d, .makeFunc fn #[] caps,t1,p1,f1,none⟩,⟨none, .defer ⟨.value (.tmp d),#[],ats⟩,t2,p2,f2,none⟩]⟩ false) y) Q e Γ:=by
 intro a w fr ho
 have e1:caps.map a.eval=⟨us⟩:=by apply Array.ext'; simp [hc.ok n a fr]
 have hev:=(fr.put hd (.func fn #[] ⟨us⟩))
 refine wp_seq (wp_region ?_)
 have hr:List.range (Array.size (⟨[⟨some d, .makeFunc fn #[] caps,t1,p1,f1,none⟩,⟨none, .defer ⟨.value (.tmp d),#[],ats⟩,t2,p2,f2,none⟩]⟩:Array Oper))=[0,1]:=rfl
 rw [hr]
 have h1:(execOp a.eval ⟨some d, .makeFunc fn #[] caps,t1,p1,f1,none⟩).run P w = .ok (.value (.func fn #[] ⟨us⟩)) w:=by
  simp only [execOp]
  rw [e1]
  have e2:Array.map a.eval #[] = #[]:=by simp
  rw [e2]
  rfl
 have h2:(execOp (a.put (some d) (.func fn #[] ⟨us⟩)).eval ⟨none, .defer ⟨.value (.tmp d),#[],ats⟩,t2,p2,f2,none⟩).run P w = .ok (.defer ⟨.fn fn ⟨us⟩,#[]⟩) w:=by
  have h3:(a.put (some d) (.func fn #[] ⟨us⟩)).eval (.tmp d) = .func fn #[] ⟨us⟩:=(iI:Ev ((d, .func fn #[] ⟨us⟩)::e) (.tmp d) (.func fn #[] ⟨us⟩)).ok n _ hev
  simp [execOp,h3,resolve,Deferred.ofValue]
 have hw:∀ y (o:Oper),o.guard=none→Region.wanted o y=true:=fun y o h=>by unfold Region.wanted; rw [h]
 unfold wpOps
 show (if Region.wanted ⟨some d, .makeFunc fn #[] caps,t1,p1,f1,none⟩ _ then Oper.wp P ⟨some d, .makeFunc fn #[] caps,t1,p1,f1,none⟩ a w (wpOps P _ _ [1]) _∨_ else _:Prop)
 rw [if_pos (hw _ _ rfl)]
 refine .inl ?_
 unfold Oper.wp
 rw [h1,Oper.upon_value]
 unfold wpOps
 show (if Region.wanted ⟨none, .defer ⟨.value (.tmp d),#[],ats⟩,t2,p2,f2,none⟩ _ then Oper.wp P ⟨none, .defer ⟨.value (.tmp d),#[],ats⟩,t2,p2,f2,none⟩ _ w (wpOps P _ _ []) _∨_ else _:Prop)
 rw [if_pos (hw _ _ rfl)]
 refine .inl ?_
 unfold Oper.wp
 rw [h2,Oper.upon_defer]
 unfold wpOps
 refine wp_mono (h _ w ?_ ho) (fun x a w ⟨e,Γ,hq⟩=>⟨_,e,Γ,hq⟩)
 have h4:Fr ⟨n.s,⟨.fn fn ⟨us⟩,#[]⟩::n.ds⟩ ((d, .func fn #[] ⟨us⟩)::e) ⟨(a.put (some d) (.func fn #[] ⟨us⟩)).tmps,⟨.fn fn ⟨us⟩,#[]⟩::(a.put (some d) (.func fn #[] ⟨us⟩)).defers⟩ :=
  ⟨by rw [hev.defers],hev.size,hev.slot⟩
 exact h4
end
section
attribute [local irreducible] JC JO JR JQ andThen inBlock OpV Gives Xae JM JS
theorem Xki (s:ByteArray):GivesV prog 300 [.string s] w F (.bool false):=by
 refine Xaa func300 rfl ntmps300 rfl rfl [] (.start w F) ?_
 refine wA ?_
 refine Xab () ?_
 simp [Xaf]
theorem Xya (s u:ByteArray):GivesV prog 320 [.string s, .string u] w F (.bool (Xam s u)):=by
 refine Xaa func320 rfl ntmps320 rfl rfl [] (.start w F) ?_
 refine wz10 ?_
 refine JR.callV rfl (fun w1 hw=>Xki w1 _ s) ?_
 refine wz8 ?_
 refine Wf Xhw rfl ?_
 refine wz5 ?_
 exact Xab () rfl
structure InsS (A:List ByteArray) (i j:Nat):Prop where
 ord:∀ x y,x < y→y≤i→y≠j→Xam (A.getD y .empty) (A.getD x .empty)=false
theorem InsS.swap {A:List ByteArray} {i j:Nat} (h:InsS A i (j+1)) (hj:j+1 < A.length) (hji:j+1≤i) (hlt:Xam (A.getD (j+1) .empty) (A.getD j .empty)=true) :
  InsS ((A.set (j+1) (A.getD j .empty)).set j (A.getD (j+1) .empty)) i j:=by
 have hg:∀ x,((A.set (j+1) (A.getD j .empty)).set j (A.getD (j+1) .empty)).getD x .empty=if x=j then A.getD (j+1) .empty else if x=j+1 then A.getD j .empty else A.getD x .empty:=by
  intro x
  simp only [List.getD_eq_getElem?_getD,List.getElem?_set,List.length_set]
  by_cases h1:x=j
  ·subst h1; simp [show x < A.length by omega]
  ·by_cases h2:x=j+1
   ·subst h2; simp [hj]
   ·simp [h1,h2,Ne.symm h1,Ne.symm h2]
 refine ⟨fun x y hxy hyi hyj=>?_⟩
 rw [hg,hg,if_neg hyj]
 by_cases hy:y=j+1
 ·rw [if_pos hy]
  by_cases hx:x=j
  ·rw [if_pos hx]; exact Xd6 hlt
  ·rw [if_neg hx,if_neg (by omega)]
   exact h.ord x j (by omega) (by omega) (by omega)
 ·rw [if_neg hy]
  by_cases hx:x=j
  ·rw [if_pos hx]; exact h.ord (j+1) y (by omega) hyi hy
  ·rw [if_neg hx]
   by_cases hx2:x=j+1
   ·rw [if_pos hx2]; exact h.ord j y (by omega) hyi hy
   ·rw [if_neg hx2]; exact h.ord x y hxy hyi hy
theorem Xu6 {A:List ByteArray} {j:Nat} (hj:j+1 < A.length):((A.set (j+1) (A.getD j .empty)).set j (A.getD (j+1) .empty)).Perm A:=by
 induction A generalizing j with
 | nil=>simp at hj
 | cons a A ih =>
  cases j with
  | zero =>
   cases A with
   | nil=>simp at hj
   | cons b A=>simpa using List.Perm.swap a b A
  | succ j =>
   simp only [List.length_cons] at hj
   have:=ih (j:=j) (by omega)
   simpa using this.cons a
abbrev Xdg (L:List ByteArray):Type:={ S:List ByteArray // S.Perm L∧S.Pairwise (fun a b=>Xam b a=false) }
theorem Xkj {a b c:ByteArray} (h:Xam b a=false) (k:Xam c b=false):Xam c a=false:=by
 cases hx:Xam c a with
 | false=>rfl
 | true =>
  by_cases e:b=a
  ·subst e; rw [hx] at k; cases k
  ·rcases Xcb e with h1 | h1
   ·rw [h1] at h; cases h
   ·have:=Xbr hx h1
    rw [this] at k; cases k
def Srt (A:List ByteArray) (i:Nat):Prop:=∀ x y,x < y→y < i→Xam (A.getD y .empty) (A.getD x .empty)=false
theorem Srt.pairwise {A:List ByteArray} {i:Nat} (h:Srt A i) (hi:A.length≤i):A.Pairwise (fun a b=>Xam b a=false):=by
 rw [List.pairwise_iff_getElem]
 intro x y hx hy hxy
 have:=h x y hxy (by omega)
 simpa [List.getD_eq_getElem?_getD,hx,hy] using this
theorem Xrm {A:List ByteArray} {junk:List Value} {x:Nat} (h:x < A.length):(A.map strV++junk)[x]? = some (strV (A.getD x .empty)):=by
 rw [List.getElem?_append_left (by rw [List.length_map]; exact h),List.getElem?_map]
 simp [List.getD_eq_getElem?_getD,h]
theorem Xzq {A:List ByteArray} {junk:List Value} {x:Nat} {s:ByteArray} (h:x < A.length):(A.map strV++junk).set x (strV s)=(A.set x s).map strV++junk:=by
 rw [List.set_append_left _ _ (by rw [List.length_map]; exact h),List.map_set]
theorem Xm6 {w0 w:World} {F:Nat→Prop} {Γ:List Fact} {b k:Nat} {el:TypeId} {L:List ByteArray} {junk:List Value} (hl:L.length≤1000) (ho:Hold w0 F (.own b el (L.map strV++junk)::Γ) w) :
  Calls prog 314 ⟨[.slice (some ⟨b,0,none⟩) L.length k, .int .i64 0, .int .i64 (L.length:Int)]⟩ w fun x w'=>∃ S:Xdg L,x = .returned (.tuple ⟨[]⟩)∧Hold w0 F (.own b el (S.1.map strV++junk)::Γ) w':=by
 refine Xbu (v:=fun _=>.tuple ⟨[]⟩) (B:=fun S:Xdg L=>.own b el (S.1.map strV++junk)::Γ) func314 rfl ntmps314 rfl rfl _ ho ?_
 refine wA ?_
 refine Xdt (fun (i:Nat) (A:List ByteArray)=>[(0, .slice (some ⟨b,0,none⟩) L.length k),(1, .int .i64 0),(2, .int .i64 (L.length:Int)),(6, .int .i64 (i:Int))])
  (fun i A=>.own b el (A.map strV++junk)::Γ) (fun i A=>A.Perm L∧1≤i∧Srt A i) (fun i _=>L.length - i) 1 L ⟨List.Perm.refl _,Nat.le_refl _,fun x y h1 h2=>absurd h2 (by omega)⟩ iI ?_
 rintro i A ⟨hp,hi,hs⟩
 have hlen:A.length=L.length:=hp.length_eq
 refine wz11 ?_
 refine JC.test (fun hlt=>?_) (fun hge=>?_)
 ·have hlt':i < L.length:=by omega
  refine wz7 ?_
  refine Xdt (fun (j:Nat) (A:List ByteArray)=>[(0, .slice (some ⟨b,0,none⟩) L.length k),(1, .int .i64 0),(2, .int .i64 (L.length:Int)),(6, .int .i64 (i:Int)),(7, .int .i64 (j:Int))])
   (fun j A=>.own b el (A.map strV++junk)::Γ) (fun j A=>A.Perm L∧j≤i∧InsS A i j) (fun j _=>j) i A ⟨hp,Nat.le_refl _,⟨fun x y h1 h2 h3=>hs x y h1 (by omega)⟩⟩ iI ?_
  clear hp hs hlen
  rintro j A ⟨hp,hji,hs⟩
  have hlen:A.length=L.length:=hp.length_eq
  refine wz14 ?_
  refine Xbe mixed (by kernel_rfl) ?_
  refine wY ?_
  cases j with
  | zero =>
   refine JQ.reslot 19 (.bool false) rfl ?_
   refine wY ?_
   refine wX ?_
   exact ⟨i+1,A,⟨hp,by omega,fun x y h1 h2=>hs.ord x y h1 (by omega) (by omega)⟩,by omega,iI⟩
  | succ m =>
  refine JQ.reslot 19 (.bool true) (by first | rfl | exact congrArg Value.bool (decide_eq_true (by omega))) ?_
  refine wY ?_
  refine Wy rfl (Xd2 (k:=m+1) (by omega)) rfl ?_
  refine Wy rfl (Xe9 (v:=A.getD (m+1) .empty) (Xrm (by omega))) rfl ?_
  refine wY ?_
  refine JQ.reslot 26 (.int .i64 (m:Int)) (by first | rfl | (congr 1; omega)) ?_
  refine Wy rfl (Xd2 (k:=m) (by omega)) rfl ?_
  refine Wy rfl (Xe9 (v:=A.getD m .empty) (Xrm (by omega))) rfl ?_
  refine JQ.call rfl rfl (fun w1 hw=>Xya w1 _ (A.getD (m+1) .empty) (A.getD m .empty)) ?_
  cases hx:Xam (A.getD (m+1) .empty) (A.getD m .empty) with
  | false =>
   refine wY ?_
   refine wX ?_
   refine ⟨i+1,A,⟨hp,by omega,fun x y h1 h2=>?_⟩,by omega,iI⟩
   by_cases hy:y=m+1
   ·subst hy
    by_cases hxm:x=m
    ·subst hxm; exact hx
    ·exact Xkj (hs.ord x m (by omega) (by omega) (by omega)) hx
   ·exact hs.ord x y h1 (by omega) hy
  | true =>
  refine wY ?_
  refine wz1 ?_
  refine JC.drawP mixed ?_
  refine Xad 0 ?_
  refine Xad 1 ?_
  refine Xad 2 ?_
  refine Xad 3 ?_
  refine JP.pure 4 rfl (by kernel_rfl) rfl (fun _=>Vv (by omega)) rfl rfl ?_
  refine JP.reslot 37 (.int .i64 (m:Int)) (by congr 1; omega) ?_
  refine Xad 5 ?_
  refine Xad 6 ?_
  refine JP.pure 7 rfl (by kernel_rfl) rfl (fun _=>Vv (by omega)) rfl rfl ?_
  refine JP.reslot 40 (.int .i64 (m:Int)) (by congr 1; omega) ?_
  refine JP.pure 8 rfl (by kernel_rfl) rfl (fun _=>Xd2 (k:=m) (by omega)) rfl rfl ?_
  refine JP.take 9 [.own b el (A.map strV++junk)] rfl (by kernel_rfl) rfl (Xe9 (v:=A.getD m .empty) (Xrm (by omega))) rfl rfl ?_
  refine Xad 10 ?_
  refine Xad 11 ?_
  refine JP.pure 12 rfl (by kernel_rfl) rfl (fun _=>Xd2 (k:=m+1) (by omega)) rfl rfl ?_
  refine JP.take 13 [.own b el (A.map strV++junk)] rfl (by kernel_rfl) rfl (Xe9 (v:=A.getD (m+1) .empty) (Xrm (by omega))) rfl rfl ?_
  refine JP.pure 14 rfl (by kernel_rfl) rfl (fun _=>Xd2 (k:=m+1) (by omega)) rfl rfl ?_
  refine Xal 15 rfl rfl (Xkh (by rw [List.length_append,List.length_map]; omega) (Wd (nO ?_)))
  refine JP.pure 16 rfl (by kernel_rfl) rfl (fun _=>Xd2 (k:=m) (by omega)) rfl rfl ?_
  refine Xal 17 rfl rfl (Xkh (by rw [List.length_set,List.length_append,List.length_map]; omega) (Wd (nO ?_)))
  refine JP.nil (by kernel_rfl) ?_
  rw [Xzq (by omega),Xzq (by rw [List.length_set]; omega)]
  have hins:=hs.swap (by omega) hji hx
  have hsp:=(Xu6 (A:=A) (j:=m) (by omega)).trans hp
  refine wX ?_
  rw [Nat.add_sub_cancel]
  exact ⟨m,_,⟨hsp,by omega,hins⟩,by omega,iI⟩
 ·refine wz3 ?_
  exact Xem (⟨A,hp,hs.pairwise (by omega)⟩:Xdg L) rfl (fun w ho=>ho)
def cmpI (a b:Int):Int:=if a < b then -1 else if b < a then 1 else 0
theorem Xu7 [Dr] (a:Int):GivesV prog 123 [.int .i64 a] w F (.bool false):=by
 refine Xaa func123 rfl ntmps123 rfl rfl [] (.start w F) ?_
 refine wA ?_
 exact Xab () (by simp [Xaf])
theorem Xda [Dr] (a b:Int):GivesV prog 63 [.int .i64 a, .int .i64 b] w F (.int .i64 (cmpI a b)):=by
 refine Xaa func63 rfl ntmps63 rfl rfl [] (.start w F) ?_
 refine wz10 ?_
 refine JR.callV rfl (fun w1 hw=>Xu7 w1 _ a) ?_
 refine wz10 ?_
 refine JR.callV rfl (fun w1 hw=>Xu7 w1 _ b) ?_
 refine wz2 ?_
 refine JC.test (fun h=>?_) (fun h=>?_)
 ·have e1:cmpI a b = -1:=by simp [cmpI,h]
  rw [e1]
  refine wz9 ?_
  exact Xab () rfl
 refine wA ?_
 refine JC.test (fun h'=>?_) (fun h'=>?_)
 ·have e1:cmpI a b=1:=by simp [cmpI,h,h']
  rw [e1]
  refine wz9 ?_
  exact Xab () rfl
 ·have e1:cmpI a b=0:=by simp [cmpI,h,h']
  rw [e1]
  refine wz1 ?_
  exact Xab () rfl
def orL:List Int→Int
 | []=>0
 | x::l=>if x≠0 then x else orL l
theorem Xrn (L:List Int) (k:Nat) (hk:k≤L.length) (h:∀ j (hj:j < L.length),j < k→L[j]=0):orL L=orL (L.drop k):=by
 induction k generalizing L with
 | zero=>rfl
 | succ k ih =>
  cases L with
  | nil=>simp at hk
  | cons x L =>
   have h0:x=0:=h 0 (by simp) (by omega)
   have:=ih L (by simpa using hk) (fun j hj hjk=>h (j+1) (by simpa using hj) (by omega))
   simp [orL,h0,this]
theorem Xzr [Dr] (a:Option Addr) (k:Nat) (L:List Int) (h:(sl a k L).holds F w):GivesV prog 62 [.slice a L.length k] w F (.int .i64 (orL L)):=by
 have hL:L.length < 9223372036854775807:=by have:=h.2.2.1; simp only [lim] at this; omega
 refine Xaa func62 rfl ntmps62 rfl rfl [.st (sl a k L)] (.start1 h) ?_
 refine wz4 ?_
 refine Xaj (fun i:Nat=>[(3, .int .i64 0),(6, .slice a L.length k),(7, .int .i64 (L.length:Int)),(8, .int .i64 (i:Int))]) (fun i=>[.st (sl a k L)])
  (fun i=>i≤L.length∧∀ j (hj:j < L.length),j < i→L[j]=0) (fun i=>L.length - i) 0 ⟨Nat.zero_le _,fun j hj h=>by omega⟩ iI ?_
 intro i ⟨hi,hz⟩
 refine wz11 ?_
 refine JC.test (fun hlt=>?_) (fun hge=>?_)
 ·have hlt':i < L.length:=by omega
  refine wz14 ?_
  refine Xpw rfl hlt' ?_
  intro b o
  refine wA ?_
  refine JC.test (fun h0=>?_) (fun h0=>?_)
  ·have e1:orL L=L[i]:=by
    rw [Xrn L i hi hz,List.drop_eq_getElem_cons hlt']
    simp [orL,h0]
   rw [e1]
   refine wz5 ?_
   exact Xab () rfl
  ·refine wz2 ?_
   refine ⟨i+1,⟨by omega,fun j hj hji=>?_⟩,by omega,iI⟩
   by_cases hj':j=i
   ·subst hj'; simpa using h0
   ·exact hz j hj (by omega)
 ·have e1:orL L=0:=by rw [Xrn L i hi hz,List.drop_of_length_le (by omega)]; rfl
  rw [e1]
  refine wz3 ?_
  exact Xab () rfl
theorem X0q [Dr] (w:World) (F:Nat→Prop) (a:Option Addr) (k bl:Nat) (L:List Commit) (i j:Nat) (hi:i < L.length) (hj:j < L.length) (h:(sl a k L).holds F w) (hb:(ro bl 0 [.slice a L.length k]).holds F w) :
  GivesV prog 118 [.int .i64 (i:Int), .int .i64 (j:Int), .pointer (some ⟨bl,0,none⟩)] w F (.int .i64 (cmpI L[i].gen L[j].gen)):=by
 refine Xaa func118 rfl ntmps118 rfl rfl [.st (sl a k L), .st (ro bl 0 [.slice a L.length k])] (.start2 h hb) ?_
 refine wz10 ?_
 refine Xe4 (L:=L) (.slice a L.length k) i hi ?_
 intro b1 o1 p1 q1
 refine Xe4 (L:=L) (.slice a L.length k) j hj ?_
 intro b2 o2 p2 q2
 refine Xbe mixed (by kernel_rfl) ?_
 refine wQ ?_
 refine JQ.call rfl rfl (fun w1 hw=>Xda w1 _ (L[i]).gen (L[j]).gen) ?_
 refine wQ ?_
 refine wz13 ?_
 exact Xab () rfl
theorem Hold.start4 [Dr] {A B C D:Asn} {w:World} {F:Nat→Prop} (h:A.holds F w) (h2:B.holds F w) (h3:C.holds F w) (h4:D.holds F w):Hold w F [.st A, .st B, .st C, .st D] w :=
 (Hold.start3 h2 h3 h4).add (Asn.mono _ _ _ _ (fun k hk=>⟨.inl hk,by simp [free,Fact.owns]⟩) h)
theorem Xu8 {w:World} {b:Nat} {L:List Int} {t:TypeId} (h:w.heap[b]? = some (.cells (L.map (fun n=>Value.int .i64 n)).toArray t (0,0))) (hmax:L.length≤4096):(sl (some ⟨b,0,none⟩) L.length L).holds (fun _=>True) w:=by
 refine ⟨by omega,by simp [maxLen]; omega,by simp only [lim]; omega,fun hne=>⟨b,0,rfl,trivial,(Array.getElem?_eq_some_iff.1 h).1,fun i hi=>⟨(),?_,by simp [Cell.facts]⟩⟩⟩
 intro j v hj
 simp only [Cell.cells,List.getElem?_singleton] at hj
 split at hj
 ·rename_i h0; subst h0
  injection hj with hj
  subst hj
  rw [cell_of_row w b _ _ _ _ h]
  simp [Cell.sz,hi]
 ·cases hj
end
end Ab
end Go.Proofs.YtllddbbldmoibaaGreat
