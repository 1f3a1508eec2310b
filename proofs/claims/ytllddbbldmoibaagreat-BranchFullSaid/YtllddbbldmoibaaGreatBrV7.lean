/- Lemmas for the walks, part 7 of 7: AwR, LbA, Entry, Shut, ShutN. -/
import Derived.Test.YtllddbbldmoibaaGreatBrV6
import Derived.Test.YtllddbbldmoibaaGreatBrV2
import Derived.SizedLaws
import Derived.ChangeArms
import Derived.KernelRfl
import Derived.OpenShut
import Derived.Test.YtllddbbldmoibaaGreatBrV3
import Derived.Test.YtllddbbldmoibaaGreatRows
import Derived.ProofKit
import Derived.Carry
namespace Go.Proofs.YtllddbbldmoibaaGreat
namespace Ab
open Go Go.RowKit Go.Proofs.Tryz
set_option linter.unusedVariables false
set_option linter.unusedSimpArgs false
set_option linter.unusedSectionVars false
set_option synthInstance.maxSize 4000
set_option synthInstance.maxHeartbeats 400000
set_option maxHeartbeats 16000000
variable (w:World) (F:Nat→Prop)
section
attribute [local irreducible] JC JO JR JQ andThen inBlock OpV Gives Xah JM JS
section
attribute [local irreducible] Xas
theorem Ya9 (v0 v1 v2 v3 v4 v5 v6 v7 v8 v9:Value) (w:World):(Instr.field 50 (.agg ⟨[v0,v1,v2,v3,v4,v5,v6,v7,v8,v9]⟩) 3).run prog w = .ok v3 w:=by
 have h1:=Xav (P:=prog) (t:=50) w
 unfold Instr.field
 rw [Sem.run_bind,h1]
 simp [asAgg,part,isAgg,Sem.run_bind]
theorem Xim:GivesV prog 19 [] w F (.bool true):=by
 have cU:=fun (w:World) (F:Nat→Prop)=>Xd5 w F nB0 na0 (incA 1) Xan Xan Xan Xan Ya6 (by decide) (by decide)
 have cC:=fun (w:World) (F:Nat→Prop) (y:Na) (h1:(sl y.d y.dk nB1.disk).holds F w) (h2:(sl y.l y.lk nB1.l).holds F w) (h3:(sl y.w y.wk nB1.wait).holds F w) (h4:(sl y.p y.pk nB1.peers).holds F w)=>Xf9 w F nB1 y (incA 2) 5 h1 h2 h3 h4 Ya7 (by show 1≤10; decide) (by decide)
 have cO:=fun (w:World) (F:Nat→Prop) (y:Na) (h1:(sl y.d y.dk nB2.disk).holds F w) (h2:(sl y.l y.lk nB2.l).holds F w) (h3:(sl y.w y.wk nB2.wait).holds F w) (h4:(sl y.p y.pk nB2.peers).holds F w)=>Xhp w F nB2 y h1 h2 h3 h4 Ya8
 obtain ⟨d1,d2,d3,d4,d5,d6⟩:=Xtd
 obtain ⟨s,hs,hg⟩:=X5j
 have cS:=fun (w:World) (F:Nat→Prop) (y:Na) (h1:(sl y.d y.dk nB3.disk).holds F w) (h2:(sl y.l y.lk nB3.l).holds F w) (h3:(sl y.w y.wk nB3.wait).holds F w)=>Xme w F nB3 y h1 h2 h3 few_nB3.fl few_nB3.fw (by rw [d6]; decide)
 have cM:=fun (w:World) (F:Nat→Prop) (y:Na) (h1:(sl y.d y.dk nB3.disk).holds F w) (h2:(sl y.l y.lk nB3.l).holds F w) (h3:(sl y.w y.wk nB3.wait).holds F w)=>Xb0 w F nB3 y h1 h2 h3 few_nB3.fw
 have cT:=fun (w:World) (F:Nat→Prop) (y:Na) (a:Option Addr) (k:Nat) (h1:(sl y.d y.dk nB3.disk).holds F w) (h2:(sl y.l y.lk nB3.l).holds F w) (h3:(sl y.w y.wk nB3.wait).holds F w) (h4:(sl y.p y.pk nB3.peers).holds F w) (h5:(sl a k nB1.l).holds F w)=>Xjq w F nB3 y nB1.l a k h1 h2 h3 h4 h5 few_nB3 (by show 1≤90; decide) Xtc
 have eC:crashT nB1 (incA 2) 5=nB2:=rfl
 have eT:Xgl nB3 nB1.l=nB3:=X73
 simp only [Ya5] at cU
 simp only [eC] at cC
 simp only [d1] at cO
 simp only [hs] at cS
 simp only [d2] at cM
 simp only [eT] at cT
 clear d1 d2 hs eC eT
 have l1:nB1.l=[l0]:=rfl
 generalize nB1=n1 at cU cC cT l1
 generalize nB2=n2 at cC cO d5
 generalize nB3=n3 at cO cS cM cT d3 d4 d6
 obtain ⟨no1,disk1,room1,ll1,wait1,seq1,up1,peers1,next1,miss1⟩:=n1
 obtain ⟨no2,disk2,room2,l2,wait2,seq2,up2,peers2,next2,miss2⟩:=n2
 obtain ⟨no3,disk3,room3,l3,wait3,seq3,up3,peers3,next3,miss3⟩:=n3
 dsimp only [ndV,ndC] at *
 subst l1 d3 d4 d5 d6
 refine Xaa func19 rfl ntmps19 rfl rfl [] (.start w F) ?_
 refine wz10 ?_
 refine JR.call (v:=fun _:Unit=>.tuple ⟨[ndV (newN 0 1000).1 na0, .bool (newN 0 1000).2]⟩) (B:=fun _=>[]) rfl (fun w1 hw=>X1l w1 _ 0 1000) ?_
 intro _
 rw [Ya4]
 dsimp only [nB0,na0,ndV,ndC,List.length_nil,List.nil_append]
 (repeat (refine wE ?_; intro _)); refine wA ?_
 rename_i b1
 refine Xdz (fun y:Nat × Na=>[(2, .bool true),(3, .pointer (some ⟨y.1,0,none⟩)),(4, .int .i64 0)]) (fun y=>match y with | (b,z)=>.own b 50 [.int .i64 no1, .slice z.d disk1.length z.dk, .int .i64 room1, .slice z.l [l0].length z.lk, .slice z.w wait1.length z.wk, .int .i64 seq1, .bool up1, .slice z.p peers1.length z.pk, .int .i64 next1, .int .i64 miss1]::.st (sl z.d z.dk disk1)::.st (sl z.l z.lk [l0])::.st (sl z.w z.wk wait1)::.st (sl z.p z.pk peers1)::[]) ?_ ?_
 ·refine JC.drawP mixed ?_
  refine JP.tv 0 [.own b1 50 [.int .i64 0, .slice none 0 0, .int .i64 1000, .slice none 0 0, .slice none 0 0, .int .i64 0, .bool true, .slice none 0 0, .int .i64 0, .int .i64 0]] ?_
  refine JP.both 1 6 (by kernel_rfl) rfl rfl rfl rfl (JR.callV rfl (fun w1 hw=>Xtf w1 _ 1) (Wd (nO ?_))) (Wg rfl (fun b3=>Wd (nO ?_)))
  ·refine JP.both 2 6 (by kernel_rfl) rfl rfl rfl rfl (JR.call (v:=fun z:Na=>.tuple ⟨[.agg ⟨[.int .i64 no1, .slice z.d disk1.length z.dk, .int .i64 room1, .slice z.l [l0].length z.lk, .slice z.w wait1.length z.wk, .int .i64 seq1, .bool up1, .slice z.p peers1.length z.pk, .int .i64 next1, .int .i64 miss1]⟩, .int .i64 0]⟩) rfl (fun w1 hw=>cU w1 _) (fun z=>Wd (nO ?_))) (Wg rfl (fun b3=>Wd (nO ?_)))
   ·dsimp only [List.cons_append,List.nil_append]
    refine Xab 3 ?_
    refine Xab 4 ?_
    refine Xab 5 ?_
    refine Xai 6 rfl rfl (Wg rfl (fun b3=>Wd (nO ?_)))
    refine JP.reslot 3 (.pointer (some ⟨b3,0,none⟩)) rfl ?_
    refine Xai 7 rfl rfl (Wi (Wd (nO ?_)))
    refine Xab 8 ?_
    refine JP.nil (by kernel_rfl) ?_
    exact ⟨rfl,(b3,z),iI⟩
   ·refine Xai 2 rfl rfl (JR.call (v:=fun z:Na=>.tuple ⟨[.agg ⟨[.int .i64 no1, .slice z.d disk1.length z.dk, .int .i64 room1, .slice z.l [l0].length z.lk, .slice z.w wait1.length z.wk, .int .i64 seq1, .bool up1, .slice z.p peers1.length z.pk, .int .i64 next1, .int .i64 miss1]⟩, .int .i64 0]⟩) rfl (fun w1 hw=>cU w1 _) (fun z=>Wd (nO ?_)))
    dsimp only [List.cons_append,List.nil_append]
    refine Xab 3 ?_
    refine Xab 4 ?_
    refine Xab 5 ?_
    refine JP.reslot 3 (.pointer (some ⟨b3,0,none⟩)) rfl ?_
    refine Xai 7 rfl rfl (Wi (Wd (nO ?_)))
    refine Xab 8 ?_
    refine JP.nil (by kernel_rfl) ?_
    exact ⟨rfl,(b3,z),iI⟩
  ·refine Xai 1 rfl rfl (JR.callV rfl (fun w1 hw=>Xtf w1 _ 1) (Wd (nO ?_)))
   refine Xai 2 rfl rfl (JR.call (v:=fun z:Na=>.tuple ⟨[.agg ⟨[.int .i64 no1, .slice z.d disk1.length z.dk, .int .i64 room1, .slice z.l [l0].length z.lk, .slice z.w wait1.length z.wk, .int .i64 seq1, .bool up1, .slice z.p peers1.length z.pk, .int .i64 next1, .int .i64 miss1]⟩, .int .i64 0]⟩) rfl (fun w1 hw=>cU w1 _) (fun z=>Wd (nO ?_)))
   dsimp only [List.cons_append,List.nil_append]
   refine Xab 3 ?_
   refine Xab 4 ?_
   refine Xab 5 ?_
   refine JP.reslot 3 (.pointer (some ⟨b3,0,none⟩)) rfl ?_
   refine Xai 7 rfl rfl (Wi (Wd (nO ?_)))
   refine Xab 8 ?_
   refine JP.nil (by kernel_rfl) ?_
   exact ⟨rfl,(b3,z),iI⟩
 rintro ⟨b3,z⟩
 dsimp only
 refine wz14 ?_
 refine Xdz (fun y:Nat × Na=>[(2, .bool true),(3, .pointer (some ⟨b3,0,none⟩)),(4, .int .i64 0),(5, .pointer (some ⟨y.1,0,none⟩))]) (fun y=>match y with | (b,z2)=>.own b 50 [.int .i64 no2, .slice z2.d disk2.length z2.dk, .int .i64 room2, .slice z2.l l2.length z2.lk, .slice z2.w wait2.length z2.wk, .int .i64 seq2, .bool false, .slice z2.p peers2.length z2.pk, .int .i64 next2, .int .i64 miss2]::.st (sl z2.d z2.dk disk2)::.st (sl z2.l z2.lk l2)::.st (sl z2.w z2.wk wait2)::.st (sl z2.p z2.pk peers2)::.own b3 50 [.int .i64 no1, .slice z.d disk1.length z.dk, .int .i64 room1, .slice z.l [l0].length z.lk, .slice z.w wait1.length z.wk, .int .i64 seq1, .bool up1, .slice z.p peers1.length z.pk, .int .i64 next1, .int .i64 miss1]::.st (sl z.d z.dk disk1)::.st (sl z.l z.lk [l0])::.st (sl z.w z.wk wait1)::.st (sl z.p z.pk peers1)::[]) ?_ ?_
 ·refine JC.drawP mixed ?_
  refine JP.tv 0 [.own b3 50 [.int .i64 no1, .slice z.d disk1.length z.dk, .int .i64 room1, .slice z.l [l0].length z.lk, .slice z.w wait1.length z.wk, .int .i64 seq1, .bool up1, .slice z.p peers1.length z.pk, .int .i64 next1, .int .i64 miss1]] ?_
  refine JP.both 1 3 (by kernel_rfl) rfl rfl rfl rfl (JR.callV rfl (fun w1 hw=>Xtf w1 _ 2) (Wd (nO ?_))) (Wg rfl (fun b5=>Wd (nO ?_)))
  ·refine JP.both 2 3 (by kernel_rfl) rfl rfl rfl rfl (JR.call (v:=fun z2:Na=>.agg ⟨[.int .i64 no2, .slice z2.d disk2.length z2.dk, .int .i64 room2, .slice z2.l l2.length z2.lk, .slice z2.w wait2.length z2.wk, .int .i64 seq2, .bool false, .slice z2.p peers2.length z2.pk, .int .i64 next2, .int .i64 miss2]⟩) rfl (fun w1 hw=>cC w1 _ z hw.get hw.get hw.get hw.get) (fun z2=>Wd (nO ?_))) (Wg rfl (fun b5=>Wd (nO ?_)))
   ·dsimp only [List.cons_append,List.nil_append]
    refine Xai 3 rfl rfl (Wg rfl (fun b5=>Wd (nO ?_)))
    refine JP.reslot 5 (.pointer (some ⟨b5,0,none⟩)) rfl ?_
    refine Xai 4 rfl rfl (Wi (Wd (nO ?_)))
    refine JP.nil (by kernel_rfl) ?_
    exact ⟨rfl,(b5,z2),iI⟩
   ·refine Xai 2 rfl rfl (JR.call (v:=fun z2:Na=>.agg ⟨[.int .i64 no2, .slice z2.d disk2.length z2.dk, .int .i64 room2, .slice z2.l l2.length z2.lk, .slice z2.w wait2.length z2.wk, .int .i64 seq2, .bool false, .slice z2.p peers2.length z2.pk, .int .i64 next2, .int .i64 miss2]⟩) rfl (fun w1 hw=>cC w1 _ z hw.get hw.get hw.get hw.get) (fun z2=>Wd (nO ?_)))
    dsimp only [List.cons_append,List.nil_append]
    refine JP.reslot 5 (.pointer (some ⟨b5,0,none⟩)) rfl ?_
    refine Xai 4 rfl rfl (Wi (Wd (nO ?_)))
    refine JP.nil (by kernel_rfl) ?_
    exact ⟨rfl,(b5,z2),iI⟩
  ·refine Xai 1 rfl rfl (JR.callV rfl (fun w1 hw=>Xtf w1 _ 2) (Wd (nO ?_)))
   refine Xai 2 rfl rfl (JR.call (v:=fun z2:Na=>.agg ⟨[.int .i64 no2, .slice z2.d disk2.length z2.dk, .int .i64 room2, .slice z2.l l2.length z2.lk, .slice z2.w wait2.length z2.wk, .int .i64 seq2, .bool false, .slice z2.p peers2.length z2.pk, .int .i64 next2, .int .i64 miss2]⟩) rfl (fun w1 hw=>cC w1 _ z hw.get hw.get hw.get hw.get) (fun z2=>Wd (nO ?_)))
   dsimp only [List.cons_append,List.nil_append]
   refine JP.reslot 5 (.pointer (some ⟨b5,0,none⟩)) rfl ?_
   refine Xai 4 rfl rfl (Wi (Wd (nO ?_)))
   refine JP.nil (by kernel_rfl) ?_
   exact ⟨rfl,(b5,z2),iI⟩
 rintro ⟨b5,z2⟩
 dsimp only
 refine wz9 ?_
 refine JR.call (v:=fun z3:Na=>.tuple ⟨[.agg ⟨[.int .i64 no3, .slice z3.d disk3.length z3.dk, .int .i64 room3, .slice z3.l [l0].length z3.lk, .slice z3.w ([]:List Commit).length z3.wk, .int .i64 seq3, .bool true, .slice z3.p peers3.length z3.pk, .int .i64 next3, .int .i64 miss3]⟩, .int .i64 0]⟩) rfl (fun w1 hw=>cO w1 _ z2 hw.get hw.get hw.get hw.get) ?_
 intro z3
 dsimp only [List.cons_append,List.nil_append]
 (repeat (refine wE ?_; intro _)); refine wA ?_
 rename_i b6
 refine JR.call (v:=fun y:Sa=>.tuple ⟨[.agg ⟨stC s y⟩, .int .i64 0]⟩) rfl (fun w1 hw=>cS w1 _ z3 hw.get hw.get hw.get) ?_
 rintro ⟨⟨ac,kc⟩,⟨ar,kr⟩,⟨ap2,kp2⟩⟩
 dsimp only [stC,stF,List.cons_append,List.nil_append]
 (repeat (refine wE ?_; intro _)); refine wA ?_
 rename_i b8
 skip
 refine JR.callV rfl (fun w1 hw=>X48 w1 _ ac kc s.c keyA hw.get) ?_
 rw [hg]
 refine wz6 ?_
 refine JR.callV rfl (fun w1 hw=>cM w1 _ z3 hw.get hw.get hw.get) ?_
 refine wz1 ?_
 refine JR.call (v:=fun z4:Na=>.agg ⟨[.int .i64 no3, .slice z4.d disk3.length z4.dk, .int .i64 room3, .slice z4.l [l0].length z4.lk, .slice z4.w ([]:List Commit).length z4.wk, .int .i64 seq3, .bool true, .slice z4.p peers3.length z4.pk, .int .i64 next3, .int .i64 miss3]⟩) rfl (fun w1 hw=>cT w1 _ z3 z.l z.lk hw.get hw.get hw.get hw.get hw.get) ?_
 intro z4
 dsimp only [List.cons_append,List.nil_append]
 refine wz13 ?_
 refine Wf (Xk2 (Ya9 _ _ _ _ _ _ _ _ _ _)) rfl ?_
 refine wX ?_
 refine Xac () ?_
 simp [Xad]
theorem X74 {n:Nd} {o:Op_} (h:(updT n o).2≠0):(updT n o).1=nd0:=by
 unfold updT at h ⊢
 split
 ·rfl
 ·rename_i a
  rw [if_neg a] at h
  split
  ·rfl
  ·rename_i b
   rw [if_neg b] at h
   split
   ·rfl
   ·rename_i c
    rw [if_neg c] at h
    exact absurd rfl h
theorem X5k (n:Nd) (o:Op_):(updT n o).1.disk.length≤1048576:=by
 by_cases h:(updT n o).2=0
 ·exact Xy8 h
 ·rw [X74 h]; simp [nd0]
theorem X75 {n:Nd} {o:Op_} {k:Int} (h:n.disk.length≤1048576):(cutU n o k).length≤1048576:=by
 have h2:=X5k n o
 unfold cutU
 split
 ·rw [List.length_take]; omega
 ·exact h
theorem Xze {n:Nd} {o:Op_} {k:Int} (hm:Xbb n=true) (hu:n.up=true):crashT n o k=⟨n.no,cutU n o k,n.room,[],[],0,false,n.peers,n.next,n.miss⟩:=by unfold crashT; rw [hm,hu]; rfl
theorem Xv2 {n:Nd} {o:Op_} {k:Int} (hm:Xbb n=true) (hu:n.up=true) (hn:NdFew n):NdFew (crashT n o k):=by
 rw [Xze hm hu]
 exact ⟨by simp,by simp,X75 hn.disk,by simp,hn.peers⟩
end
end
structure OpenT (P:Program) (α:Type) [Cell α] (t:TypeId):Prop where
 ok:∀ {H:Type} {enc:TypeId × Value→H} {w:World} {sp:Nat→Bool} {held:Bool} {fuel:Nat} {cs:List Value} {x:DataW H × List MemPlace},
  DataW.trod enc P w 0 sp held fuel t cs=some x→(∀ n∈x.1.weights P t,n≤reachBytes)→∃ (u:α) (y:Cell.Ix α),cs=Cell.cells u y∧∀ A∈Cell.facts u y,A.holds (fun _=>True) w
theorem Xjb {H:Type} {P:Program} {e:TypeId} {d:DataW H} {n:Nat} (hn:n∈d.weights P e):∀ {ds:List (DataW H)},d∈ds→n∈DataW.weightsAll P e ds
 | [],h=>by cases h
 | d'::ds,h=>by
  simp only [DataW.weightsAll,List.mem_append]
  rcases List.mem_cons.1 h with rfl | h
  ·exact .inl hn
  ·exact .inr (Xjb hn h)
theorem Xtg (a:Addr):(a.add 0).add 0=a:=by simp [Addr.add]
theorem X5l {w:World} {a:Addr} {n:Nat} {ci:List Value} (h:w.cells? 0 a n=some ci) (j:Nat) (v:Value) (hv:ci[j]? = some v):w.cell? (a.add j)=some v:=by
 unfold World.cells? at h
 rw [if_pos (Nat.zero_le _)] at h
 have hl:=mapM_some_length h
 have hj:j < n:=by
  have:=(List.getElem?_eq_some_iff.1 hv).1
  rw [hl,List.length_range] at this
  exact this
 have:=mapM_some_get h j j (by simp [hj])
 rw [this,hv]
theorem OpenT.slice {P:Program} {α:Type} [Cell α] {t e:TypeId} (hO:OpenT P α e) (ht:P.underlying t=some (.slice e)) (hc:P.cellsOf e=Cell.sz α) (hb:1≤P.bytesOf e)
  {H:Type} {enc:TypeId × Value→H} {w:World} {sp:Nat→Bool} {held:Bool} {fuel:Nat} {cs:List Value} {x:DataW H × List MemPlace}
  (h:DataW.trod enc P w 0 sp held fuel t cs=some x) (hw:∀ n∈x.1.weights P t,n≤reachBytes) :
  ∃ (a:Option Addr) (c:Nat) (L:List α),cs=[.slice a L.length c]∧(sl a c L).holds (fun _=>True) w:=by
 rcases DataW.trod_slice ht h with ⟨rfl,rfl⟩ | ⟨a,len,cap,elems,rest,n,_,rfl,rfl,_,hlc,hcm,hlen,helems,_,_⟩
 ·exact ⟨none,0,[],rfl,Xan⟩
 ·simp only [DataW.weights,ht] at hw
  have hw1:len≤reachBytes:=by
   have:=hw _ (List.mem_cons_self ..)
   simp only [List.length_map] at this
   have h2:(elems.length+rest.length) * 1≤(elems.length+rest.length) * P.bytesOf e:=Nat.mul_le_mul_left _ hb
   omega
  have key:∀ i (hi:i < len),∃ (u:α),∃ (y:Cell.Ix α),(∀ j v,(Cell.cells u y)[j]? = some v→w.cell? ((a.add (i * Cell.sz α)).add j)=some v)∧∀ A∈Cell.facts u y,A.holds (fun _=>True) w:=by
   intro i hi
   have h1:=helems i hi
   have hi':i < elems.length:=by omega
   rw [List.getElem?_eq_getElem hi',hc] at h1
   obtain ⟨ci,hci,hd⟩:=Option.bind_eq_some_iff.1 h1
   obtain ⟨u,y,rfl,hf⟩:=hO.ok hd (fun n hn=>hw n (List.mem_cons_of_mem _ (List.mem_append_left _ (Xjb hn (List.mem_map_of_mem (List.getElem_mem hi'))))))
   exact ⟨u,y,fun j v hv=>X5l hci j v hv,hf⟩
  obtain ⟨f,hf⟩:=Classical.axiomOfChoice (fun i:Fin len=>key i.1 i.2)
  refine ⟨some a,cap,List.ofFn f,by simp,?_⟩
  have hR:reachBytes=140737488351232:=rfl
  refine ⟨by simpa using hlc,hcm,by simp only [List.length_ofFn,lim]; omega,fun hne=>?_⟩
  have h0:0 < len:=by
   have:=List.length_pos_iff.2 hne
   simpa using this
  obtain ⟨y0,hy0,_⟩:=hf ⟨0,h0⟩
  have hpos:0 < (Cell.cells (f ⟨0,h0⟩) y0).length:=by rw [Cell.len]; exact Cell.pos
  have hc0:=hy0 0 _ (List.getElem?_eq_getElem hpos)
  simp only [Nat.zero_mul,Xtg] at hc0
  obtain ⟨b,off,spot⟩:=a
  have hspot:spot=none:=by
   cases spot with
   | none=>rfl
   | some s =>
    unfold World.cell? at hc0
    split at hc0
    ·simp at hc0
    ·cases hc0
  subst hspot
  refine ⟨b,off,rfl,trivial,?_,fun i hi=>?_⟩
  ·rcases Nat.lt_or_ge b w.heap.size with h | h
   ·exact h
   ·unfold World.cell? at hc0
    simp [Array.getElem?_eq_none h] at hc0
  ·have hi':i < len:=by simpa using hi
   obtain ⟨y,hy,hfa⟩:=hf ⟨i,hi'⟩
   refine ⟨y,fun j v hv=>?_,fun A hA=>?_⟩
   ·simp only [List.getElem_ofFn] at hv
    have:=hy j v hv
    rw [Addr.add_mid,Addr.add_mid] at this
    exact this
   ·simp only [List.getElem_ofFn] at hA
    exact hfa A hA
theorem open_byte:OpenT prog UInt8 5:=⟨fun h _=>by
 obtain ⟨n,rfl,_,hw⟩:=DataW.trod_int underlying5 h
 have hb:0≤n∧n≤255:=by simpa [Lit.wf,IntKind.min,IntKind.max,IntKind.signed,IntKind.bits] using hw
 refine ⟨UInt8.ofNat n.toNat,(),?_,by simp [Cell.facts]⟩
 show _=[Xak _]
 simp only [Xak,List.cons.injEq,and_true,Value.int.injEq,true_and]
 rw [UInt8.toNat_ofNat']
 omega⟩
def Xth:Value→UInt8
 | .int _ n=>UInt8.ofNat n.toNat
 | _=>0
set_option maxRecDepth 100000 in
theorem open_id:OpenT prog ID 72:=⟨fun {H enc w sp held fuel cs x} h _=>by
 have hcell:prog.cellsOf 5=1:=by kernel_rfl
 have hcell2:prog.cellsOf 72=32:=by kernel_rfl
 obtain ⟨xs,m,rfl,rfl,hl,hlx,hx⟩:=DataW.trod_array underlying72 h
 rw [hcell2] at hl
 have key:∀ i (hi:i < cs.length),cs[i]=Xak (Xth cs[i]):=by
  intro i hi
  have h1:=hx i (by omega)
  rw [hcell,Nat.mul_one,List.getElem?_eq_getElem (by omega)] at h1
  have h2:(cs.drop i).take 1=[cs[i]]:=by
   rw [List.drop_eq_getElem_cons hi]; rfl
  rw [h2] at h1
  obtain ⟨n,hn,_,hw⟩:=DataW.trod_int underlying5 h1
  injection hn with hn
  have hb:0≤n∧n≤255:=by simpa [Lit.wf,IntKind.min,IntKind.max,IntKind.signed,IntKind.bits] using hw
  rw [hn]
  simp only [Xth,Xak,Value.int.injEq,true_and]
  rw [UInt8.toNat_ofNat']
  omega
 refine ⟨⟨cs.map Xth,by rw [List.length_map]; exact hl⟩,(),?_,by simp [Cell.facts]⟩
 show cs=(cs.map Xth).map Xak
 apply List.ext_getElem
 ·simp
 ·intro i h1 h2
  simp only [List.getElem_map]
  exact key i h1⟩
set_option maxRecDepth 100000 in
theorem open_commit:OpenT prog Commit 31:=⟨fun {H enc w sp held fuel cs x} h hw=>by
 have c24:prog.cellsOf 24=2:=by kernel_rfl
 have c27:prog.cellsOf 26=4:=by kernel_rfl
 have c29:prog.cellsOf 31=8:=by kernel_rfl
 have c25:prog.cellsOf 29=1:=by kernel_rfl
 have c3:prog.cellsOf 3=1:=by kernel_rfl
 have c9:prog.cellsOf 9=1:=by kernel_rfl
 obtain ⟨xs,m,rfl,rfl,hl,hlx,hx⟩:=DataW.trod_struct underlying31 h
 rw [c29] at hl
 match cs,hl with
 | [v0,v1,v2,v3,v4,v5,v6,v7],_ =>
 match xs,hlx with
 | [x0,x1,x2,x3],_ =>
 have h0:=hx 0 _ rfl
 have h1:=hx 1 _ rfl
 have h2:=hx 2 _ rfl
 have h3:=hx 3 _ rfl
 simp only [List.getElem_toArray,List.getElem_cons_zero,List.getElem_cons_succ,c24,c3,c25,c27,List.drop_zero,List.drop_succ_cons,List.take_succ_cons,List.take_zero,List.getElem?_cons_zero,List.getElem?_cons_succ] at h0 h1 h2 h3
 obtain ⟨ys,m',rfl,rfl,_,hly,hy⟩:=DataW.trod_struct underlying24 h0
 match ys,hly with
 | [y0,y1],_ =>
 have e0:=hy 0 _ rfl
 have e1:=hy 1 _ rfl
 simp only [List.getElem_toArray,List.getElem_cons_zero,List.getElem_cons_succ,c3,List.drop_zero,List.drop_succ_cons,List.take_succ_cons,List.take_zero,List.getElem?_cons_zero,List.getElem?_cons_succ] at e0 e1
 obtain ⟨n0,q0,_,_⟩:=DataW.trod_int underlying3 e0
 obtain ⟨n1,q1,_,_⟩:=DataW.trod_int underlying3 e1
 obtain ⟨n2,q2,_,_⟩:=DataW.trod_int underlying3 h1
 obtain ⟨zs,m2,hm2,rfl,_,hlz,hz⟩:=DataW.trod_struct underlying26 h3
 match zs,hlz with
 | [z0,z1,z2,z3],_ =>
 have g0:=hz 0 _ rfl
 have g1:=hz 1 _ rfl
 have g2:=hz 2 _ rfl
 have g3:=hz 3 _ rfl
 simp only [List.getElem_toArray,List.getElem_cons_zero,List.getElem_cons_succ,c3,c9,List.drop_zero,List.drop_succ_cons,List.take_succ_cons,List.take_zero,List.getElem?_cons_zero,List.getElem?_cons_succ] at g0 g1 g2 g3
 obtain ⟨k0,r0,_,_⟩:=DataW.trod_int underlying3 g0
 obtain ⟨s1,r1,r1x,_⟩:=DataW.trod_string underlying9 g1
 obtain ⟨s2,r2,r2x,_⟩:=DataW.trod_string underlying9 g2
 obtain ⟨k3,r3,_,_⟩:=DataW.trod_int underlying3 g3
 simp only [DataW.weights,underlying31,List.map_cons,List.map_nil,DataW.weightsEach,List.append_nil,List.mem_append,List.map_toArray] at hw
 obtain ⟨pa,pc,L,q3,hsl⟩:=open_id.slice underlying29 (by kernel_rfl) (by rw [show prog.bytesOf 72=32 by kernel_rfl]; decide) h2 (fun n hn=>hw n (by simp [hn]))
 injection q0 with q0
 injection q1 with q1
 injection q2 with q2
 injection q3 with q3
 injection r0 with r0
 injection r1 with r1
 injection r2 with r2
 injection r3 with r3
 subst q0 q1 q2 q3 r0 r1 r2 r3
 exact ⟨⟨⟨n0,n1⟩,n2,L,⟨k0,s1,s2,k3⟩⟩,(pa,pc),rfl,fun A hA=>by simp only [Cell.facts,List.mem_singleton] at hA; subst hA; exact hsl⟩⟩
end Ab
end Go.Proofs.YtllddbbldmoibaaGreat
namespace Go.Proofs.YtllddbbldmoibaaGreat
open Go Go.ChangeShapes Go.WideShapes Go.ChangeAt Go.RowKit
set_option linter.unusedVariables false
theorem Yba:ownKnob Tryz.prog.godebug=none:=by kernel_rfl
theorem laid:laidOutB Tryz.prog=true:=by kernel_rfl
theorem Yb4 {P:Program} {H:Type} {enc:TypeId × Value→H} {W:World} {α:Type} [Ab.Cell α] {t e:TypeId} (hO:Ab.OpenT P α e) (ht:P.underlying t=some (.slice e)) (hc:P.cellsOf e=Ab.Cell.sz α) (hb:1≤P.bytesOf e)
    {r:Reach} {base:Nat} {v:Value} {d:DataW H} {p:List MemPlace} (hv:Value.okWide P W r base t v) (h:DataW.Trod enc P W 0 (fun _=>true) true t v d p) (hw:∀ n∈d.weights P t,n≤reachBytes) :
    ∃ (a:Option Addr) (c:Nat) (L:List α),v = .slice a L.length c∧(Ab.sl a c L).holds (fun _=>True) W:=by
  obtain ⟨a,len,cap,rfl⟩:=okWide_slice ht hv
  obtain ⟨fuel,hf⟩:=h
  obtain ⟨a',c',L,hcs,hsl⟩:=hO.slice ht hc hb hf hw
  simp [Value.cells] at hcs
  obtain ⟨rfl,rfl,rfl⟩:=hcs
  exact ⟨_,_,L,rfl,hsl⟩
theorem Xv3:Tryz.prog.bytesOf 31=96:=by kernel_rfl
section
variable {H:Type} {enc:TypeId × Value→H} {W:World} {r:Reach} {base:Nat} {v:Value} {d:DataW H} {p:List MemPlace}
set_option maxRecDepth 100000 in
theorem Xpo (hv:Value.okWide Tryz.prog W r base 22 v) (h:DataW.Trod enc Tryz.prog W 0 (fun _=>true) true 22 v d p) (hw:∀ n∈d.weights Tryz.prog 22,n≤reachBytes) :
    ∃ (a:Option Addr) (c:Nat) (L:List Ab.Commit),v = .slice a L.length c∧(Ab.sl a c L).holds (fun _=>True) W :=
  Yb4 Ab.open_commit Tryz.underlying22 (by kernel_rfl) (by rw [Xv3]; decide) hv h hw
set_option maxRecDepth 100000 in
theorem X5m (hv:Value.okWide Tryz.prog W r base 26 v) (h:DataW.Trod enc Tryz.prog W 0 (fun _=>true) true 26 v d p):∃ o:Ab.Op_,v=Ab.opV o:=by
  have c27:Tryz.prog.cellsOf 26=4:=by kernel_rfl
  have c3:Tryz.prog.cellsOf 3=1:=by kernel_rfl
  have c9:Tryz.prog.cellsOf 9=1:=by kernel_rfl
  unfold Value.okWide at hv
  rw [Tryz.underlying26] at hv
  obtain ⟨⟨cs⟩,rfl,_,_⟩:=hv
  obtain ⟨fuel,hf⟩:=h
  obtain ⟨ys,m',_,_,hl,hly,hy⟩:=DataW.trod_struct Tryz.underlying26 hf
  rw [c27] at hl
  match cs,hl,ys,hly with
  | [v0,v1,v2,v3],_,[y0,y1,y2,y3],_ =>
  have g0:=hy 0 _ rfl
  have g1:=hy 1 _ rfl
  have g2:=hy 2 _ rfl
  have g3:=hy 3 _ rfl
  simp only [Value.cells,List.getElem_toArray,List.getElem_cons_zero,List.getElem_cons_succ,c3,c9,List.drop_zero,List.drop_succ_cons,List.take_succ_cons,List.take_zero,List.getElem?_cons_zero,List.getElem?_cons_succ] at g0 g1 g2 g3
  obtain ⟨k0,r0,_,_⟩:=DataW.trod_int Tryz.underlying3 g0
  obtain ⟨s1,r1,_,_⟩:=DataW.trod_string Tryz.underlying9 g1
  obtain ⟨s2,r2,_,_⟩:=DataW.trod_string Tryz.underlying9 g2
  obtain ⟨k3,r3,_,_⟩:=DataW.trod_int Tryz.underlying3 g3
  injection r0 with r0
  injection r1 with r1
  injection r2 with r2
  injection r3 with r3
  subst r0 r1 r2 r3
  exact ⟨⟨k0,s1,s2,k3⟩,rfl⟩
end
section
variable {H:Type} {enc:TypeId × Value→H} {P:Program} {w:World} {base:Nat} {spare:Nat→Bool} {held:Bool}
end
end Go.Proofs.YtllddbbldmoibaaGreat
namespace Go.Proofs.YtllddbbldmoibaaGreat
namespace Ab
open Go Go.RowKit
set_option linter.unusedVariables false
set_option linter.unusedSimpArgs false
instance:Cell Nd where
  Ix:=Na
  sz:=10
  cells n y:=ndC n y
  facts n y:=[sl y.d y.dk n.disk,sl y.l y.lk n.l,sl y.w y.wk n.wait,sl y.p y.pk n.peers]
  len _ _:=rfl
  one n y:=by
    intro v hv
    simp only [List.mem_cons,List.not_mem_nil,or_false] at hv
    rcases hv with rfl | rfl | rfl | rfl | rfl | rfl | rfl | rfl | rfl | rfl <;> rfl
  pos:=by decide
instance:Cell Mg where
  Ix:=Ma
  sz:=3
  cells n y:=mgC n y
  facts n y:=[sl y.i y.ik n.ids,sl y.c y.ck n.commits]
  len _ _:=rfl
  one n y:=by
    intro v hv
    simp only [List.mem_cons,List.not_mem_nil,or_false] at hv
    rcases hv with rfl | rfl | rfl <;> rfl
  pos:=by decide
theorem open_int:OpenT Tryz.prog Int 3:=⟨fun h _=>by
  obtain ⟨n,rfl,_,_⟩:=DataW.trod_int Tryz.underlying3 h
  exact ⟨n,(),rfl,by simp [Cell.facts]⟩⟩
set_option maxRecDepth 100000 in
theorem open_node:OpenT Tryz.prog Nd 50:=⟨fun {H enc w sp held fuel cs x} h hw=>by
  have cT:Tryz.prog.cellsOf 50=10:=by kernel_rfl
  have c_bool:Tryz.prog.cellsOf 4=1:=by kernel_rfl
  have c_bytes:Tryz.prog.cellsOf 47=1:=by kernel_rfl
  have c_commits:Tryz.prog.cellsOf 22=1:=by kernel_rfl
  have c_int:Tryz.prog.cellsOf 3=1:=by kernel_rfl
  have c_ints:Tryz.prog.cellsOf 48=1:=by kernel_rfl
  obtain ⟨xs,m,rfl,rfl,hl,hlx,hx⟩:=DataW.trod_struct Tryz.underlying50 h
  rw [cT] at hl
  match cs,hl with
  | [v0,v1,v2,v3,v4,v5,v6,v7,v8,v9],_ =>
  match xs,hlx with
  | [x0,x1,x2,x3,x4,x5,x6,x7,x8,x9],_ =>
  have h0:=hx 0 _ rfl
  have h1:=hx 1 _ rfl
  have h2:=hx 2 _ rfl
  have h3:=hx 3 _ rfl
  have h4:=hx 4 _ rfl
  have h5:=hx 5 _ rfl
  have h6:=hx 6 _ rfl
  have h7:=hx 7 _ rfl
  have h8:=hx 8 _ rfl
  have h9:=hx 9 _ rfl
  simp only [List.getElem_toArray,List.getElem_cons_zero,List.getElem_cons_succ,c_bool,c_bytes,c_commits,c_int,c_ints,List.drop_zero,List.drop_succ_cons,List.take_succ_cons,List.take_zero,List.getElem?_cons_zero,List.getElem?_cons_succ] at h0 h1 h2 h3 h4 h5 h6 h7 h8 h9
  simp only [DataW.weights,Tryz.underlying50,List.map_cons,List.map_nil,DataW.weightsEach,List.append_nil,List.mem_append,List.map_toArray] at hw
  obtain ⟨n0,q0,_,_⟩:=DataW.trod_int Tryz.underlying3 h0
  obtain ⟨a1,k1,L1,q1,s1⟩:=open_byte.slice Tryz.underlying47 (by kernel_rfl) (by decide +kernel) h1 (fun n hn=>hw n (by simp [hn]))
  obtain ⟨n2,q2,_,_⟩:=DataW.trod_int Tryz.underlying3 h2
  obtain ⟨a3,k3,L3,q3,s3⟩:=open_commit.slice Tryz.underlying22 (by kernel_rfl) (by rw [show Tryz.prog.bytesOf 31=96 by kernel_rfl]; decide) h3 (fun n hn=>hw n (by simp [hn]))
  obtain ⟨a4,k4,L4,q4,s4⟩:=open_commit.slice Tryz.underlying22 (by kernel_rfl) (by rw [show Tryz.prog.bytesOf 31=96 by kernel_rfl]; decide) h4 (fun n hn=>hw n (by simp [hn]))
  obtain ⟨n5,q5,_,_⟩:=DataW.trod_int Tryz.underlying3 h5
  obtain ⟨n6,q6,_,_⟩:=DataW.trod_bool Tryz.underlying4 h6
  obtain ⟨a7,k7,L7,q7,s7⟩:=open_int.slice Tryz.underlying48 (by kernel_rfl) (by decide +kernel) h7 (fun n hn=>hw n (by simp [hn]))
  obtain ⟨n8,q8,_,_⟩:=DataW.trod_int Tryz.underlying3 h8
  obtain ⟨n9,q9,_,_⟩:=DataW.trod_int Tryz.underlying3 h9
  injection q0 with q0
  injection q1 with q1
  injection q2 with q2
  injection q3 with q3
  injection q4 with q4
  injection q5 with q5
  injection q6 with q6
  injection q7 with q7
  injection q8 with q8
  injection q9 with q9
  subst q0 q1 q2 q3 q4 q5 q6 q7 q8 q9
  refine ⟨⟨n0,L1,n2,L3,L4,n5,n6,L7,n8,n9⟩,⟨a1,k1,a3,k3,a4,k4,a7,k7⟩,rfl,fun A hA=>?_⟩
  simp only [Cell.facts,List.mem_cons,List.not_mem_nil,or_false] at hA
  rcases hA with rfl | rfl | rfl | rfl
  · exact s1
  · exact s3
  · exact s4
  · exact s7⟩
end Ab
open Go.ChangeShapes Go.WideShapes Go.ChangeAt
section
variable {H:Type} {enc:TypeId × Value→H} {W:World} {r:Reach} {base:Nat} {v:Value} {d:DataW H} {p:List MemPlace}
set_option maxRecDepth 100000 in
theorem Xti (hv:Value.okWide Tryz.prog W r base 50 v) (h:DataW.Trod enc Tryz.prog W 0 (fun _=>true) true 50 v d p) (hw:∀ n∈d.weights Tryz.prog 50,n≤reachBytes) :
    ∃ (y:Ab.Na) (n:Ab.Nd),v=Ab.ndV n y∧(Ab.sl y.d y.dk n.disk).holds (fun _=>True) W∧(Ab.sl y.l y.lk n.l).holds (fun _=>True) W∧(Ab.sl y.w y.wk n.wait).holds (fun _=>True) W∧(Ab.sl y.p y.pk n.peers).holds (fun _=>True) W:=by
  unfold Value.okWide at hv
  rw [Tryz.underlying50] at hv
  obtain ⟨cs,rfl,_,_⟩:=hv
  obtain ⟨fuel,hf⟩:=h
  obtain ⟨u,y,hcs,hfa⟩:=Ab.open_node.ok hf hw
  have hcs':cs.toList=Ab.ndC u y:=hcs
  refine ⟨y,u,?_,hfa _ (by simp [Ab.Cell.facts]),hfa _ (by simp [Ab.Cell.facts]),hfa _ (by simp [Ab.Cell.facts]),hfa _ (by simp [Ab.Cell.facts])⟩
  show Value.agg cs = .agg ⟨Ab.ndC u y⟩
  rw [← hcs']
end
end Go.Proofs.YtllddbbldmoibaaGreat
