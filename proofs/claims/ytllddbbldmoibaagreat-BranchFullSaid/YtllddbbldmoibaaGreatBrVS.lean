/- The statement BranchFullSaid: for every input BranchFull returns true and leaves its arguments as they were. -/
import Derived.Test.YtllddbbldmoibaaGreatBrV7
import Derived.Test.YtllddbbldmoibaaGreatBrV2
namespace Go.Proofs.YtllddbbldmoibaaGreat
namespace Ab
open Go Go.RowKit
set_option linter.unusedVariables false
set_option linter.unusedSimpArgs false
set_option synthInstance.maxSize 4000
set_option synthInstance.maxHeartbeats 400000
attribute [local irreducible] JC JO JR JQ andThen inBlock OpV Gives Xah JM JS
attribute [local irreducible] Xas
theorem Xre {b:List UInt8} {c:Commit}:(storeT b (b.length:Int) c).2≠0:=by
  intro h
  obtain ⟨h1,h2,h3⟩:=Xfx h
  rw [h2,List.length_append] at h1
  have:=Xv0 (Xae c)
  omega
theorem X5n {n:Nd} {o:Op_} (h:n.room=(n.disk.length:Int)):(updN n o).2≠0:=by
  intro h0
  obtain ⟨c,_,_,h4,_⟩:=Xs7 h0
  rw [h] at h4
  exact Xre h4
theorem X5o {n:Nd} {o:Op_} (h:n.room=(n.disk.length:Int)):(updT n o).2≠0:=by
  intro h0
  obtain ⟨_,_,_,h4,_⟩:=Xs8 h0
  exact X5n h h4
structure Kept (n m:Nd):Prop where
  no:m.no=n.no
  disk:m.disk=n.disk
  room:m.room=n.room
  l:m.l=n.l
  seq:m.seq=n.seq
  up:m.up=n.up
theorem Kept.rfl' (n:Nd):Kept n n:=⟨rfl,rfl,rfl,rfl,rfl,rfl⟩
theorem Kept.trans {a b c:Nd} (h:Kept a b) (k:Kept b c):Kept a c:=⟨k.no.trans h.no,k.disk.trans h.disk,k.room.trans h.room,k.l.trans h.l,k.seq.trans h.seq,k.up.trans h.up⟩
theorem X78 {n:Nd} {c:Commit} (h:n.room=(n.disk.length:Int)):Xho n c=n:=by
  unfold Xho
  rw [if_neg]
  rw [h]
  exact Xre
theorem Xv4 {n:Nd} {c:Commit} {rest:List Commit} (h:n.room=(n.disk.length:Int)):Xgj n c rest={ n with wait:=rest }:=by
  unfold Xgj
  split
  · exact X78 (n:={ n with wait:=rest }) h
  · rfl
theorem Xmh:∀ (f:Nat) {n:Nd},n.room=(n.disk.length:Int)→Kept n (Xgk f n)∧(∀ x∈(Xgk f n).wait,x∈n.wait)∧(Xgk f n).wait.length≤n.wait.length
  | 0,n,_=>⟨Kept.rfl' n,fun _ h=>h,Nat.le_refl _⟩
  | f+1,n,h=>by
    obtain ⟨⟨rc,rl,rb⟩,hR⟩:∃ R,Xbe n.wait (idsP n.l)=R:=⟨_,rfl⟩
    unfold Xgk
    rw [hR]
    cases rb with
    | false=>exact ⟨Kept.rfl' n,fun _ h=>h,Nat.le_refl _⟩
    | true =>
      obtain ⟨_,h2,h3,_⟩:=Xkr hR
      dsimp only
      rw [if_pos rfl,Xv4 h]
      obtain ⟨a,b,c⟩:=Xmh f (n:={ n with wait:=rl }) h
      exact ⟨(show Kept n { n with wait:=rl } from ⟨rfl,rfl,rfl,rfl,rfl,rfl⟩).trans a,fun x hx=>h3 x (b x hx),by dsimp only at c; omega⟩
theorem X79 {L:List Commit} {c:Commit} (h:L.length≤8):(Xbt L c).length≤8:=by
  unfold Xbt
  split
  · exact h
  · rw [List.length_drop,List.length_append,List.length_singleton]; omega
structure WaitOk (n:Nd):Prop where
  room:n.room=(n.disk.length:Int)
  few:n.wait.length≤8
  fresh:∀ x∈n.wait,Xcn n.no n.seq (idsP n.l) x=true
theorem X1q {n:Nd} {c:Commit} (h:WaitOk n):Kept n (Xd7 n c)∧WaitOk (Xd7 n c)∧∀ x∈(Xd7 n c).wait,x∈n.wait∨x=c:=by
  unfold Xd7
  by_cases hf:Xcn n.no n.seq (idsP n.l) c=true
  · rw [if_pos hf]
    obtain ⟨a,b,d⟩:=Xmh { n with wait:=Xbt n.wait c }.wait.length (n:={ n with wait:=Xbt n.wait c }) h.room
    have hK:Kept n (Xd4 { n with wait:=Xbt n.wait c }):=(show Kept n { n with wait:=Xbt n.wait c } from ⟨rfl,rfl,rfl,rfl,rfl,rfl⟩).trans a
    have hin:∀ x∈(Xd4 { n with wait:=Xbt n.wait c }).wait,x∈n.wait∨x=c:=fun x hx=>Xpj (b x hx)
    refine ⟨hK,⟨by rw [hK.room,hK.disk]; exact h.room,Nat.le_trans d (X79 h.few),fun x hx=>?_⟩,hin⟩
    rw [hK.no,hK.seq,hK.l]
    rcases hin x hx with g | rfl
    · exact h.fresh x g
    · exact hf
  · rw [if_neg hf]
    exact ⟨Kept.rfl' n,h,fun _ g=>.inl g⟩
theorem Xrf:∀ (L:List Commit) {n:Nd},WaitOk n→Kept n (L.foldl Xd7 n)∧WaitOk (L.foldl Xd7 n)∧∀ x∈(L.foldl Xd7 n).wait,x∈n.wait∨x∈L
  | [],n,h=>⟨Kept.rfl' n,h,fun _ g=>.inl g⟩
  | c::L,n,h=>by
    obtain ⟨a,b,d⟩:=X1q (c:=c) h
    obtain ⟨a2,b2,d2⟩:=Xrf L b
    refine ⟨a.trans a2,b2,fun x hx=>?_⟩
    rcases d2 x hx with g | g
    · rcases d x g with g | rfl
      · exact .inl g
      · exact .inr (List.mem_cons_self ..)
    · exact .inr (List.mem_cons_of_mem _ g)
def Xb9 (n:Nd):Nd:={ n with room:=(n.disk.length:Int) }
theorem Xtj {n:Nd} (hm:Xbb n=true) (hu:n.up=true):Xbb (Xb9 n)=true∧WaitOk (Xb9 n):=by
  obtain ⟨h1,h2,h3⟩:=Xc2 hm
  have hf:Xgi (Xb9 n).no (Xb9 n).room=true:=by
    simp only [Xgi,Bool.and_eq_true,decide_eq_true_eq] at h3 ⊢
    show (((0≤n.no∧n.no < 8)∧0≤(n.disk.length:Int))∧(n.disk.length:Int)≤1048576)
    omega
  have hr:¬ (Xb9 n).room < ((Xb9 n).disk.length:Int):=by show ¬ (n.disk.length:Int) < n.disk.length; omega
  rw [Xkq h3 (by omega) hu] at hm
  refine ⟨by rw [Xkq hf hr hu]; exact hm,⟨rfl,?_,?_⟩⟩
  · simp only [Bool.and_eq_true,decide_eq_true_eq] at hm
    exact hm.1.2
  · simp only [Bool.and_eq_true,decide_eq_true_eq,List.all_eq_true] at hm
    exact hm.2
theorem X8a {n:Nd} (hm:Xbb n=true) (hu:n.up=true) (hw:WaitOk n) (L:List Commit):Kept n (Xgl n L)∧Xbb (Xgl n L)=true∧∀ x∈(Xgl n L).wait,x∈n.wait∨x∈L:=by
  have e:Xgl n L=L.foldl Xd7 n:=by unfold Xgl; rw [hm,hu]; rfl
  obtain ⟨a,b,d⟩:=Xrf L hw
  rw [e]
  obtain ⟨h1,h2,h3⟩:=Xc2 hm
  refine ⟨a,?_,d⟩
  rw [Xkq h3 (by omega) hu] at hm
  rw [Xkq (by rw [a.no,a.room]; exact h3) (by rw [a.room,a.disk]; omega) (by rw [a.up]; exact hu),a.disk,a.l,a.seq,a.no]
  simp only [Bool.and_eq_true,decide_eq_true_eq] at hm
  have h4:=b.fresh
  rw [a.no,a.seq,a.l] at h4
  simp only [Bool.and_eq_true,decide_eq_true_eq,List.all_eq_true]
  exact ⟨⟨hm.1.1,b.few⟩,h4⟩
theorem law_full (w:World) (F:Nat→Prop) (y:Na) (a:Option Addr) (k:Nat) (n:Nd) (o:Op_) (L:List Commit) (h1:(sl y.d y.dk n.disk).holds F w) (h2:(sl y.l y.lk n.l).holds F w) (h3:(sl y.w y.wk n.wait).holds F w) (h4:(sl y.p y.pk n.peers).holds F w) (h5:(sl a k L).holds F w) :
    GivesV Tryz.prog 8 [ndV n y,opV o, .slice a L.length k] w F (.bool true):=by
  have hdl:n.disk.length < 9223372036854775807:=by have:=h1.2.2.1; simp only [lim] at this; omega
  have hpl:n.peers.length < 9223372036854775807:=by have:=h4.2.2.1; simp only [lim] at this; omega
  have hst:=(Hold.start4 h1 h2 h3 h4).add (A:=sl a k L) (Asn.mono _ _ _ _ (fun k hk=>⟨.inl hk,by simp [free,Fact.owns]⟩) h5)
  have hfs:=fun h=>Xjr (n:=n) h
  have hsz:=fun h=>Xlv (o:=o) h
  have hfc:NdSmall n→NdFew (Xb9 n):=fun hs=>⟨hs.few.fl,hs.few.fw,hs.few.disk,hs.few.len,hs.few.peers⟩
  have cU0:=fun (hs:NdSmall n) (hot:o.key.size < 4611686018427387904∧o.elem.size < 4611686018427387904) (w:World) (F:Nat→Prop) (y:Na) (h1:(sl y.d y.dk n.disk).holds F w) (h2:(sl y.l y.lk n.l).holds F w) (h3:(sl y.w y.wk n.wait).holds F w) (h4:(sl y.p y.pk n.peers).holds F w)=>Xd5 w F (Xb9 n) y o h1 h2 h3 h4 (hfc hs) (show n.l.length≤10 by have:=hs.l; omega) hot
  have eU:(updT (Xb9 n) o).2≠0:=X5o rfl
  have cT0:=fun (hs:NdSmall n) (hcl:fewL L 6=true) (w:World) (F:Nat→Prop) (y:Na) (h1:(sl y.d y.dk n.disk).holds F w) (h2:(sl y.l y.lk n.l).holds F w) (h3:(sl y.w y.wk n.wait).holds F w) (h4:(sl y.p y.pk n.peers).holds F w) (h5:(sl a k L).holds F w)=>Xjq w F (Xb9 n) y L a k h1 h2 h3 h4 h5 (hfc hs) (by have:=(Xhk hcl).1; omega) (Xhk hcl).2
  have cM1:=fun (hs:NdSmall n) (w:World) (F:Nat→Prop) (y:Na) (h1:(sl y.d y.dk n.disk).holds F w) (h2:(sl y.l y.lk n.l).holds F w) (h3:(sl y.w y.wk n.wait).holds F w)=>Xb0 w F (Xb9 n) y h1 h2 h3 hs.few.fw
  have hF:=fun (hm:Xbb n=true) (hu:n.up=true)=>(Xtj hm hu).1
  have hT:=fun (hm:Xbb n=true) (hu:n.up=true)=>X8a (Xtj hm hu).1 (show (Xb9 n).up=true from hu) (Xtj hm hu).2 L
  have cM2:=fun (hx:∀ x∈(Xgl (Xb9 n) L).wait,x∈(Xb9 n).wait∨x∈L) (hs:NdSmall n) (hcl:fewL L 6=true) (w:World) (F:Nat→Prop) (y:Na) (h1:(sl y.d y.dk (Xgl (Xb9 n) L).disk).holds F w) (h2:(sl y.l y.lk (Xgl (Xb9 n) L).l).holds F w) (h3:(sl y.w y.wk (Xgl (Xb9 n) L).wait).holds F w)=>Xb0 w F (Xgl (Xb9 n) L) y h1 h2 h3 (fun x g=>(hx x g).elim (fun g=>hs.few.fw x g) (fun g=>(Xhk hcl).2 x g))
  generalize Xgl (Xb9 n) L=T at cT0 cM2 hT
  generalize updT (Xb9 n) o=M at cU0 eU
  obtain ⟨no,disk,room,l,wait,seq,up,peers,next,miss⟩:=n
  obtain ⟨no3,disk3,room3,l3,wait3,seq3,up3,peers3,next3,miss3⟩:=T
  obtain ⟨⟨no4,disk4,room4,l4,wait4,seq4,up4,peers4,next4,miss4⟩,e4⟩:=M
  obtain ⟨ad,kd,al,kl,aw,kw,ap,kp⟩:=y
  obtain ⟨kind,key,elem,m⟩:=o
  obtain ⟨ac,kc,cs,rfl,rfl,rfl⟩:∃ a1 k1 l1,a1=a∧k1=k∧l1=L:=⟨_,_,_,rfl,rfl,rfl⟩
  dsimp only [ndV,ndC,opV,Xb9] at *
  refine Xaa Tryz.func8 rfl Tryz.ntmps8 rfl rfl _ hst ?_
  (repeat (refine wE ?_; intro _)); refine wA ?_
  rename_i b3 b4
  refine JR.callV rfl (fun w1 hw=>Xim w1 _) ?_
  refine wz9 ?_
  refine JR.callV rfl (fun w1 hw=>Xte w1 _ ⟨no,disk,room,l,wait,seq,up,peers,next,miss⟩ ⟨ad,kd,al,kl,aw,kw,ap,kp⟩ hw.get hw.get hdl hpl) ?_
  refine wz10 ?_
  refine JR.callV rfl (fun w1 hw=>Xsj w1 _ ac kc cs 6 hw.get) ?_
  refine wz9 ?_
  refine JR.callV rfl (fun w1 hw=>Xpn w1 _ ⟨kind,key,elem,m⟩) ?_
  cases hfew:Xp6 ⟨no,disk,room,l,wait,seq,up,peers,next,miss⟩ with
  | false =>
    refine wz8 ?_
    exact Xac () rfl
  | true =>
  cases hcl:fewL cs 6 with
  | false =>
    refine wz8 ?_
    exact Xac () rfl
  | true =>
  cases hsh:Xmg ⟨kind,key,elem,m⟩ with
  | false =>
    refine wz8 ?_
    exact Xac () rfl
  | true =>
  have hs:=hfs hfew
  have hot:=hsz hsh
  refine wz1 ?_
  refine JR.callV rfl (fun w1 hw=>Xb0 w1 _ ⟨no,disk,room,l,wait,seq,up,peers,next,miss⟩ ⟨ad,kd,al,kl,aw,kw,ap,kp⟩ hw.get hw.get hw.get hs.few.fw) ?_
  cases hm:Xbb ⟨no,disk,room,l,wait,seq,up,peers,next,miss⟩ with
  | false =>
    refine wz8 ?_
    exact Xac () rfl
  | true =>
  cases up with
  | false =>
    refine wz1 ?_
    exact Xac () rfl
  | true =>
  have hF:=hF hm rfl
  obtain ⟨g1,g2,g3⟩:=hT hm rfl
  have cM2:=cM2 g3 hs hcl
  have cM1:=cM1 hs
  have cU:=cU0 hs hot
  have cT:=cT0 hs hcl
  rw [g2] at cM2
  rw [hF] at cM1
  have k1:disk=disk3:=g1.disk.symm
  have k2:l=l3:=g1.l.symm
  have k3:seq=seq3:=g1.seq.symm
  clear hT g1 g2 g3 hF hfs hsz hfc cU0 cT0
  subst k1 k2 k3
  refine wX ?_
  refine JR.call (v:=fun z4:Na=>.tuple ⟨[.agg ⟨[.int .i64 no4, .slice z4.d disk4.length z4.dk, .int .i64 room4, .slice z4.l l4.length z4.lk, .slice z4.w wait4.length z4.wk, .int .i64 seq4, .bool up4, .slice z4.p peers4.length z4.pk, .int .i64 next4, .int .i64 miss4]⟩, .int .i64 e4]⟩) rfl (fun w1 hw=>cU w1 _ ⟨ad,kd,al,kl,aw,kw,ap,kp⟩ hw.get hw.get hw.get hw.get) ?_
  intro z4
  dsimp only [List.cons_append,List.nil_append]
  (repeat (refine wF ?_; intro _)); refine wX ?_
  refine JR.call (v:=fun z3:Na=>.agg ⟨[.int .i64 no3, .slice z3.d disk.length z3.dk, .int .i64 room3, .slice z3.l l.length z3.lk, .slice z3.w wait3.length z3.wk, .int .i64 seq, .bool up3, .slice z3.p peers3.length z3.pk, .int .i64 next3, .int .i64 miss3]⟩) rfl (fun w1 hw=>cT w1 _ ⟨ad,kd,al,kl,aw,kw,ap,kp⟩ hw.get hw.get hw.get hw.get hw.get) ?_
  intro z3
  dsimp only [List.cons_append,List.nil_append]
  (repeat (refine wF ?_; intro _)); refine wX ?_
  refine JR.callV rfl (fun w1 hw=>cM1 w1 _ ⟨ad,kd,al,kl,aw,kw,ap,kp⟩ hw.get hw.get hw.get) ?_
  clear cU cT cM1
  refine wX ?_
  refine JO.reslot 65 (.bool true) (by congr 1; exact decide_eq_true eU) ?_
  refine wX ?_
  refine JO.reslot 74 (.bool true) (by simp) ?_
  refine wz6 ?_
  refine Wf (Xev (L:=disk)) rfl ?_
  refine wz6 ?_
  refine Wf (Xev (L:=disk)) rfl ?_
  refine wX ?_
  refine JO.reslot 83 (.bool true) (by simp) ?_
  refine wz6 ?_
  refine JO.reslot 90 (.bool true) (by simp) ?_
  refine wz6 ?_
  refine JR.callV rfl (fun w1 hw=>cM2 w1 _ z3 hw.get hw.get hw.get) ?_
  refine wz8 ?_
  exact Xac () rfl
end Ab
end Go.Proofs.YtllddbbldmoibaaGreat
namespace Go.Proofs.YtllddbbldmoibaaGreat
open Go Go.ChangeShapes Go.WideShapes Go.ChangeAt Go.RowKit
set_option linter.unusedVariables false
set_option maxRecDepth 100000 in
theorem Xjv (H:Type) (enc:TypeId × Value→H) (W:World) (base:Nat) (args:Array Value) (ds gs:List (DataW H)) (before:List MemPlace)
    (hval:∀ (j:Nat) t v,Tryz.f8.params[j]? = some t→args[j]? = some v→Value.okWide Tryz.prog W .any base t v)
    (hW:DataW.Whole enc Tryz.prog Tryz.f8.params.toList Rows.branchFullSpec.vars false W args.toList ds gs before)
    (hsz:(DataW.weightsEach Tryz.prog (Tryz.f8.params.toList++Rows.branchFullSpec.plain.varTypes Tryz.prog) (ds++gs)).all (·≤reachBytes)=true) :
    Calls Tryz.prog 8 args W fun e W'=>∃ v,e = .returned v∧Rows.branchFullSpec.post enc Tryz.prog Tryz.f8 false true false false W args v W':=by
  have hW':=hW
  obtain ⟨p,q,hA0,hV,rfl,_,_⟩:=hW
  have hA:DataW.TrodAll enc Tryz.prog W 0 (fun _=>true) true Tryz.f8.params.toList args.toList ds p:=hA0
  rw [Tryz.params8] at hA hval hsz
  obtain ⟨v0,v1,v2,d0,d1,d2,p0,p1,p2,rfl,rfl,rfl,h0,h1,h2⟩:=trodAll_three hA
  obtain ⟨rfl,rfl⟩:=trodVars_none hV
  have hall:=List.all_eq_true.1 hsz
  have w0:∀ n∈d0.weights Tryz.prog 50,n≤reachBytes:=fun n hn=>by simpa using hall n (DataW.weights_mem_each (j:=0) rfl rfl n hn)
  have w1:∀ n∈d1.weights Tryz.prog 26,n≤reachBytes:=fun n hn=>by simpa using hall n (DataW.weights_mem_each (j:=1) rfl rfl n hn)
  have w2:∀ n∈d2.weights Tryz.prog 22,n≤reachBytes:=fun n hn=>by simpa using hall n (DataW.weights_mem_each (j:=2) rfl rfl n hn)
  obtain ⟨y0,x0,rfl,s0a,s0b,s0c,s0d⟩:=Xti (hval 0 _ v0 rfl rfl) h0 w0
  obtain ⟨x1,rfl⟩:=X5m (hval 1 _ v1 rfl rfl) h1
  obtain ⟨a2,k2,x2,rfl,s2⟩:=Xpo (hval 2 _ v2 rfl rfl) h2 w2
  clear hA0
  simp only [List.append_nil] at hW'
  have hlt:∀ x∈p0++p1++p2,x.block < W.heap.size:=fun x hx=>by simpa using hW'.lt x (by simpa using hx)
  refine Calls.mono (Ab.law_full W (fun _=>True) y0 a2 k2 x0 x1 x2 s0a s0b s0c s0d s2) ?_
  rintro e W' ⟨y,he,hbel,_⟩
  subst he
  have hB:=hbel.below
  refine ⟨_,rfl,_,_,_,[],_,[],hW',?_,trodAll_mk3 (Below.trod laid (by kernel_rfl) (of_decide_eq_true (by kernel_rfl)) h0 hB (fun x hx=>hlt x (List.mem_append_left _ (List.mem_append_left _ hx)))) (Below.trod laid (by kernel_rfl) (of_decide_eq_true (by kernel_rfl)) h1 hB (fun x hx=>hlt x (List.mem_append_left _ (List.mem_append_right _ hx)))) (Below.trod laid (by kernel_rfl) (of_decide_eq_true (by kernel_rfl)) h2 hB (fun x hx=>hlt x (List.mem_append_right _ hx))),rfl,hB.frame _,fun h=>by cases h⟩
  exact trodAll_cons_mk (shut_bool Tryz.underlying4 _) trodAll_mk0
set_option maxRecDepth 100000 in
theorem Xly (os:Os) (started:os.Started) (H:Type) (enc:TypeId × Value→H) :
    ReturnsInHanded {} Tryz.checked os 8 .any (Rows.branchFullSpec.pre6 enc Tryz.prog Tryz.f8 Rows.branchFullRow.domain false) (Rows.branchFullSpec.post enc Tryz.prog Tryz.f8 false true false false):=by
  refine returnsInHanded_of_change_sized (C:=Tryz.checked) Yba started (by kernel_rfl) Tryz.func8
    (ChangeSpec.witness6 (enc:=enc) (C:=Tryz.checked) false ⟨#[],#[.agg #[.int .i64 0, .slice none 0 0, .int .i64 0, .slice none 0 0, .slice none 0 0, .int .i64 0, .bool false, .slice none 0 0, .int .i64 0, .int .i64 0], .agg #[.int .i64 0, .string .empty, .string .empty, .int .i64 0], .slice none 0 0],[]⟩ 8 (by kernel_rfl) (by kernel_rfl) (by kernel_rfl) (by kernel_rfl)) ?_
  intro W base args ds gs before hval hW _ hsz _
  exact Xjv H enc W base args ds gs before hval hW hsz
theorem Xey:Tryz.pinned.checked.prog.unfollowed 8=true:=by kernel_rfl
theorem Xkv:Tryz.pinned.checked.prog.inPlace 8=Rows.branchFullRow.inPlace:=by kernel_rfl
theorem Xmy:Tryz.pinned.checked.prog.varsNamed 8=Rows.branchFullRow.named:=by kernel_rfl
theorem Xjw:Tryz.pinned.checked.prog.recurses 8=true:=by
  unfold Program.recurses
  rw [Xey,Bool.true_or]
theorem Xlz:joinedFacts Tryz.pinned.checked.prog 8 Tryz.f8 Rows.branchFullSpec Rows.branchFullRow=true:=by
  unfold joinedFacts
  rw [Xkv,Xey,Xjw,Xmy]
  kernel_rfl
theorem branchFull_holds:Rows.BranchFullSaid :=
  OpenClaim.holds_of_wide 8 Tryz.f8 rfl rfl rfl rfl rfl rfl rfl ⟨rfl,rfl,rfl,rfl,rfl⟩ rfl rfl rfl rfl rfl (by kernel_rfl) Tryz.func8 Xlz
    (of_decide_eq_true (by kernel_rfl)) (by unfold Func.isWrapper; first | (rw [if_pos (by decide +kernel)]; kernel_rfl) | (rw [if_neg (by decide +kernel)]; exact ⟨rfl,rfl⟩))
    (fun os started H enc _=>Xly os started H enc)
end Go.Proofs.YtllddbbldmoibaaGreat
