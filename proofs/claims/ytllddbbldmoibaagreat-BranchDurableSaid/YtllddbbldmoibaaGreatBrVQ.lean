/- The statement BranchDurableSaid: for every input BranchDurable returns true and leaves its arguments as they were. -/
import Derived.Test.YtllddbbldmoibaaGreatBrV7
import Derived.Test.YtllddbbldmoibaaGreatBrV2
namespace Go.Proofs.YtllddbbldmoibaaGreat
namespace Ab
open Go Go.RowKit
set_option linter.unusedVariables false
set_option linter.unusedSimpArgs false
set_option synthInstance.maxSize 4000
set_option synthInstance.maxHeartbeats 400000
attribute [local irreducible] JC JO JR JQ andThen inBlock OpV Gives Xah JM JS
attribute [local irreducible] Xas
theorem law_durable (w:World) (F:Nat→Prop) (y:Na) (n:Nd) (o:Op_) (k:Int) (h1:(sl y.d y.dk n.disk).holds F w) (h2:(sl y.l y.lk n.l).holds F w) (h3:(sl y.w y.wk n.wait).holds F w) (h4:(sl y.p y.pk n.peers).holds F w) :
    GivesV Tryz.prog 6 [ndV n y,opV o, .int .i64 k] w F (.bool true):=by
  have hdl:n.disk.length < 9223372036854775807:=by have:=h1.2.2.1; simp only [lim] at this; omega
  have hpl:n.peers.length < 9223372036854775807:=by have:=h4.2.2.1; simp only [lim] at this; omega
  have hfs:=fun h=>Xjr (n:=n) h
  have hsz:=fun h=>Xlv (o:=o) h
  have hsb:=fun (hm:Xbb n=true) (hu:n.up=true)=>Xvz (Xx5 hm hu)
  have hmdl:=X5k n o
  have cC0:=fun (hs:NdSmall n) (hot:o.key.size < 4611686018427387904∧o.elem.size < 4611686018427387904) (w:World) (F:Nat→Prop) (y:Na) (h1:(sl y.d y.dk n.disk).holds F w) (h2:(sl y.l y.lk n.l).holds F w) (h3:(sl y.w y.wk n.wait).holds F w) (h4:(sl y.p y.pk n.peers).holds F w)=>Xf9 w F n y o k h1 h2 h3 h4 hs.few (by have:=hs.l; omega) hot
  have cU0:=fun (hs:NdSmall n) (hot:o.key.size < 4611686018427387904∧o.elem.size < 4611686018427387904) (w:World) (F:Nat→Prop) (y:Na) (h1:(sl y.d y.dk n.disk).holds F w) (h2:(sl y.l y.lk n.l).holds F w) (h3:(sl y.w y.wk n.wait).holds F w) (h4:(sl y.p y.pk n.peers).holds F w)=>Xd5 w F n y o h1 h2 h3 h4 hs.few (by have:=hs.l; omega) hot
  have cO0:=fun (hs:NdSmall n) (hm:Xbb n=true) (hu:n.up=true) (w:World) (F:Nat→Prop) (y:Na) (h1:(sl y.d y.dk (crashT n o k).disk).holds F w) (h2:(sl y.l y.lk (crashT n o k).l).holds F w) (h3:(sl y.w y.wk (crashT n o k).wait).holds F w) (h4:(sl y.p y.pk (crashT n o k).peers).holds F w)=>Xhp w F (crashT n o k) y h1 h2 h3 h4 (Xv2 hm hu hs.few)
  have hD:=fun (hm:Xbb n=true) (hu:n.up=true)=>X5f (n:=n) (o:=o) (k:=k) hm hu
  generalize crashT n o k=B at cC0 cO0 hD
  have cM0:=fun (hw0:(openT B).1.wait=[]) (w:World) (F:Nat→Prop) (y:Na) (h1:(sl y.d y.dk (openT B).1.disk).holds F w) (h2:(sl y.l y.lk (openT B).1.l).holds F w) (h3:(sl y.w y.wk (openT B).1.wait).holds F w)=>Xb0 w F (openT B).1 y h1 h2 h3 (by rw [hw0]; simp)
  generalize openT B=C at cO0 hD cM0
  generalize updT n o=M at cU0 hD hmdl
  obtain ⟨no,disk,room,l,wait,seq,up,peers,next,miss⟩:=n
  obtain ⟨no2,disk2,room2,l2,wait2,seq2,up2,peers2,next2,miss2⟩:=B
  obtain ⟨⟨no3,disk3,room3,l3,wait3,seq3,up3,peers3,next3,miss3⟩,e3⟩:=C
  obtain ⟨⟨no4,disk4,room4,l4,wait4,seq4,up4,peers4,next4,miss4⟩,e4⟩:=M
  obtain ⟨ad,kd,al,kl,aw,kw,ap,kp⟩:=y
  obtain ⟨kind,key,elem,m⟩:=o
  dsimp only [ndV,ndC,opV] at *
  refine Xaa Tryz.func6 rfl Tryz.ntmps6 rfl rfl [.st (sl ad kd disk), .st (sl al kl l), .st (sl aw kw wait), .st (sl ap kp peers)] (.start4 h1 h2 h3 h4) ?_
  (repeat (refine wE ?_; intro _)); refine wA ?_
  rename_i b3 b4
  refine JR.callV rfl (fun w1 hw=>Xim w1 _) ?_
  refine wz9 ?_
  refine JR.callV rfl (fun w1 hw=>Xte w1 _ ⟨no,disk,room,l,wait,seq,up,peers,next,miss⟩ ⟨ad,kd,al,kl,aw,kw,ap,kp⟩ hw.get hw.get hdl hpl) ?_
  refine wz9 ?_
  refine JR.callV rfl (fun w1 hw=>Xpn w1 _ ⟨kind,key,elem,m⟩) ?_
  cases hfew:Xp6 ⟨no,disk,room,l,wait,seq,up,peers,next,miss⟩ with
  | false =>
    refine wz8 ?_
    exact Xac () rfl
  | true =>
  cases hsh:Xmg ⟨kind,key,elem,m⟩ with
  | false =>
    refine wz8 ?_
    exact Xac () rfl
  | true =>
  have hs:=hfs hfew
  have hot:=hsz hsh
  refine wz1 ?_
  refine JR.callV rfl (fun w1 hw=>Xb0 w1 _ ⟨no,disk,room,l,wait,seq,up,peers,next,miss⟩ ⟨ad,kd,al,kl,aw,kw,ap,kp⟩ hw.get hw.get hw.get hs.few.fw) ?_
  cases hm:Xbb ⟨no,disk,room,l,wait,seq,up,peers,next,miss⟩ with
  | false =>
    refine wz8 ?_
    exact Xac () rfl
  | true =>
  cases up with
  | false =>
    refine wz1 ?_
    exact Xac () rfl
  | true =>
  obtain ⟨d1,d2,d3,d4,d5,d6⟩:=hD hm rfl
  have cC:=cC0 hs hot
  have cU:=cU0 hs hot
  have cO:=cO0 hs hm rfl
  have cM:=cM0 d3
  have hsb:=hsb hm rfl
  have hdk:=hs.disk
  dsimp only at hdk hsb
  subst d1 d3 d4 d5
  rw [d2] at cM
  refine wX ?_
  refine JR.call (v:=fun z:Na=>.agg ⟨[.int .i64 no2, .slice z.d disk2.length z.dk, .int .i64 room2, .slice z.l l2.length z.lk, .slice z.w wait2.length z.wk, .int .i64 seq2, .bool false, .slice z.p peers2.length z.pk, .int .i64 next2, .int .i64 miss2]⟩) rfl (fun w1 hw=>cC w1 _ ⟨ad,kd,al,kl,aw,kw,ap,kp⟩ hw.get hw.get hw.get hw.get) ?_
  intro z
  dsimp only [List.cons_append,List.nil_append]
  refine wz13 ?_
  refine JR.call (v:=fun z3:Na=>.tuple ⟨[.agg ⟨[.int .i64 no3, .slice z3.d disk3.length z3.dk, .int .i64 room3, .slice z3.l l3.length z3.lk, .slice z3.w ([]:List Commit).length z3.wk, .int .i64 seq3, .bool true, .slice z3.p peers3.length z3.pk, .int .i64 next3, .int .i64 miss3]⟩, .int .i64 0]⟩) rfl (fun w1 hw=>cO w1 _ z hw.get hw.get hw.get hw.get) ?_
  intro z3
  dsimp only [List.cons_append,List.nil_append]
  (repeat (refine wF ?_; intro _)); refine wX ?_
  rename_i b10
  refine JR.call (v:=fun z4:Na=>.tuple ⟨[.agg ⟨[.int .i64 no4, .slice z4.d disk4.length z4.dk, .int .i64 room4, .slice z4.l l4.length z4.lk, .slice z4.w wait4.length z4.wk, .int .i64 seq4, .bool up4, .slice z4.p peers4.length z4.pk, .int .i64 next4, .int .i64 miss4]⟩, .int .i64 e4]⟩) rfl (fun w1 hw=>cU w1 _ ⟨ad,kd,al,kl,aw,kw,ap,kp⟩ hw.get hw.get hw.get hw.get) ?_
  intro z4
  dsimp only [List.cons_append,List.nil_append]
  (repeat (refine wF ?_; intro _)); refine wX ?_
  rename_i b12
  refine JR.callV rfl (fun w1 hw=>cM w1 _ z3 hw.get hw.get hw.get) ?_
  refine wX ?_
  refine JR.callV rfl (fun w1 hw=>Xm8 w1 _ z3.l al z3.lk kl l3 l hw.get hw.get) ?_
  clear hpl hdl cM0 cC0 cU0 cO0 hD cC cU cO cM hfs hsz
  rcases d6 with ⟨g1,g2,g3⟩ | ⟨g1,g2,g3,g4,g5⟩
  · refine JO.reslot 73 (.bool true) (by congr 1; exact decide_eq_true g1) ?_
    refine wX ?_
    refine JO.reslot 80 (.bool true) (by congr 1; exact decide_eq_true g2) ?_
    by_cases he:e4=0
    · have g3':=g3.resolve_left (fun h=>h he)
      refine wX ?_
      refine JO.reslot 83 (.bool false) (by congr 1; exact decide_eq_false (fun h=>h he)) ?_
      refine wX ?_
      refine Xac () ?_
      simp only [Xad]
      congr 1
      exact decide_eq_true g3'
    · refine wX ?_
      refine JO.reslot 83 (.bool true) (by congr 1; exact decide_eq_true he) ?_
      refine wz8 ?_
      exact Xac () rfl
  · refine JO.reslot 73 (.bool false) (by congr 1; exact decide_eq_false (by rw [g2]; exact g3)) ?_
    refine wX ?_
    refine JR.callV rfl (fun w1 hw=>Xm8 w1 _ z3.l z4.l z3.lk z4.lk l3 l4 hw.get hw.get) ?_
    refine JO.reslot 99 (.bool true) (by congr 1; exact decide_eq_true g2) ?_
    refine wz4 ?_
    refine JO.reslot 102 (.bool true) (by congr 1; exact decide_eq_true g1) ?_
    refine wX ?_
    refine JO.reslot 113 (.bool true) (by congr 1; exact decide_eq_true g4) ?_
    refine wX ?_
    refine Xac () ?_
    simp only [Xad]
    congr 1
    exact decide_eq_true g5
end Ab
end Go.Proofs.YtllddbbldmoibaaGreat
namespace Go.Proofs.YtllddbbldmoibaaGreat
open Go Go.ChangeShapes Go.WideShapes Go.ChangeAt Go.RowKit
set_option linter.unusedVariables false
set_option maxRecDepth 100000 in
theorem Xhu (H:Type) (enc:TypeId × Value→H) (W:World) (base:Nat) (args:Array Value) (ds gs:List (DataW H)) (before:List MemPlace)
    (hval:∀ (j:Nat) t v,Tryz.f6.params[j]? = some t→args[j]? = some v→Value.okWide Tryz.prog W .any base t v)
    (hW:DataW.Whole enc Tryz.prog Tryz.f6.params.toList Rows.branchDurableSpec.vars false W args.toList ds gs before)
    (hsz:(DataW.weightsEach Tryz.prog (Tryz.f6.params.toList++Rows.branchDurableSpec.plain.varTypes Tryz.prog) (ds++gs)).all (·≤reachBytes)=true) :
    Calls Tryz.prog 6 args W fun e W'=>∃ v,e = .returned v∧Rows.branchDurableSpec.post enc Tryz.prog Tryz.f6 false true false false W args v W':=by
  have hW':=hW
  obtain ⟨p,q,hA0,hV,rfl,_,_⟩:=hW
  have hA:DataW.TrodAll enc Tryz.prog W 0 (fun _=>true) true Tryz.f6.params.toList args.toList ds p:=hA0
  rw [Tryz.params6] at hA hval hsz
  obtain ⟨v0,v1,v2,d0,d1,d2,p0,p1,p2,rfl,rfl,rfl,h0,h1,h2⟩:=trodAll_three hA
  obtain ⟨rfl,rfl⟩:=trodVars_none hV
  have hall:=List.all_eq_true.1 hsz
  have w0:∀ n∈d0.weights Tryz.prog 50,n≤reachBytes:=fun n hn=>by simpa using hall n (DataW.weights_mem_each (j:=0) rfl rfl n hn)
  have w1:∀ n∈d1.weights Tryz.prog 26,n≤reachBytes:=fun n hn=>by simpa using hall n (DataW.weights_mem_each (j:=1) rfl rfl n hn)
  have w2:∀ n∈d2.weights Tryz.prog 3,n≤reachBytes:=fun n hn=>by simpa using hall n (DataW.weights_mem_each (j:=2) rfl rfl n hn)
  obtain ⟨y0,x0,rfl,s0a,s0b,s0c,s0d⟩:=Xti (hval 0 _ v0 rfl rfl) h0 w0
  obtain ⟨x1,rfl⟩:=X5m (hval 1 _ v1 rfl rfl) h1
  obtain ⟨x2,rfl⟩:=okWide_int Tryz.underlying3 (hval 2 _ v2 rfl rfl)
  clear hA0
  simp only [List.append_nil] at hW'
  have hlt:∀ x∈p0++p1++p2,x.block < W.heap.size:=fun x hx=>by simpa using hW'.lt x (by simpa using hx)
  refine Calls.mono (Ab.law_durable W (fun _=>True) y0 x0 x1 x2 s0a s0b s0c s0d) ?_
  rintro e W' ⟨y,he,hbel,_⟩
  subst he
  have hB:=hbel.below
  refine ⟨_,rfl,_,_,_,[],_,[],hW',?_,trodAll_mk3 (Below.trod laid (by kernel_rfl) (of_decide_eq_true (by kernel_rfl)) h0 hB (fun x hx=>hlt x (List.mem_append_left _ (List.mem_append_left _ hx)))) (Below.trod laid (by kernel_rfl) (of_decide_eq_true (by kernel_rfl)) h1 hB (fun x hx=>hlt x (List.mem_append_left _ (List.mem_append_right _ hx)))) (Below.trod laid (by kernel_rfl) (of_decide_eq_true (by kernel_rfl)) h2 hB (fun x hx=>hlt x (List.mem_append_right _ hx))),rfl,hB.frame _,fun h=>by cases h⟩
  exact trodAll_cons_mk (shut_bool Tryz.underlying4 _) trodAll_mk0
set_option maxRecDepth 100000 in
theorem Xi1 (os:Os) (started:os.Started) (H:Type) (enc:TypeId × Value→H) :
    ReturnsInHanded {} Tryz.checked os 6 .any (Rows.branchDurableSpec.pre6 enc Tryz.prog Tryz.f6 Rows.branchDurableRow.domain false) (Rows.branchDurableSpec.post enc Tryz.prog Tryz.f6 false true false false):=by
  refine returnsInHanded_of_change_sized (C:=Tryz.checked) Yba started (by kernel_rfl) Tryz.func6
    (ChangeSpec.witness6 (enc:=enc) (C:=Tryz.checked) false ⟨#[],#[.agg #[.int .i64 0, .slice none 0 0, .int .i64 0, .slice none 0 0, .slice none 0 0, .int .i64 0, .bool false, .slice none 0 0, .int .i64 0, .int .i64 0], .agg #[.int .i64 0, .string .empty, .string .empty, .int .i64 0], .int .i64 0],[]⟩ 8 (by kernel_rfl) (by kernel_rfl) (by kernel_rfl) (by kernel_rfl)) ?_
  intro W base args ds gs before hval hW _ hsz _
  exact Xhu H enc W base args ds gs before hval hW hsz
theorem Xdu:Tryz.pinned.checked.prog.unfollowed 6=true:=by kernel_rfl
theorem Xin:Tryz.pinned.checked.prog.inPlace 6=Rows.branchDurableRow.inPlace:=by kernel_rfl
theorem Xjs:Tryz.pinned.checked.prog.varsNamed 6=Rows.branchDurableRow.named:=by kernel_rfl
theorem Xhv:Tryz.pinned.checked.prog.recurses 6=true:=by
  unfold Program.recurses
  rw [Xdu,Bool.true_or]
theorem Xi2:joinedFacts Tryz.pinned.checked.prog 6 Tryz.f6 Rows.branchDurableSpec Rows.branchDurableRow=true:=by
  unfold joinedFacts
  rw [Xin,Xdu,Xhv,Xjs]
  kernel_rfl
theorem branchDurable_holds:Rows.BranchDurableSaid :=
  OpenClaim.holds_of_wide 6 Tryz.f6 rfl rfl rfl rfl rfl rfl rfl ⟨rfl,rfl,rfl,rfl,rfl⟩ rfl rfl rfl rfl rfl (by kernel_rfl) Tryz.func6 Xi2
    (of_decide_eq_true (by kernel_rfl)) (by unfold Func.isWrapper; first | (rw [if_pos (by decide +kernel)]; kernel_rfl) | (rw [if_neg (by decide +kernel)]; exact ⟨rfl,rfl⟩))
    (fun os started H enc _=>Xi1 os started H enc)
end Go.Proofs.YtllddbbldmoibaaGreat
