/- The statement BranchDownSaid: for every input BranchDown returns true and leaves its arguments as they were. -/
import Derived.Test.YtllddbbldmoibaaGreatBrV7
import Derived.Test.YtllddbbldmoibaaGreatBrV2
namespace Go.Proofs.YtllddbbldmoibaaGreat
namespace Ab
open Go Go.RowKit
set_option linter.unusedVariables false
set_option linter.unusedSimpArgs false
set_option synthInstance.maxSize 4000
set_option synthInstance.maxHeartbeats 400000
attribute [local irreducible] JC JO JR JQ andThen inBlock OpV Gives Xah JM JS
attribute [local irreducible] Xas
structure DnOk (n:Nd):Prop where
  may:Xbb n=true
  up:n.up=false
  few:NdFew n
  l:n.l=[]
  wait:n.wait=[]
  seq:n.seq=0
theorem X76 {n:Nd} (h:Xbb n=true) (hu:n.up=false):n.l=[]∧n.wait=[]∧n.seq=0:=by
  obtain ⟨_,h2,h3⟩:=Xc2 h
  rw [Xra h3 (by omega) hu] at h
  simpa [List.length_eq_zero_iff,and_assoc] using h
theorem X77 (n:Nd) (o:Op_):cutU n o 0=n.disk:=by unfold cutU; rw [if_neg (by simp)]
noncomputable def dnN (n:Nd) (o:Op_):Nd:=if n.up=true then crashT n o 0 else n
theorem Yci {n:Nd} {o:Op_} (h:Xbb n=true) (hn:NdFew n):DnOk (dnN n o):=by
  unfold dnN
  by_cases hu:n.up=true
  · rw [if_pos hu]
    have hf:=Xv2 (o:=o) (k:=0) h hu hn
    rw [Xze h hu,X77] at hf ⊢
    obtain ⟨_,h2,h3⟩:=Xc2 h
    exact ⟨Xzb h3 h2,rfl,hf,rfl,rfl,rfl⟩
  · rw [if_neg hu]
    have hu':n.up=false:=by simpa using hu
    obtain ⟨a,b,c⟩:=X76 h hu'
    exact ⟨h,hu',hn,a,b,c⟩
theorem DnOk.update {n:Nd} (h:DnOk n) {o:Op_} (ho:Xc0 o=true):updT n o=(nd0,6):=by
  unfold updT; rw [h.may,ho,if_neg (by simp),if_pos h.up]
theorem DnOk.state {n:Nd} (h:DnOk n):stateT n=(st0,6):=by
  unfold stateT; rw [if_neg (by simp [h.may]),if_pos h.up]
theorem DnOk.take {n:Nd} (h:DnOk n) (l:List Commit):Xgl n l=n:=by
  unfold Xgl; rw [if_neg (by simp [h.up])]
theorem DnOk.crash {n:Nd} (h:DnOk n) (o:Op_) (k:Int):crashT n o k=n:=by
  unfold crashT; rw [if_pos (by simp [h.up])]
theorem DnOk.open {n:Nd} (h:DnOk n):(openT n).2=0∧Xbb (openT n).1=true∧(openT n).1.up=true∧(openT n).1.wait=[]∧(openT n).1.disk.length≤n.disk.length:=by
  obtain ⟨r1,r2,r3⟩:=X84 n.disk
  have hoL:openL n.disk=n.disk.take (Xau n.disk):=rfl
  rw [← hoL] at r1 r2 r3
  have hle:=Xlr n.disk
  obtain ⟨_,h2,h3⟩:=Xc2 h.may
  have hO:openT n=(⟨n.no,openL n.disk,n.room,Xa3 (openL n.disk),n.wait,Xfb (Xa3 (openL n.disk)) n.no,true,n.peers,n.next,n.miss⟩,0):=by
    unfold openT
    rw [if_neg (by simp [h.may]),if_neg (by simp [h.up])]
  rw [hO,h.wait]
  exact ⟨rfl,Xix h3 (by rw [r3]; omega) (by rw [r2,r3]),rfl,rfl,by show (openL n.disk).length≤_; rw [r3]; exact hle⟩
theorem Ybb {n:Nd} (h:Xbb n=true) (hu:n.up=true):openT n=(nd0,7):=by
  unfold openT; rw [if_neg (by simp [h]),if_pos hu]
theorem law_down (w:World) (F:Nat→Prop) (y:Na) (a:Option Addr) (k:Nat) (n:Nd) (o:Op_) (L:List Commit) (h1:(sl y.d y.dk n.disk).holds F w) (h2:(sl y.l y.lk n.l).holds F w) (h3:(sl y.w y.wk n.wait).holds F w) (h4:(sl y.p y.pk n.peers).holds F w) (h5:(sl a k L).holds F w) :
    GivesV Tryz.prog 7 [ndV n y,opV o, .slice a L.length k] w F (.bool true):=by
  have hdl:n.disk.length < 9223372036854775807:=by have:=h1.2.2.1; simp only [lim] at this; omega
  have hpl:n.peers.length < 9223372036854775807:=by have:=h4.2.2.1; simp only [lim] at this; omega
  have hst:=(Hold.start4 h1 h2 h3 h4).add (A:=sl a k L) (Asn.mono _ _ _ _ (fun k hk=>⟨.inl hk,by simp [free,Fact.owns]⟩) h5)
  have hfs:=fun h=>Xjr (n:=n) h
  have hsz:=fun h=>Xlv (o:=o) h
  have hdn:=fun (h:Xbb n=true) (hn:NdFew n)=>Yci (o:=o) h hn
  have eU:=fun (h:Xbb n=true) (hu:n.up=true)=>Ybb h hu
  have cO0:=fun (hs:NdSmall n) (w:World) (F:Nat→Prop) (y:Na) (h1:(sl y.d y.dk n.disk).holds F w) (h2:(sl y.l y.lk n.l).holds F w) (h3:(sl y.w y.wk n.wait).holds F w) (h4:(sl y.p y.pk n.peers).holds F w)=>Xhp w F n y h1 h2 h3 h4 hs.few
  have cC0:=fun (hs:NdSmall n) (hot:o.key.size < 4611686018427387904∧o.elem.size < 4611686018427387904) (w:World) (F:Nat→Prop) (y:Na) (h1:(sl y.d y.dk n.disk).holds F w) (h2:(sl y.l y.lk n.l).holds F w) (h3:(sl y.w y.wk n.wait).holds F w) (h4:(sl y.p y.pk n.peers).holds F w)=>Xf9 w F n y o 0 h1 h2 h3 h4 hs.few (by have:=hs.l; omega) hot
  have eN1:n.up=true→crashT n o 0=dnN n o:=fun h=>by unfold dnN; rw [if_pos h]
  have eN2:n.up=false→n=dnN n o:=fun h=>by unfold dnN; rw [if_neg (by simp [h])]
  generalize dnN n o=N at hdn eN1 eN2
  generalize crashT n o 0=B at cC0 eN1
  generalize openT n=E at eU cO0
  obtain ⟨no,disk,room,l,wait,seq,up,peers,next,miss⟩:=n
  obtain ⟨ad,kd,al,kl,aw,kw,ap,kp⟩:=y
  obtain ⟨kind,key,elem,m⟩:=o
  obtain ⟨ac,kc,cs,rfl,rfl,rfl⟩:∃ a1 k1 l1,a1=a∧k1=k∧l1=L:=⟨_,_,_,rfl,rfl,rfl⟩
  dsimp only [ndV,ndC,opV] at *
  refine Xaa Tryz.func7 rfl Tryz.ntmps7 rfl rfl _ hst ?_
  (repeat (refine wE ?_; intro _)); refine wA ?_
  rename_i b3 b4
  refine JR.callV rfl (fun w1 hw=>Xim w1 _) ?_
  refine wz9 ?_
  refine JR.callV rfl (fun w1 hw=>Xte w1 _ ⟨no,disk,room,l,wait,seq,up,peers,next,miss⟩ ⟨ad,kd,al,kl,aw,kw,ap,kp⟩ hw.get hw.get hdl hpl) ?_
  refine wz10 ?_
  refine JR.callV rfl (fun w1 hw=>Xsj w1 _ ac kc cs 6 hw.get) ?_
  refine wz9 ?_
  refine JR.callV rfl (fun w1 hw=>Xpn w1 _ ⟨kind,key,elem,m⟩) ?_
  cases hfew:Xp6 ⟨no,disk,room,l,wait,seq,up,peers,next,miss⟩ with
  | false =>
    refine wz8 ?_
    exact Xac () rfl
  | true =>
  cases hcl:fewL cs 6 with
  | false =>
    refine wz8 ?_
    exact Xac () rfl
  | true =>
  cases hsh:Xmg ⟨kind,key,elem,m⟩ with
  | false =>
    refine wz8 ?_
    exact Xac () rfl
  | true =>
  have hs:=hfs hfew
  have hot:=hsz hsh
  refine wz1 ?_
  refine JR.callV rfl (fun w1 hw=>Xb0 w1 _ ⟨no,disk,room,l,wait,seq,up,peers,next,miss⟩ ⟨ad,kd,al,kl,aw,kw,ap,kp⟩ hw.get hw.get hw.get hs.few.fw) ?_
  cases hm:Xbb ⟨no,disk,room,l,wait,seq,up,peers,next,miss⟩ with
  | false =>
    refine wz8 ?_
    exact Xac () rfl
  | true =>
  refine wX ?_
  have hD:=hdn hm hs.few
  refine Xdz (fun z:Na=>[(2, .slice ac cs.length kc),(3, .pointer (some ⟨b3,0,none⟩)),(4, .pointer (some ⟨b4,0,none⟩))]) (fun z=>[.own b3 50 [.int .i64 N.no, .slice z.d N.disk.length z.dk, .int .i64 N.room, .slice z.l N.l.length z.lk, .slice z.w N.wait.length z.wk, .int .i64 N.seq, .bool N.up, .slice z.p N.peers.length z.pk, .int .i64 N.next, .int .i64 N.miss], .own b4 26 [.int .i64 kind, .string key, .string elem, .int .i64 m], .st (sl z.d z.dk N.disk), .st (sl z.l z.lk N.l), .st (sl z.w z.wk N.wait), .st (sl z.p z.pk N.peers), .st (sl ac kc cs)]) ?_ ?_
  · cases up with
    | false =>
      have e:=eN2 rfl
      subst e
      dsimp only
      refine wz7 ?_
      exact ⟨rfl,⟨ad,kd,al,kl,aw,kw,ap,kp⟩,iI⟩
    | true =>
      have e1:=(eN1 rfl).symm
      have e2:=eU hm rfl
      have cO:=cO0 hs
      have cC:=cC0 hs hot
      subst e1 e2
      clear cO0 cC0
      refine wz1 ?_
      refine JR.call (v:=fun z:Na=>.tuple ⟨[ndV nd0 z, .int .i64 7]⟩) rfl (fun w1 hw=>cO w1 _ ⟨ad,kd,al,kl,aw,kw,ap,kp⟩ hw.get hw.get hw.get hw.get) ?_
      intro zz
      dsimp only [ndV,ndC,nd0,List.cons_append,List.nil_append,List.length_nil]
      (repeat (refine wF ?_; intro _)); refine wX ?_
      refine JR.call (v:=fun z:Na=>.agg ⟨[.int .i64 N.no, .slice z.d N.disk.length z.dk, .int .i64 N.room, .slice z.l N.l.length z.lk, .slice z.w N.wait.length z.wk, .int .i64 N.seq, .bool N.up, .slice z.p N.peers.length z.pk, .int .i64 N.next, .int .i64 N.miss]⟩) rfl (fun w1 hw=>cC w1 _ ⟨ad,kd,al,kl,aw,kw,ap,kp⟩ hw.get hw.get hw.get hw.get) ?_
      intro z
      dsimp only [List.cons_append,List.nil_append]
      refine wz9 ?_
      exact ⟨rfl,z,iI⟩
  clear cO0 cC0 eN1 eN2 eU
  intro z
  have hN:=hD.update (o:=incA 1) (by decide)
  have cU:=fun (w:World) (F:Nat→Prop) (y:Na) (h1:(sl y.d y.dk N.disk).holds F w) (h2:(sl y.l y.lk N.l).holds F w) (h3:(sl y.w y.wk N.wait).holds F w) (h4:(sl y.p y.pk N.peers).holds F w)=>Xd5 w F N y (incA 1) h1 h2 h3 h4 hD.few (by rw [hD.l]; simp) (by decide)
  have cS:=fun (w:World) (F:Nat→Prop) (y:Na) (h1:(sl y.d y.dk N.disk).holds F w) (h2:(sl y.l y.lk N.l).holds F w) (h3:(sl y.w y.wk N.wait).holds F w)=>Xme w F N y h1 h2 h3 hD.few.fl hD.few.fw (by rw [hD.l]; simp)
  have cT:=fun (w:World) (F:Nat→Prop) (y:Na) (h1:(sl y.d y.dk N.disk).holds F w) (h2:(sl y.l y.lk N.l).holds F w) (h3:(sl y.w y.wk N.wait).holds F w) (h4:(sl y.p y.pk N.peers).holds F w) (h5:(sl ac kc cs).holds F w)=>Xjq w F N y cs ac kc h1 h2 h3 h4 h5 hD.few (by have:=(Xhk hcl).1; omega) (Xhk hcl).2
  have cK:=fun (w:World) (F:Nat→Prop) (y:Na) (h1:(sl y.d y.dk N.disk).holds F w) (h2:(sl y.l y.lk N.l).holds F w) (h3:(sl y.w y.wk N.wait).holds F w) (h4:(sl y.p y.pk N.peers).holds F w)=>Xf9 w F N y ⟨kind,key,elem,m⟩ 5 h1 h2 h3 h4 hD.few (by rw [hD.l]; simp) hot
  have cO:=fun (w:World) (F:Nat→Prop) (y:Na) (h1:(sl y.d y.dk N.disk).holds F w) (h2:(sl y.l y.lk N.l).holds F w) (h3:(sl y.w y.wk N.wait).holds F w) (h4:(sl y.p y.pk N.peers).holds F w)=>Xhp w F N y h1 h2 h3 h4 hD.few
  obtain ⟨d1,d2,d3,d4,d5⟩:=hD.open
  have cM:=fun (w:World) (F:Nat→Prop) (y:Na) (h1:(sl y.d y.dk (openT N).1.disk).holds F w) (h2:(sl y.l y.lk (openT N).1.l).holds F w) (h3:(sl y.w y.wk (openT N).1.wait).holds F w)=>Xb0 w F (openT N).1 y h1 h2 h3 (by rw [d4]; simp)
  simp only [hN] at cU
  simp only [hD.state] at cS
  simp only [hD.take] at cT
  simp only [hD.crash] at cK
  simp only [d2] at cM
  generalize openT N=C at cO cM d1 d2 d3 d4 d5
  obtain ⟨⟨no3,disk3,room3,l3,wait3,seq3,up3,peers3,next3,miss3⟩,e3⟩:=C
  dsimp only [ndV,ndC] at *
  subst d1 d3 d4
  refine wz9 ?_
  refine Wf (OpV.build [.int .i64 0, .string keyA, .string .empty, .int .i64 1] (by kernel_rfl)) rfl ?_
  refine wz13 ?_
  refine JR.call (v:=fun z:Na=>.tuple ⟨[ndV nd0 z, .int .i64 6]⟩) rfl (fun w1 hw=>cU w1 _ z hw.get hw.get hw.get hw.get) ?_
  intro zz
  dsimp only [ndV,ndC,nd0,List.cons_append,List.nil_append,List.length_nil]
  (repeat (refine wF ?_; intro _)); refine wX ?_
  refine JR.call (v:=fun y:Sa=>.tuple ⟨[.agg ⟨stC st0 y⟩, .int .i64 6]⟩) rfl (fun w1 hw=>cS w1 _ z hw.get hw.get hw.get) ?_
  rintro ⟨⟨ac2,kc2⟩,⟨ar,kr⟩,⟨ap2,kp2⟩⟩
  dsimp only [stC,stF,List.cons_append,List.nil_append]
  (repeat (refine wF ?_; intro _)); refine wX ?_
  refine JC.drawP mixed ?_
  refine JP.tv 0 [.own b3 50 [.int .i64 N.no, .slice z.d N.disk.length z.dk, .int .i64 N.room, .slice z.l N.l.length z.lk, .slice z.w N.wait.length z.wk, .int .i64 N.seq, .bool N.up, .slice z.p N.peers.length z.pk, .int .i64 N.next, .int .i64 N.miss]] ?_
  refine Xab 1 ?_
  refine JP.tv 3 [.own b3 50 [.int .i64 N.no, .slice z.d N.disk.length z.dk, .int .i64 N.room, .slice z.l N.l.length z.lk, .slice z.w N.wait.length z.wk, .int .i64 N.seq, .bool N.up, .slice z.p N.peers.length z.pk, .int .i64 N.next, .int .i64 N.miss]] ?_
  refine Xai 2 rfl rfl (JR.call (v:=fun z2:Na=>.agg ⟨[.int .i64 N.no, .slice z2.d N.disk.length z2.dk, .int .i64 N.room, .slice z2.l N.l.length z2.lk, .slice z2.w N.wait.length z2.wk, .int .i64 N.seq, .bool N.up, .slice z2.p N.peers.length z2.pk, .int .i64 N.next, .int .i64 N.miss]⟩) rfl (fun w1 hw=>cT w1 _ z hw.get hw.get hw.get hw.get hw.get) (fun z2=>?_))
  dsimp only [List.cons_append,List.nil_append]
  refine Wd (nO ?_)
  refine Xai 4 rfl rfl (JR.callV rfl (fun w1 hw=>Xv1 w1 _ N z2 z hw.get hw.get hw.get hw.get hw.get hw.get hw.get hw.get) (Wd (nO ?_)))
  refine Xab 5 ?_
  refine JP.nil (by kernel_rfl) ?_
  refine wz14 ?_
  refine JC.drawP mixed ?_
  refine JP.tv 0 [.own b3 50 [.int .i64 N.no, .slice z.d N.disk.length z.dk, .int .i64 N.room, .slice z.l N.l.length z.lk, .slice z.w N.wait.length z.wk, .int .i64 N.seq, .bool N.up, .slice z.p N.peers.length z.pk, .int .i64 N.next, .int .i64 N.miss]] ?_
  refine JP.tv 1 [.own b4 26 [.int .i64 kind, .string key, .string elem, .int .i64 m]] ?_
  refine JP.tv 3 [.own b3 50 [.int .i64 N.no, .slice z.d N.disk.length z.dk, .int .i64 N.room, .slice z.l N.l.length z.lk, .slice z.w N.wait.length z.wk, .int .i64 N.seq, .bool N.up, .slice z.p N.peers.length z.pk, .int .i64 N.next, .int .i64 N.miss]] ?_
  refine Xai 2 rfl rfl (JR.call (v:=fun z3:Na=>.agg ⟨[.int .i64 N.no, .slice z3.d N.disk.length z3.dk, .int .i64 N.room, .slice z3.l N.l.length z3.lk, .slice z3.w N.wait.length z3.wk, .int .i64 N.seq, .bool N.up, .slice z3.p N.peers.length z3.pk, .int .i64 N.next, .int .i64 N.miss]⟩) rfl (fun w1 hw=>cK w1 _ z hw.get hw.get hw.get hw.get) (fun z3=>?_))
  dsimp only [List.cons_append,List.nil_append]
  refine Wd (nO ?_)
  refine Xai 4 rfl rfl (JR.callV rfl (fun w1 hw=>Xv1 w1 _ N z3 z hw.get hw.get hw.get hw.get hw.get hw.get hw.get hw.get) (Wd (nO ?_)))
  refine Xab 5 ?_
  refine JP.nil (by kernel_rfl) ?_
  refine wz9 ?_
  refine JR.call (v:=fun y3:Na=>.tuple ⟨[.agg ⟨[.int .i64 no3, .slice y3.d disk3.length y3.dk, .int .i64 room3, .slice y3.l l3.length y3.lk, .slice y3.w ([]:List Commit).length y3.wk, .int .i64 seq3, .bool true, .slice y3.p peers3.length y3.pk, .int .i64 next3, .int .i64 miss3]⟩, .int .i64 0]⟩) rfl (fun w1 hw=>cO w1 _ z hw.get hw.get hw.get hw.get) ?_
  intro y3
  dsimp only [List.cons_append,List.nil_append]
  (repeat (refine wF ?_; intro _)); refine wX ?_
  refine JR.callV rfl (fun w1 hw=>cM w1 _ y3 hw.get hw.get hw.get) ?_
  refine wX ?_
  refine Xac () ?_
  simp only [Xad]
  congr 1
  exact decide_eq_true (by omega)
end Ab
end Go.Proofs.YtllddbbldmoibaaGreat
namespace Go.Proofs.YtllddbbldmoibaaGreat
open Go Go.ChangeShapes Go.WideShapes Go.ChangeAt Go.RowKit
set_option linter.unusedVariables false
set_option maxRecDepth 100000 in
theorem Xjt (H:Type) (enc:TypeId × Value→H) (W:World) (base:Nat) (args:Array Value) (ds gs:List (DataW H)) (before:List MemPlace)
    (hval:∀ (j:Nat) t v,Tryz.f7.params[j]? = some t→args[j]? = some v→Value.okWide Tryz.prog W .any base t v)
    (hW:DataW.Whole enc Tryz.prog Tryz.f7.params.toList Rows.branchDownSpec.vars false W args.toList ds gs before)
    (hsz:(DataW.weightsEach Tryz.prog (Tryz.f7.params.toList++Rows.branchDownSpec.plain.varTypes Tryz.prog) (ds++gs)).all (·≤reachBytes)=true) :
    Calls Tryz.prog 7 args W fun e W'=>∃ v,e = .returned v∧Rows.branchDownSpec.post enc Tryz.prog Tryz.f7 false true false false W args v W':=by
  have hW':=hW
  obtain ⟨p,q,hA0,hV,rfl,_,_⟩:=hW
  have hA:DataW.TrodAll enc Tryz.prog W 0 (fun _=>true) true Tryz.f7.params.toList args.toList ds p:=hA0
  rw [Tryz.params7] at hA hval hsz
  obtain ⟨v0,v1,v2,d0,d1,d2,p0,p1,p2,rfl,rfl,rfl,h0,h1,h2⟩:=trodAll_three hA
  obtain ⟨rfl,rfl⟩:=trodVars_none hV
  have hall:=List.all_eq_true.1 hsz
  have w0:∀ n∈d0.weights Tryz.prog 50,n≤reachBytes:=fun n hn=>by simpa using hall n (DataW.weights_mem_each (j:=0) rfl rfl n hn)
  have w1:∀ n∈d1.weights Tryz.prog 26,n≤reachBytes:=fun n hn=>by simpa using hall n (DataW.weights_mem_each (j:=1) rfl rfl n hn)
  have w2:∀ n∈d2.weights Tryz.prog 22,n≤reachBytes:=fun n hn=>by simpa using hall n (DataW.weights_mem_each (j:=2) rfl rfl n hn)
  obtain ⟨y0,x0,rfl,s0a,s0b,s0c,s0d⟩:=Xti (hval 0 _ v0 rfl rfl) h0 w0
  obtain ⟨x1,rfl⟩:=X5m (hval 1 _ v1 rfl rfl) h1
  obtain ⟨a2,k2,x2,rfl,s2⟩:=Xpo (hval 2 _ v2 rfl rfl) h2 w2
  clear hA0
  simp only [List.append_nil] at hW'
  have hlt:∀ x∈p0++p1++p2,x.block < W.heap.size:=fun x hx=>by simpa using hW'.lt x (by simpa using hx)
  refine Calls.mono (Ab.law_down W (fun _=>True) y0 a2 k2 x0 x1 x2 s0a s0b s0c s0d s2) ?_
  rintro e W' ⟨y,he,hbel,_⟩
  subst he
  have hB:=hbel.below
  refine ⟨_,rfl,_,_,_,[],_,[],hW',?_,trodAll_mk3 (Below.trod laid (by kernel_rfl) (of_decide_eq_true (by kernel_rfl)) h0 hB (fun x hx=>hlt x (List.mem_append_left _ (List.mem_append_left _ hx)))) (Below.trod laid (by kernel_rfl) (of_decide_eq_true (by kernel_rfl)) h1 hB (fun x hx=>hlt x (List.mem_append_left _ (List.mem_append_right _ hx)))) (Below.trod laid (by kernel_rfl) (of_decide_eq_true (by kernel_rfl)) h2 hB (fun x hx=>hlt x (List.mem_append_right _ hx))),rfl,hB.frame _,fun h=>by cases h⟩
  exact trodAll_cons_mk (shut_bool Tryz.underlying4 _) trodAll_mk0
set_option maxRecDepth 100000 in
theorem Xlw (os:Os) (started:os.Started) (H:Type) (enc:TypeId × Value→H) :
    ReturnsInHanded {} Tryz.checked os 7 .any (Rows.branchDownSpec.pre6 enc Tryz.prog Tryz.f7 Rows.branchDownRow.domain false) (Rows.branchDownSpec.post enc Tryz.prog Tryz.f7 false true false false):=by
  refine returnsInHanded_of_change_sized (C:=Tryz.checked) Yba started (by kernel_rfl) Tryz.func7
    (ChangeSpec.witness6 (enc:=enc) (C:=Tryz.checked) false ⟨#[],#[.agg #[.int .i64 0, .slice none 0 0, .int .i64 0, .slice none 0 0, .slice none 0 0, .int .i64 0, .bool false, .slice none 0 0, .int .i64 0, .int .i64 0], .agg #[.int .i64 0, .string .empty, .string .empty, .int .i64 0], .slice none 0 0],[]⟩ 8 (by kernel_rfl) (by kernel_rfl) (by kernel_rfl) (by kernel_rfl)) ?_
  intro W base args ds gs before hval hW _ hsz _
  exact Xjt H enc W base args ds gs before hval hW hsz
theorem Xex:Tryz.pinned.checked.prog.unfollowed 7=true:=by kernel_rfl
theorem Xku:Tryz.pinned.checked.prog.inPlace 7=Rows.branchDownRow.inPlace:=by kernel_rfl
theorem Xmx:Tryz.pinned.checked.prog.varsNamed 7=Rows.branchDownRow.named:=by kernel_rfl
theorem Xju:Tryz.pinned.checked.prog.recurses 7=true:=by
  unfold Program.recurses
  rw [Xex,Bool.true_or]
theorem Xlx:joinedFacts Tryz.pinned.checked.prog 7 Tryz.f7 Rows.branchDownSpec Rows.branchDownRow=true:=by
  unfold joinedFacts
  rw [Xku,Xex,Xju,Xmx]
  kernel_rfl
theorem branchDown_holds:Rows.BranchDownSaid :=
  OpenClaim.holds_of_wide 7 Tryz.f7 rfl rfl rfl rfl rfl rfl rfl ⟨rfl,rfl,rfl,rfl,rfl⟩ rfl rfl rfl rfl rfl (by kernel_rfl) Tryz.func7 Xlx
    (of_decide_eq_true (by kernel_rfl)) (by unfold Func.isWrapper; first | (rw [if_pos (by decide +kernel)]; kernel_rfl) | (rw [if_neg (by decide +kernel)]; exact ⟨rfl,rfl⟩))
    (fun os started H enc _=>Xlw os started H enc)
end Go.Proofs.YtllddbbldmoibaaGreat
