/- Lemmas for the walks, part 6 of 7: ComG, LoadP, Round, RoundX, LoadI, Load, Trip, StA, NdP, BrA, BrB, BrC, BrD, BrE, BrF, BrG, CtrG, LentS, NewA, FrG, UpA, UpB, UpC, UpD, StB, StC, StD, LsA, UpL, AwP, Peer, AwQ. -/
import Derived.Test.YtllddbbldmoibaaGreatBrV5
import Derived.Test.YtllddbbldmoibaaGreatBrV2
import Derived.Test.YtllddbbldmoibaaGreatBrV4
import Derived.RangeFuncLeaves
import Derived.RangeFuncCalls
import Derived.RangeFuncRecord
import Derived.RangeFuncSeq
import Derived.ControlIn
import Derived.Test.YtllddbbldmoibaaGreatBrV1
import Derived.RangeFuncIn
namespace Go.Proofs.YtllddbbldmoibaaGreat
namespace Ab
open Go Go.RowKit Tryz
set_option linter.unusedVariables false
set_option linter.unusedSimpArgs false
set_option linter.unusedSectionVars false
set_option synthInstance.maxSize 4000
set_option synthInstance.maxHeartbeats 400000
set_option maxHeartbeats 16000000
variable (w:World) (F:Nat→Prop)
section
attribute [local irreducible] JC JO JR JQ andThen inBlock OpV Gives Xah JM JS
section
variable {w0:World} {F:Nat→Prop} {b2 b3 b4:Nat} {A B C:List Value} {v2 v3 v4:List Value}
theorem X44 {Γ:List Fact}:Xvn prog w0 F 267 [.pointer (some ⟨b2,0,none⟩), .pointer (some ⟨b3,0,none⟩), .pointer (some ⟨b4,0,none⟩)] .returning .returning Γ Γ:=by
 refine Xvo (.inl ⟨rfl,rfl,rfl⟩) func267 rfl ntmps267 rfl rfl rfl rfl ?_
 refine wz14 ?_
 refine Wf (Xxu (by kernel_rfl)) rfl ?_
 refine wz7 ?_
 exact Xd0 () rfl (fun w ho=>ho)
theorem X1d:Xvn prog w0 F 267 [.pointer (some ⟨b2,0,none⟩), .pointer (some ⟨b3,0,none⟩), .pointer (some ⟨b4,0,none⟩)] (.panicking Xq2) (.panicking (panR X4t))
  [.own b2 31 [.int .i64 0, .int .i64 0, .int .i64 0, .slice none 0 0, .int .i64 0, .string .empty, .string .empty, .int .i64 0], .own b3 47 [.slice none 0 0], .own b4 39 [.int .i64 0]]
  [.own b2 31 [.int .i64 0, .int .i64 0, .int .i64 0, .slice none 0 0, .int .i64 0, .string .empty, .string .empty, .int .i64 0], .own b3 47 [.slice none 0 0], .own b4 39 [.int .i64 2]]:=by
 refine Xvo (.inr ⟨rfl,rfl⟩) func267 rfl ntmps267 rfl rfl rfl rfl ?_
 refine wz14 ?_
 refine Wf (Xxv (by kernel_rfl)) rfl ?_
 refine wz8 ?_
 refine Wf (Xvp (fun w=>by kernel_rfl)) rfl ?_
 (repeat (refine wE ?_; intro _)); refine wA ?_
 refine Wf (OpV.build [.int .i64 0, .int .i64 0, .int .i64 0, .slice none 0 0, .int .i64 0, .string .empty, .string .empty, .int .i64 0] (by kernel_rfl)) rfl ?_
 refine wz9 ?_
 exact Xj6 () rfl
end
def com0:Commit:=⟨⟨0,0⟩,0,[],op0⟩
noncomputable def getT (b:List UInt8):Commit × List UInt8 × Int:=match getC b with | some q=>(q.1,q.2,0) | none=>(com0,[],2)
structure GetY (b:List UInt8) where
 pa:Option Addr
 pc:Nat
 ra:Option Addr
 rc:Nat
theorem Xpd {b:List UInt8} {c:Commit} {r:List UInt8} (h:getC b=some (c,r)):getT b=(c,r,0):=by unfold getT; rw [h]
theorem Xvq {b:List UInt8} (h:getC b=none):getT b=(com0,[],2):=by unfold getT; rw [h]
theorem Xq6:∀ (n:Nat) (b:List UInt8) (q),Xfv n b=some q→q.2.length≤b.length
 | 0,b,q,h=>by cases h; exact Nat.le_refl _
 | n+1,b,q,h=>by
  unfold Xfv at h
  split at h
  ·cases hq:Xfv n (b.drop 32) with
   | none=>rw [hq] at h; cases h
   | some q1 =>
    rw [hq] at h; cases h
    have:=Xq6 n _ q1 hq
    rw [List.length_drop] at this
    show q1.2.length≤_
    omega
  ·cases h
theorem X7m {b:List UInt8} {q} (h:numO b=some q):q.2.length≤b.length:=by
 unfold numO at h
 split at h <;> cases h
 simp only [List.length_drop]; omega
theorem Xpe {m:Nat} {b:List UInt8} {q} (h:Xmv m b=some q):q.2.length≤b.length:=by
 unfold Xmv at h
 split at h <;> cases h
 simp only [List.length_drop]; omega
theorem Xy3 {c:Commit} {b:List UInt8} {q} (h:finC c b=some q):q.2.length≤b.length:=by
 unfold finC at h
 split at h <;> cases h
 exact Nat.le_refl _
theorem Yau {n0:Int} {n1 n2:Nat} {ps:List ID} {b:List UInt8} {q} (h:opC n0 n1 n2 ps b=some q):q.2.length≤b.length:=by
 unfold opC at h
 split at h
 ·exact Xy3 h
 ·split at h
  ·exact Nat.le_trans (Xy3 h) (Xvl b)
  ·cases h
theorem X7n {b:List UInt8} {c:Commit} {r:List UInt8} (h:getC b=some (c,r)):r.length≤b.length:=by
 unfold getC at h
 obtain ⟨q0,h0,h⟩:=Option.bind_eq_some_iff.1 h
 obtain ⟨q1,h1,h⟩:=Option.bind_eq_some_iff.1 h
 obtain ⟨q2,h2,h⟩:=Option.bind_eq_some_iff.1 h
 obtain ⟨q3,h3,h⟩:=Option.bind_eq_some_iff.1 h
 obtain ⟨q4,h4,h⟩:=Option.bind_eq_some_iff.1 h
 have:=X7m h0; have:=Xpe h1; have:=Xpe h2; have:=Xpe h3; have:=Xq6 _ _ _ h4; have:=Yau h
 simp only at *
 omega
theorem Yav (a:Option Addr) (c:Nat) (b:List UInt8) (h:(sl a c b).holds F w) (hl:b.length≤34359738368) :
  Gives prog 216 [.slice a b.length c] w F (fun y:GetY b=>.tuple ⟨[Xap (getT b).1 y.pa y.pc, .slice y.ra (getT b).2.1.length y.rc, .int .i64 (getT b).2.2]⟩)
   (fun y=>[.st (sl y.pa y.pc (getT b).1.parents), .st (sl y.ra y.rc (getT b).2.1)]):=by
 refine Xxt (v:=fun y:GetY b=>.tuple ⟨[Xap (getT b).1 y.pa y.pc, .slice y.ra (getT b).2.1.length y.rc, .int .i64 (getT b).2.2]⟩) func216 rfl ntmps216 rfl rfl [.st (sl a c b)] (.start1 h) ?_
 refine JX.seq ?_
 (repeat (refine wE ?_; intro _)); refine wA ?_
 rename_i b2 b3 b4
 refine ⟨rfl,JX.defer rfl ?_⟩
 refine wz14 ?_
 refine Wf (OpV.build [.slice a b.length c] (by kernel_rfl)) rfl ?_
 (repeat (refine wE ?_; intro _)); refine wA ?_
 rename_i br
 refine JR.more (Γ':=.own br 295 [.slice a b.length c]::.st (sl a c b)::[.own b2 31 [.int .i64 0, .int .i64 0, .int .i64 0, .slice none 0 0, .int .i64 0, .string .empty, .string .empty, .int .i64 0], .own b3 47 [.slice none 0 0], .own b4 39 [.int .i64 0]]) (fun w ho=>ho.ent) ?_
 refine X51 rfl (fun w1 hw=>X43 hl hw) (fun y=>?_) (fun hn=>?_)
 ·obtain ⟨cm,r,hg,pa,pc,ra,rc⟩:=y
  dsimp only
  rw [Xpd hg]
  dsimp only
  refine wz9 ?_
  have hc:=X7n hg
  refine JC.drawP mixed ?_
  refine JP.tv 0 [.own b2 31 [.int .i64 cm.ev.node, .int .i64 cm.ev.seq, .int .i64 cm.gen, .slice pa cm.parents.length pc, .int .i64 cm.op.kind, .string cm.op.key, .string cm.op.elem, .int .i64 cm.op.n]] ?_
  refine Xab 1 ?_
  refine Xab 2 ?_
  refine Xab 3 ?_
  refine JP.tv 4 [.own br 295 [.slice ra r.length rc]] ?_
  refine Xai 5 rfl rfl (JR.callBuf rfl (fun w1 hw=>Xel w1 _ ra rc r hw.get (by omega)) fun a5 c5=>Wd (nO ?_))
  refine JP.more (fun w1 ho=>ho.pub) ?_
  refine Xai 6 rfl rfl (Wi (Wd (nO ?_)))
  refine Xai 7 rfl rfl (Wi (Wd (nO ?_)))
  refine Xai 8 rfl rfl (Wi (Wd (nO ?_)))
  refine JP.nil (by kernel_rfl) ?_
  refine wz13 ?_
  refine ⟨267,_,iI,rfl,_, .inl ⟨.inl rfl,X44⟩,?_⟩
  exact Xac (⟨pa,pc,a5,c5⟩:GetY b) rfl
 ·rw [Xvq hn]
  dsimp only
  refine z2z ?_
  refine ⟨267,_,iI,rfl,_, .inr ⟨X4t,rfl,X1d⟩,?_⟩
  exact CT.done (⟨none,0,none,0⟩:GetY b) rfl (fun w ho=>((ho.ent:Hold _ _ [] w).add Xan).add Xan)
noncomputable section
def decL:List (List UInt8)→List Commit
 | []=>[]
 | b::l=>match getC b with
  | some (c,[])=>c::decL l
  | _=>[]
open Classical in
def Xa9 (acc:List Commit):List Commit→List Commit
 | []=>acc
 | c::l=>if Closed (acc++[c]) then Xa9 (acc++[c]) l else acc
def Xa3 (b:List UInt8):List Commit:=Xa9 [] (decL (readL b))
def Xau (b:List UInt8):Nat:=(Xaf ((readL b).take (Xa3 b).length)).length
end
theorem Xew (b:List UInt8) (l:List (List UInt8)):(∃ c,getC b=some (c,[])∧decL (b::l)=c::decL l)∨((¬ ∃ c,getC b=some (c,[]))∧decL (b::l)=[]):=by
 rw [decL]
 split
 ·rename_i c h; exact .inl ⟨c,h,rfl⟩
 ·rename_i h; exact .inr ⟨fun ⟨c,hc⟩=>h c hc,rfl⟩
theorem Xik:∀ l:List (List UInt8),(decL l).length≤l.length
 | []=>Nat.le_refl _
 | b::l=>by
  have:=Xik l
  rcases Xew b l with ⟨c,_,h⟩ | ⟨_,h⟩ <;> rw [h] <;> simp <;> omega
theorem Xs3:∀ (l:List (List UInt8)) (i:Nat) (h:i < (decL l).length) (h2:i < l.length),getC l[i]=some ((decL l)[i],[])
 | [],i,h,_=>by cases h
 | b::l,i,h,h2=>by
  rcases Xew b l with ⟨c,hc,hd⟩ | ⟨_,hd⟩
  ·cases i with
   | zero=>simp only [hd,List.getElem_cons_zero]; exact hc
   | succ i =>
    simp only [hd,List.getElem_cons_succ]
    exact Xs3 l i (by rw [hd] at h; simpa using h) (by simpa using h2)
  ·rw [hd] at h; cases h
theorem Xy4:∀ (l:List (List UInt8)) (h:(decL l).length < l.length),¬ ∃ c,getC (l[(decL l).length])=some (c,[])
 | [],h=>by cases h
 | b::l,h=>by
  rcases Xew b l with ⟨c,hc,hd⟩ | ⟨hn,hd⟩
  ·simp only [hd,List.length_cons,List.getElem_cons_succ]
   exact Xy4 l (by rw [hd] at h; simpa using h)
  ·simp only [hd,List.length_nil,List.getElem_cons_zero]; exact hn
theorem Xq7:∀ (l acc:List Commit),∃ k,k≤l.length∧Xa9 acc l=acc++l.take k
 | [],acc=>⟨0,Nat.le_refl _,by simp [Xa9]⟩
 | c::l,acc=>by
  unfold Xa9
  split
  ·obtain ⟨k,hk,h⟩:=Xq7 l (acc++[c])
   exact ⟨k+1,by simpa using hk,by rw [h]; simp⟩
  ·exact ⟨0,Nat.zero_le _,by simp⟩
theorem Xko:∀ (l acc:List Commit),Closed acc→Closed (Xa9 acc l)
 | [],acc,h=>h
 | c::l,acc,h=>by
  unfold Xa9
  split
  ·rename_i h2; exact Xko l _ h2
  ·exact h
theorem Xxw {l:List Commit} {i:Nat} (hi:i < l.length) (h:Xa9 [] l=Xa9 (l.take i) (l.drop i)) (hc:Closed (l.take (i+1))):Xa9 [] l=Xa9 (l.take (i+1)) (l.drop (i+1)):=by
 rw [h,List.drop_eq_getElem_cons hi,Xa9,← List.take_succ_eq_append_getElem hi,if_pos hc]
theorem Xxx {l:List Commit} {i:Nat} (hi:i < l.length) (h:Xa9 [] l=Xa9 (l.take i) (l.drop i)) (hc:¬ Closed (l.take (i+1))):Xa9 [] l=l.take i:=by
 rw [h,List.drop_eq_getElem_cons hi,Xa9,← List.take_succ_eq_append_getElem hi,if_neg hc]
theorem Xhn:∀ (f:Nat) (b:List UInt8),∀ x∈readF f b,x.length≤4000
 | 0,_,x,h=>by cases h
 | f+1,b,x,h=>by
  unfold readF at h
  cases hs:readStep b with
  | none=>rw [hs] at h; cases h
  | some q =>
   rw [hs] at h
   rcases List.mem_cons.1 h with rfl | h
   ·exact (Xd3 (x:=q.1) (r:=q.2) hs).1
   ·exact Xhn f _ x h
theorem Xfw:∀ (f:Nat) (b:List UInt8),Xaf (readF f b) <+: b
 | 0,b=>List.nil_prefix
 | f+1,b=>by
  unfold readF
  cases hs:readStep b with
  | none=>exact List.nil_prefix
  | some q =>
   dsimp only
   rw [Xf7]
   have h1:=(Xd3 (x:=q.1) (r:=q.2) hs).2
   obtain ⟨t,ht⟩:=Xfw f q.2
   exact ⟨t,by rw [List.append_assoc,ht,← h1]⟩
theorem Xil (l:List (List UInt8)) (i:Nat):(Xaf (l.take i)).length≤(Xaf l).length:=by
 conv=>rhs; rw [← List.take_append_drop i l]
 rw [Xcr,List.length_append]; omega
theorem Xgh (l:List (List UInt8)):5 * l.length≤(Xaf l).length:=by
 induction l with
 | nil=>simp
 | cons y l ih=>rw [Xf7,List.length_append,Xbz,List.length_cons]; have:=Xcl y.length; omega
theorem Xvr {l:List (List UInt8)} {i:Nat} (hi:i < l.length):(Xaf (l.take (i+1))).length=(Xaf (l.take i)).length+(Xbn l[i]).length:=by
 rw [List.take_succ_eq_append_getElem hi,Xcr,Xjp,List.length_append]
theorem Xy5 {c0 c:Commit} {b r:List UInt8} (h:finC c0 b=some (c,r)):may c=true∧c=c0:=by
 unfold finC at h
 split at h
 ·cases h; exact ⟨by assumption,rfl⟩
 ·cases h
theorem Xy6 {b r:List UInt8} {c:Commit} (h:getC b=some (c,r)):may c=true∧Xmq c:=by
 unfold getC at h
 obtain ⟨q0,h0,h⟩:=Option.bind_eq_some_iff.1 h
 obtain ⟨q1,h1,h⟩:=Option.bind_eq_some_iff.1 h
 obtain ⟨q2,h2,h⟩:=Option.bind_eq_some_iff.1 h
 obtain ⟨q3,h3,h⟩:=Option.bind_eq_some_iff.1 h
 obtain ⟨q4,h4,h⟩:=Option.bind_eq_some_iff.1 h
 unfold opC at h
 split at h
 ·obtain ⟨h5,h6⟩:=Xy5 h
  refine ⟨h5,?_⟩
  rw [h6]
  unfold Xmq
  exact (by decide:op0.key.size < 4611686018427387904∧op0.elem.size < 4611686018427387904)
 ·split at h
  ·obtain ⟨h5,h6⟩:=Xy5 h
   refine ⟨h5,?_⟩
   rw [h6]
   exact Xpc q4.2
  ·cases h
end
abbrev rnd (l:Nat):Fence:=Fence.wide.inRound l
def Xng:Oper→Bool
 | ⟨_, .defer _,_,_,_,_⟩=>false
 | _=>true
theorem Xxy {o:Oper} (h:Xng o=true) (c:Call):o.op≠.defer c:=by
 obtain ⟨d,op,t,p,a,g⟩:=o
 rintro rfl
 cases h
section
variable {P:Program} {ops:Array Oper} {Q:Exit→Act→World→Prop} {l m:Nat}
theorem Yaw {F:Fence} (hdp:F.depth=none) (hfn:∀ f,F.fn f) (hcalls:∀ {f args w R},Calls P f args w R→CallsIn F (m - 1) P f args w R) (hrows:∀ {row args w R},Rows P row args w R→RowsIn F (m - 1) P row args w R)
  {o:Oper} {a:Act} {K K':Act→World→Prop} (hK:∀ a w,K a w→K' a w) (r:Result Next) (h:o.upon P a K Q r):o.uponIn F m P a K' Q r:=by
 have hn:F.depth.isSome=true→1≤m:=by rw [hdp]; intro h; cases h
 cases r with
 | halt x w'=>cases x <;> exact h
 | ok x w' =>
  cases x with
  | value v=>exact hK _ _ h
  | skip=>exact hK _ _ h
  | defer d=>exact hK _ _ h
  | enter f args =>
   refine ⟨hn,hcalls (Calls.mono h ?_)⟩
   intro e w'' he
   cases e with
   | returned v=>exact hK _ _ he
   | panicked c=>exact he
   | outgrown=>exact he
  | row row args=>exact ⟨hn,(hrows h).mono fun v w'' h=>hK _ _ h⟩
  | round l f tmps assign body=>exact h.elim
  | _=>exact h
theorem Xkp (hd:∀ o∈ops,Xng o=true) (hQ:¬ LetsOut Q):∀ (is:List Nat) (a:Act) (w:World),wpOps P ops Q is a w→wpOpsIn (rnd l) m P ops Q is a w
 | [],a,w,h=>h
 | i::is,a,w,h=>by
  unfold wpOps at h
  unfold wpOpsIn
  cases ho:ops[i]? with
  | none=>rw [ho] at h; exact Xkp hd hQ is a w h
  | some o =>
   rw [ho] at h
   dsimp only at h ⊢
   by_cases hw:Region.wanted o (yielded ops a.tmps)=true
   ·rw [if_pos hw] at h ⊢
    rcases h with h | h
    ·refine ⟨fun _ _=>trivial,?_⟩
     have hm:o∈ops:=Array.mem_of_getElem? ho
     rw [Oper.semAt_eq _ _ _ (Xxy (hd o hm))]
     exact Yaw rfl (fun _=>trivial) (fun h=>CallsIn.inRound l (callsIn_wide.2 h)) (fun h c cs _=>let ⟨v,w',r,s⟩:=h c cs; ⟨v,w',r,stepsIn_wide.2 s⟩) (fun a w h=>Xkp hd hQ is a w h) _ h
    ·exact (hQ h.2).elim
   ·rw [if_neg hw] at h ⊢
    exact ⟨fun _ _=>trivial,Xkp hd hQ is _ w h⟩
end
section
variable {P:Program} {n:Nn} {w0:World} {F:Nat→Prop} {l:Nat} {Q:Cont} {e:E} {Γ:List Fact} [Dr]
def JI (P:Program) (n:Nn) (w0:World) (F:Nat→Prop) (l:Nat) (c:Code) (Q:Cont) (e:E) (Γ:List Fact):Prop :=
 (∀ e Γ,¬ Q .outgrown e Γ)→∀ a w,Fr n e a→Hold w0 F Γ w→c.wpIn (rnd l) 1 P (up n w0 F Q) a w
theorem JI.skip (h:Q .normal e Γ):JI P n w0 F l .skip Q e Γ:=fun _ _ _ fr ho=>wpIn_skip ⟨e,Γ,h,fr,ho⟩
theorem JI.ret (h:Q .ret e Γ):JI P n w0 F l .ret Q e Γ:=fun _ _ _ fr ho=>wpIn_ret ⟨e,Γ,h,fr,ho⟩
theorem JI.seq {x y:Code} (h:JI P n w0 F l x (andThen (JI P n w0 F l y Q) Q) e Γ):JI P n w0 F l (.seq x y) Q e Γ:=by
 intro hq a w fr ho
 refine wpIn_seq (wpIn_mono (h hq a w fr ho) ?_)
 rintro x a w ⟨e,Γ,h,fr,ho⟩
 cases x <;> first | exact h hq a w fr ho | exact ⟨e,Γ,h,fr,ho⟩
theorem Xds {c:Operand} {x y:Code} [hc:Ev e c (.bool true)] (h:JI P n w0 F l x Q e Γ):JI P n w0 F l (.cond c x y) Q e Γ :=
 fun hq a w fr ho=>wpIn_cond_true (hc.ok n a fr) (h hq a w fr ho)
theorem Xc1 {c:Operand} {x y:Code} [hc:Ev e c (.bool false)] (h:JI P n w0 F l y Q e Γ):JI P n w0 F l (.cond c x y) Q e Γ :=
 fun hq a w fr ho=>wpIn_cond_false (hc.ok n a fr) (h hq a w fr ho)
theorem JI.block {id:Nat} {c:Code} (h:JI P n w0 F l c (inBlock id Q) e Γ):JI P n w0 F l (.block id c) Q e Γ:=by
 intro hq a w fr ho
 refine wpIn_block (wpIn_mono (h hq a w fr ho) ?_)
 rintro x a w ⟨e,Γ,hq,fr,ho⟩
 cases x with
 | exit id' =>
  simp only [inBlock,Exit.inBlock] at *
  split
  ·rename_i he; rw [if_pos he] at hq; exact ⟨e,Γ,hq,fr,ho⟩
  ·rename_i he; rw [if_neg he] at hq; exact ⟨e,Γ,hq,fr,ho⟩
 | _=>exact ⟨e,Γ,hq,fr,ho⟩
theorem JI.more {c:Code} {Γ':List Fact} (h:∀ w,Hold w0 F Γ w→Hold w0 F Γ' w) (k:JI P n w0 F l c Q e Γ'):JI P n w0 F l c Q e Γ:=fun hq a w fr ho=>k hq a w fr (h w ho)
theorem X8y (hq:∀ e Γ,¬ Q .outgrown e Γ):¬ LetsOut (up n w0 F Q):=by
 rintro ⟨a,w,e,Γ,h,_⟩
 exact hq e Γ h
theorem JI.region {id:Nat} {os:List Oper} (hd:os.all Xng=true) (h:JO P n w0 F ⟨os⟩ 0 os Q e Γ):JI P n w0 F l (.region id ⟨os⟩ false) Q e Γ:=by
 intro hq a w fr ho
 refine wpIn_region ?_
 have e1:List.range (Array.size ⟨os⟩:Nat)=List.range' 0 os.length:=by simp [List.range_eq_range']
 rw [e1]
 refine Xkp (fun o ho=>?_) (X8y hq) _ _ _ (h rfl a w fr ho)
 exact List.all_eq_true.1 hd o (by simpa using ho)
theorem JI.drawP {id:Nat} {ops:List Oper} (hm:P.follows .mixedOrders=true) (hd:ops.all Xng=true) (h:JP P n w0 F ops [] ops.length (List.replicate ops.length false) Q e Γ):JI P n w0 F l (.region id ⟨ops⟩ true) Q e Γ:=by
 intro hq a w fr ho
 refine wpIn_region_draw fun t=>?_
 simp only [Region.schedule,hm,Bool.true_or,if_true]
 refine Xkp (fun o ho=>List.all_eq_true.1 hd o (by simpa using ho)) (X8y hq) _ _ _ ?_
 have:=Xwh Xyd _ _ _ _ (h a w.drew fr ho.drew)
 have e1:(⟨List.replicate ops.length false⟩:Array Bool)=Array.replicate (⟨ops⟩:Array Oper).size false:=by apply Array.ext'; simp
 rw [e1] at this
 exact wpAny_sound _ t _ a _ this
def JY (P:Program) (n:Nn) (w0:World) (F:Nat→Prop) (ops:Array Oper) (i:Nat) (os:List Oper) (Q:Cont) (e:E) (Γ:List Fact):Prop :=
 ops.toList.drop i=os→∀ a w,Fr n e a→Hold w0 F Γ w→wpOpsIn Fence.wide 2 P ops (up n w0 F Q) (List.range' i os.length) a w
theorem X1e {id:Nat} {os:List Oper} (h:JY P n w0 F ⟨os⟩ 0 os Q e Γ):JC P n w0 F (.region id ⟨os⟩ false) Q e Γ:=by
 intro a w fr ho
 refine (wpIn_wide (n:=2)).1 (wpIn_region ?_)
 have e1:List.range (Array.size ⟨os⟩:Nat)=List.range' 0 os.length:=by simp [List.range_eq_range']
 rw [e1]
 exact h rfl a w fr ho
theorem JY.nil {ops:Array Oper} {i:Nat} (h:Q .normal e Γ):JY P n w0 F ops i [] Q e Γ :=
 fun _ a w fr ho=>by show wpOpsIn Fence.wide 2 P ops (up n w0 F Q) [] a w; unfold wpOpsIn; exact ⟨e,Γ,h,fr,ho⟩
section
variable {ops:List Oper} {i d:Nat} {op:Op} {t:TypeId} {pos:String} {aft:Array Edge} {g:Option (Nat × Bool)} {os:List Oper}
theorem JY.val {v:Value} (hg:Xb7 ops e g=some true) (h:OpV P n w0 F ⟨some d,op,t,pos,aft,g⟩ e Γ v) (hd:Nat.blt d n.s=true) (k:JY P n w0 F ⟨ops⟩ (i+1) os Q ((d,v)::e) Γ):JY P n w0 F ⟨ops⟩ i (⟨some d,op,t,pos,aft,g⟩::os) Q e Γ:=by
 intro hdr a w fr ho
 obtain ⟨h1,h2⟩:=Xea hdr
 simp only [List.length_cons,List.range'_succ,wpOpsIn]
 rw [h1]
 simp only [Xbv (o:=⟨some d,op,t,pos,aft,g⟩) hg fr,if_true]
 refine ⟨fun _ _=>trivial,?_⟩
 show Oper.uponIn _ _ _ _ _ _ _ ((execOp a.eval ⟨some d,op,t,pos,aft,g⟩).run P w)
 rw [h a w fr ho]
 exact k h2 _ w (fr.put hd v) ho
theorem JY.omit (hg:Xb7 ops e g=some false) (hd:Nat.blt d n.s=true) (k:JY P n w0 F ⟨ops⟩ (i+1) os Q ((d,undef)::e) Γ):JY P n w0 F ⟨ops⟩ i (⟨some d,op,t,pos,aft,g⟩::os) Q e Γ:=by
 intro hdr a w fr ho
 obtain ⟨h1,h2⟩:=Xea hdr
 simp only [List.length_cons,List.range'_succ,wpOpsIn]
 rw [h1]
 simp only [Xbv (o:=⟨some d,op,t,pos,aft,g⟩) hg fr,Bool.false_eq_true,if_false]
 exact ⟨fun _ _=>trivial,k h2 _ w (fr.put hd _) ho⟩
theorem JY.skip (hg:X2e ops e g=true) (hd:Nat.blt d n.s=true) (k:JY P n w0 F ⟨ops⟩ (i+1) os Q ((d,undef)::e) Γ):JY P n w0 F ⟨ops⟩ i (⟨some d,op,t,pos,aft,g⟩::os) Q e Γ:=by
 intro hdr a w fr ho
 obtain ⟨h1,h2⟩:=Xea hdr
 simp only [List.length_cons,List.range'_succ,wpOpsIn]
 rw [h1]
 simp only [Xrw (o:=⟨some d,op,t,pos,aft,g⟩) hg fr,Bool.false_eq_true,if_false]
 exact ⟨fun _ _=>trivial,k h2 _ w (fr.put hd _) ho⟩
theorem JY.test (s:Nat) {b:Bool} {p:Prop} [hc:Lk e s (.bool b)] [hp:Says b p] (ht:p→JY P n w0 F ⟨ops⟩ i os Q ((s, .bool true)::e) Γ) (hf:¬ p→JY P n w0 F ⟨ops⟩ i os Q ((s, .bool false)::e) Γ):JY P n w0 F ⟨ops⟩ i os Q e Γ:=by
 intro hd a w fr ho
 have key:Fr n ((s, .bool b)::e) a:=fr.again hc.ok
 cases b with
 | true=>exact ht (hp.ok.1 rfl) hd a w key ho
 | false=>exact hf (fun h=>by have:=hp.ok.2 h; cases this) hd a w key ho
theorem JY.reslot (s:Nat) {v:Value} (u:Value) [hs:Lk e s v] (h:v=u) (k:JY P n w0 F ⟨ops⟩ i os Q ((s,u)::e) Γ):JY P n w0 F ⟨ops⟩ i os Q e Γ :=
 fun hd a w fr ho=>k hd a w (fr.again (by rw [← h]; exact hs.ok)) ho
theorem JY.more {Γ':List Fact} (h:∀ w,Hold w0 F Γ w→Hold w0 F Γ' w) (k:JY P n w0 F ⟨ops⟩ i os Q e Γ'):JY P n w0 F ⟨ops⟩ i os Q e Γ:=fun hd a w fr ho=>k hd a w fr (h w ho)
theorem JY.yield {f:Operand} {args:Array Operand} {ats:Array TypeId} {vs:List Value} {l:Nat} {κ ξ:Type} {Γt:ξ→List Fact} {Γf:κ→List Fact} (hg:Xb7 ops e g=some true) [hf:Ev e f (.func (.yield l) #[] #[])] [hv:ArgVs e args.toList vs] (hd:Nat.blt d n.s=true)
  (h:∀ w,Hold w0 F Γ w→YieldAt Fence.wide 1 P l ⟨vs⟩ w fun x w'=>(x = .returned (.bool true)∧∃ s,Hold w0 F (Γt s) w')∨(x = .returned (.bool false)∧∃ k,Hold w0 F (Γf k) w'))
  (kt:∀ s,JY P n w0 F ⟨ops⟩ (i+1) os Q ((d, .bool true)::e) (Γt s)) (kf:∀ k,JY P n w0 F ⟨ops⟩ (i+1) os Q ((d, .bool false)::e) (Γf k)) :
  JY P n w0 F ⟨ops⟩ i (⟨some d, .call ⟨.value f,args,ats⟩,t,pos,aft,g⟩::os) Q e Γ:=by
 intro hdr a w fr ho
 obtain ⟨h1,h2⟩:=Xea hdr
 simp only [List.length_cons,List.range'_succ,wpOpsIn]
 rw [h1]
 simp only [Xbv (o:=⟨some d, .call ⟨.value f,args,ats⟩,t,pos,aft,g⟩) hg fr,if_true]
 refine ⟨fun _ _=>trivial,?_⟩
 obtain ⟨fn,tmps,assign,body,hy,hR⟩:=h w ho
 have e1:=hf.ok n a fr
 have e2:args.map a.eval=⟨vs⟩:=by apply Array.ext'; simp [hv.ok n a fr]
 have hrun:(execOp a.eval ⟨some d, .call ⟨.value f,args,ats⟩,t,pos,aft,g⟩).run P w = .ok (.round l fn tmps assign body) w:=by
  have e3:(resolve a.eval ⟨.value f,args,ats⟩ t).run P w = .ok ⟨.fn (.yield l) #[],⟨vs⟩⟩ w:=by
   simp [resolve,e1,Deferred.ofValue]
   apply Array.ext'; simp [hv.ok n a fr]
  have e4:(⟨vs⟩:Array Value)++(#[]:Array Value)=⟨vs⟩:=by apply Array.ext'; simp
  simp only [execOp,Sem.run_bind,e3,Result.andThen_ok,invoke]
  simpa [e4] using hy
 show Oper.uponIn _ _ _ _ _ _ _ ((execOp a.eval ⟨some d, .call ⟨.value f,args,ats⟩,t,pos,aft,g⟩).run P w)
 rw [hrun]
 refine ⟨fun h=>(by cases h),hR.mono ?_⟩
 rintro x w' (⟨rfl,s,ho'⟩ | ⟨rfl,k,ho'⟩)
 ·exact kt s h2 _ w' (fr.put hd _) ho'
 ·exact kf k h2 _ w' (fr.put hd _) ho'
end
end
theorem Yax (p1 p2:Nat) (v1 v2:Value) (T:Array Value):((#[p1,p2]:Array Nat).zip (⟨[v1,v2]⟩:Array Value)).foldl (fun t (p,v)=>t.setIfInBounds p v) T=(T.setIfInBounds p1 v1).setIfInBounds p2 v2:=by
 simp
def tru (p:Prop):Asn where
 holds _ _:=p
 mono _ _ _ _ h:=h
 frame _ _ _ _ h:=h
 within _ _ h:=h
section
variable {P:Program} {n:Nn} {w0:World} {F:Nat→Prop} {l:Nat} {Q:Cont} {e:E} {Γ:List Fact}
theorem JI.know [Dr] {c:Code} {p:Prop} (h:∀ w,Hold w0 F Γ w→p) (k:p→JI P n w0 F l c Q e Γ):JI P n w0 F l c Q e Γ:=fun hq a w fr ho=>k (h w ho) hq a w fr ho
end
section
variable {P:Program} {n:Nn} {w0:World} {F:Nat→Prop} {l:Nat} {e:E} {Γ:List Fact} [Dr]
theorem Hold.turn {w:World} {r:Nat} {o o':Obj} {Δ:List Fact} (h:Hold w0 F (.obj r o::Δ) w):Hold w0 F (.obj r o'::Δ) (w.putObj r o'):=Xqb h
theorem Hold.objAt {w:World} {r:Nat} {o:Obj} {Δ:List Fact} (h:Hold w0 F (.obj r o::Δ) w):w.heap[r]? = some o:=h.sat (.obj r o) (by simp)
def Iter (P:Program) (w0:World) (F:Nat→Prop) (gf:FuncId) (lb:List Value) (N:Nat) {ι:Type} (v1 v2:Nat→ι→Value) (G:Nat→ι→List Fact) (Γi:List Fact):Prop :=
 ∀ (l:Nat) (κ ξ:Type) (M:Nat→ξ→List Fact) (X:κ→List Fact),
  (∀ i,i < N→∀ (u:ι) (s:ξ) (Γ:List Fact) w,Hold w0 F (G i u++Γ++M i s) w→YieldAt Fence.wide 1 P l ⟨[v1 i u,v2 i u]⟩ w fun x w'=>(x = .returned (.bool true)∧∃ s,Hold w0 F (Γ++M (i+1) s) w')∨(x = .returned (.bool false)∧∃ k,Hold w0 F (Γ++X k) w')) →
  ∀ s w,Hold w0 F (Γi++M 0 s) w→Calls P gf ⟨.func (.yield l) #[] #[]::lb⟩ w fun x w'=>(∃ v,x = .returned v)∧((∃ s,Hold w0 F (M N s) w')∨∃ k,Hold w0 F (X k) w')
theorem JX.range {Q:Nn→Cont} {g:Operand} {p1 p2:Nat} {assign body:Code} {gf:FuncId} {lb:List Value} {N:Nat} {ι ζ κ ξ:Type} {v1 v2:Nat→ι→Value} {G:Nat→ι→List Fact} {Γi:List Fact}
  (M:Nat→ξ→List Fact) (X:κ→List Fact) (E2:Nat→ι→ξ→ζ→E) (N2:Nat→ι→ξ→ζ→List Fact) (s0:ξ)
  [hg:Ev e g (.func (.func gf) #[] ⟨lb⟩)] [hb:Body P gf] (h1:Nat.blt p1 n.s=true) (h2:Nat.blt p2 n.s=true)
  (hi:Iter P w0 F gf lb N v1 v2 G Γi) (h0:∀ w,Hold w0 F Γ w→Hold w0 F (Γi++M 0 s0) w)
  (ha:∀ i,i < N→∀ (u:ι) (s:ξ) (Γ:List Fact) l,JI P ⟨n.s,[]⟩ w0 F l assign (fun x e' Γ'=>x = .normal∧∃ z,Ent e' Γ' (E2 i u s z) (N2 i u s z++Γ)) ((p2,v2 i u)::(p1,v1 i u)::e) (G i u++M i s++Γ))
  (hbd:∀ i,i < N→∀ (u:ι) (s:ξ) (z:ζ) (Γ:List Fact) l,JI P ⟨n.s,[]⟩ w0 F l body (fun x e' Γ'=>(x = .normal∧∃ s,∀ w,Hold w0 F Γ' w→Hold w0 F (M (i+1) s++Γ) w)∨(x = .ret∧∃ k,∀ w,Hold w0 F Γ' w→Hold w0 F (X k++Γ) w)) (E2 i u s z) (N2 i u s z++Γ))
  (kn:∀ D s,Q ⟨n.s,⟨.collected D,#[]⟩::n.ds⟩ .normal e (.obj D (.deferred (some []))::M N s))
  (kr:∀ D k,Q ⟨n.s,⟨.collected D,#[]⟩::n.ds⟩ .ret e (.obj D (.deferred (some []))::X k)) :
  JX P n w0 F (.rangeFunc g #[p1,p2] assign body) Q e Γ:=by
 intro a w fr ho
 refine (wpIn_wide (n:=3)).1 (wpIn_rangeFunc ?_)
 intro fn hfn
 obtain ⟨rec,hrec⟩:∃ rec:LoopState→Option Code→Loop,rec=fun st pe=>{ state:=st,pending:=pe,fn,tmps:=a.tmps,params:=#[p1,p2],assign,body,defers:=w.heap.size }:=⟨_,rfl⟩
 have ho1:Hold w0 F (.obj (w.heap.size+1) (.loop (rec .ready none))::.obj w.heap.size (.deferred (some []))::(Γi++M 0 s0)) ((w.alloc (.deferred (some []))).alloc (.loop (rec .ready none))):=by
  have a1:=(h0 w ho).push (f:=.obj w.heap.size (.deferred (some []))) (fun _=>Iff.rfl) (fun _ _ h=>h)
  have a2:=a1.push (f:=.obj (w.alloc (.deferred (some []))).heap.size (.loop (rec .ready none))) (fun _=>Iff.rfl) (fun _ _ h=>h)
  simpa only [World.size_alloc] using a2
 obtain ⟨W1,hW1⟩:∃ W1,(w.alloc (.deferred (some []))).alloc (.loop (rec .ready none))=W1:=⟨_,rfl⟩
 rw [hW1] at ho1
 obtain ⟨D,hD⟩:∃ D,D=w.heap.size:=⟨_,rfl⟩
 have eg:=hg.ok n a fr
 have e3:(#[.func (.yield (D+1)) #[] #[]]:Array Value)++(⟨lb⟩:Array Value)=⟨.func (.yield (D+1)) #[] #[]::lb⟩:=by apply Array.ext'; simp
 have hLr:∀ st pe,(rec st pe).state=st:=fun st pe=>by rw [hrec]
 have fr0:Fr ⟨n.s,[]⟩ e ⟨a.tmps,[]⟩:=⟨rfl,fr.size,fr.slot⟩
 refine ⟨D+1,[{ target:=.collected D,args:=#[] }],W1,{ target:=.fn (.func gf) ⟨lb⟩,args:=#[.func (.yield (D+1)) #[] #[]] },W1,gf,⟨.func (.yield (D+1)) #[] #[]::lb⟩,W1,?_,?_,?_,?_,fun h=>(by cases h),?_⟩
 ·rw [← hW1,hrec,hD]; exact run_enterLoop_outer _ _ _ _ _
 ·simp only [resolve,eg]
  simp [go_sem,Deferred.ofValue]
 ·intro f' _; trivial
 ·simp only [invoke,e3,hb.ok]
 ·rw [← hD] at ho1
  let M':Nat→ξ→List Fact:=fun i s=>.obj (D+1) (.loop (rec .ready none))::.obj D (.deferred (some []))::M i s
  let X':κ→List Fact:=fun k=>.obj (D+1) (.loop { rec .ready none with state:=.done,pending:=some .ret })::.obj D (.deferred (some []))::X k
  refine callsIn_wide.2 (Calls.mono (hi (D+1) κ ξ M' X' ?_ s0 W1 (ho1.perm ?_)) ?_)
  ·intro i hin u s Γ W hW
   have hW':Hold w0 F (.obj (D+1) (.loop (rec .ready none))::(G i u++M i s++.obj D (.deferred (some []))::Γ)) W:=by
    refine hW.perm ?_
    show (G i u++Γ++.obj (D+1) (.loop (rec .ready none))::.obj D (.deferred (some []))::M i s).Perm _
    refine List.perm_middle.trans (List.Perm.cons _ ?_)
    refine List.perm_middle.trans ((List.Perm.cons _ ?_).trans List.perm_middle.symm)
    rw [List.append_assoc,List.append_assoc]
    exact List.Perm.append_left _ List.perm_append_comm
   have hl:=hW'.objAt
   have hy:=run_yield (P:=P) (args:=⟨[v1 i u,v2 i u]⟩) hl (by rw [hrec]; rfl)
   refine ⟨_,_,_,_,hy,roundIn_of_wpIn trivial ?_⟩
   have etm:((rec .ready none).params.zip (⟨[v1 i u,v2 i u]⟩:Array Value)).foldl (fun t (p,v)=>t.setIfInBounds p v) (rec .ready none).tmps=(a.tmps.setIfInBounds p1 (v1 i u)).setIfInBounds p2 (v2 i u):=by
    rw [hrec]; exact Yax p1 p2 _ _ _
   have ea:(rec .ready none).assign=assign:=by rw [hrec]
   have eb:(rec .ready none).body=body:=by rw [hrec]
   rw [etm,ea,eb]
   have fr1:=(fr0.put h1 (v1 i u)).put h2 (v2 i u)
   have hW2:Hold w0 F (G i u++M i s++(.obj (D+1) (.loop (rec .ready none))::.obj D (.deferred (some []))::Γ)) W:=hW'.perm List.perm_middle.symm
   refine wpIn_mono (ha i hin u s _ (D+1) (fun _ _ h=>by cases h.1) _ W fr1 hW2) ?_
   rintro x a2 W2 ⟨e2,Γ2,⟨rfl,z,hent⟩,fr2,ho2⟩
   have ho3:Hold w0 F (.obj (D+1) (.loop (rec .ready none))::(N2 i u s z++.obj D (.deferred (some []))::Γ)) W2:=(hent.facts w0 F W2 ho2).perm List.perm_middle
   have fr3:=hent.slots _ _ fr2
   refine ⟨_,run_beginRound ho3.objAt (hLr _ _),?_⟩
   have ho4:=(ho3.turn (o':=.loop { rec .ready none with state:=.busy })).perm (List.perm_middle (l₁:=N2 i u s z)).symm
   refine wpIn_mono (hbd i hin u s z _ (D+1) (fun _ _ h=>by rcases h with h | h <;> cases h.1) _ _ fr3 ho4) ?_
   rintro x a5 W5 ⟨e5,Γ5,hx,fr5,ho5⟩
   rcases hx with ⟨rfl,s2,hm⟩ | ⟨rfl,k,hm⟩
   ·have ho6:=(hm _ ho5).perm (List.perm_middle (l₁:=M (i+1) s2))
    refine ⟨_,_,run_endRound none ho6.objAt, .inl ⟨rfl,s2,?_⟩⟩
    have ho7:=ho6.turn (o':=.loop (rec .ready none))
    have er:(Obj.loop { ({ rec .ready none with state:=.busy }:Loop) with state:=if (none:Option Code).isNone then .ready else .done,pending:=none }) = .loop (rec .ready none):=by rw [hrec]; rfl
    rw [er]
    refine ho7.perm ?_
    show List.Perm _ (Γ++.obj (D+1) (.loop (rec .ready none))::.obj D (.deferred (some []))::M (i+1) s2)
    refine (List.Perm.cons _ ?_).trans List.perm_middle.symm
    refine List.perm_middle.trans ((List.Perm.cons _ List.perm_append_comm).trans List.perm_middle.symm)
   ·have ho6:=(hm _ ho5).perm (List.perm_middle (l₁:=X k))
    refine ⟨_,_,run_endRound (some .ret) ho6.objAt, .inr ⟨rfl,k,?_⟩⟩
    have ho7:=ho6.turn (o':=.loop { rec .ready none with state:=.done,pending:=some .ret })
    have er:(Obj.loop { ({ rec .ready none with state:=.busy }:Loop) with state:=if (some Code.ret:Option Code).isNone then .ready else .done,pending:=some .ret }) = .loop { rec .ready none with state:=.done,pending:=some .ret }:=by rfl
    rw [er]
    refine ho7.perm ?_
    show List.Perm _ (Γ++.obj (D+1) (.loop { rec .ready none with state:=.done,pending:=some .ret })::.obj D (.deferred (some []))::X k)
    refine (List.Perm.cons _ ?_).trans List.perm_middle.symm
    refine List.perm_middle.trans ((List.Perm.cons _ List.perm_append_comm).trans List.perm_middle.symm)
  ·show List.Perm _ (Γi++.obj (D+1) (.loop (rec .ready none))::.obj D (.deferred (some []))::M 0 s0)
   refine (List.Perm.trans ?_ List.perm_middle.symm)
   exact List.Perm.cons _ List.perm_middle.symm
  ·have frD:∀ {W},Hold w0 F Γ W→Fr ⟨n.s,⟨.collected D,#[]⟩::n.ds⟩ e { a with defers:=[⟨.collected D,#[]⟩]++a.defers }:=fun _=>⟨by show [_]++a.defers=_; rw [fr.defers]; rfl,fr.size,fr.slot⟩
   have frE:=frD ho
   rintro x W3 ⟨⟨v,rfl⟩,⟨s,hM⟩ | ⟨k,hX⟩⟩
   ·refine ⟨none,W3.putObj (D+1) (.loop { rec .ready none with state:=.exhausted }),?_,?_⟩
    ·have:=run_endLoop (P:=P) hM.objAt (by rw [hLr]; simp)
     have ep:(rec .ready none).pending=none:=by rw [hrec]
     exact this.trans (congrArg (fun x=>Result.ok x _) ep)
    ·have ho9:=(hM.turn (o':=.loop { rec .ready none with state:=.exhausted })).tail
     exact ⟨_,e,_,kn D s,frE,ho9⟩
   ·refine ⟨some .ret,_,run_endLoop (P:=P) hX.objAt (by simp),?_⟩
    have ho9:=(hX.turn (o':=.loop { ({ rec .ready none with state:=.done,pending:=some .ret }:Loop) with state:=.exhausted })).tail
    exact wpIn_ret ⟨_,e,_,kr D k,frE,ho9⟩
theorem Yay {Q:Nn→Cont} {x y:Code} (h:JX P n w0 F x (fun n'=>andThen (JC P n' w0 F y (Q n')) (Q n')) e Γ):JX P n w0 F (.seq x y) Q e Γ:=by
 intro a w fr ho
 refine wp_seq (wp_mono (h a w fr ho) ?_)
 rintro z a w ⟨n',e,Γ,hq,fr,ho⟩
 cases z <;> first | exact wp_mono (hq a w fr ho) (fun x a w ⟨e,Γ,hq⟩=>⟨n',e,Γ,hq⟩) | exact ⟨n',e,Γ,hq,fr,ho⟩
theorem JX.block {Q:Nn→Cont} {id:Nat} {c:Code} (h:JX P n w0 F c (fun n'=>inBlock id (Q n')) e Γ):JX P n w0 F (.block id c) Q e Γ:=by
 intro a w fr ho
 refine wp_block (wp_mono (h a w fr ho) ?_)
 rintro x a w ⟨n',e,Γ,hq,fr,ho⟩
 cases x with
 | exit id' =>
  simp only [inBlock,Exit.inBlock] at *
  split
  ·rename_i he; rw [if_pos he] at hq; exact ⟨n',e,Γ,hq,fr,ho⟩
  ·rename_i he; rw [if_neg he] at hq; exact ⟨n',e,Γ,hq,fr,ho⟩
 | _=>exact ⟨n',e,Γ,hq,fr,ho⟩
theorem Xxz {f:FuncId} {fn:Func} {c:Code} {rs:List ResultVar} {args:List Value} {w:World} {Y:Type} {v:Y→Value} {B:Y→List Fact}
  {m:Nat} (hf:P.funcs[f]? = some fn) (hb:fn.body=some c) (hn:fn.ntmps=m) (hr:fn.results=⟨rs⟩) (hl:Nat.ble args.length m=true) (Γ:List Fact) (ho:Hold w F Γ w)
  (h:JX P ⟨m,[]⟩ w F c (fun n' x e Γ=>∃ D Γ',n'=⟨m,[⟨.collected D,#[]⟩]⟩∧(x = .ret∨x = .normal)∧(∀ w1,Hold w F Γ w1→Hold w F (.obj D (.deferred (some []))::Γ') w1)∧Xah P w F rs v B .ret e Γ') (enum 0 args) Γ):Gives P f args w F v B:=by
 refine callsIn_wide.1 (callsIn_of_wp_marks (F:=Fence.wide) (n:=3) hf hb trivial ?_)
 rw [hn]
 refine wpIn_mono ((wpIn_wide (n:=3)).2 (h _ w (Fr.start hl) ho)) ?_
 rintro x a w' ⟨n',e,Γ,⟨D,Γ',rfl,hx,hΓ,_,y,vs,hres,hpk,hB⟩,fr,ho'⟩
 have ho1:=hΓ w' ho'
 have ho2:=(ho1.turn (o':=.deferred none)).tail
 have fr':Fr ⟨m,[]⟩ e ⟨a.tmps,[]⟩:=⟨rfl,fr.size,fr.slot⟩
 have hrun:=Xeb (P:=P) hr hres fr' ho2
 have key:LeavesInM Fence.wide 3 P fn a.tmps (fun x w'=>∃ y,x = .returned (v y)∧Bel w.heap.size w w'∧Fresh w.heap.size F (B y) w') a.defers .returning w':=by
  rw [fr.defers]
  refine ⟨by simp, .inl ⟨D,_,rfl,run_takeDeferred ho1.objAt,?_⟩⟩
  exact ⟨_,hrun,y,by rw [hpk],ho2.below,(hB _ ho2).fresh⟩
 rcases hx with rfl | rfl <;> exact key
end
section
attribute [local irreducible] JC JO JR JQ andThen inBlock OpV Gives Xah JM JS
section
attribute [local irreducible] JY JI JX
theorem Xs4 (a:Option Addr) (c:Nat) (b:List UInt8) (h:(sl a c b).holds F w) :
  Gives prog 141 [.slice a b.length c] w F (fun y:Nat=>.func (.func 213) #[] ⟨[.pointer (some ⟨y,0,none⟩)]⟩) (fun y=>[.own y 47 [.slice a b.length c]]):=by
 refine Xaa func141 rfl ntmps141 rfl rfl [.st (sl a c b)] (.start1 h) ?_
 (repeat (refine wE ?_; intro _)); refine wA ?_
 rename_i bx
 exact Xac bx rfl
noncomputable def comAt (b:List UInt8) (i:Nat):Commit:=(decL (readL b)).getD i com0
noncomputable def endAt (b:List UInt8) (i:Nat):Nat:=(Xaf ((readL b).take (i+1))).length
theorem Xvs (w0:World) (F:Nat→Prop) (bx:Nat) (a:Option Addr) (c:Nat) (b:List UInt8) (hb:b.length≤1048576) :
  Iter prog w0 F 213 [.pointer (some ⟨bx,0,none⟩)] (decL (readL b)).length (ι:=Option Addr × Nat) (fun i u=>Xap (comAt b i) u.1 u.2) (fun i u=>.int .i64 (endAt b i:Int))
   (fun i u=>[.st (sl u.1 u.2 (comAt b i).parents)]) [.own bx 47 [.slice a b.length c], .st (sl a c b)]:=by
 intro l κ ξ M X hY s0 w ho
 have hpre:Xaf (readL b) <+: b:=Xfw _ _
 have hfl:(Xaf (readL b)).length≤b.length:=hpre.length_le
 have hrl:=Xgh (readL b)
 have hsm:∀ x∈readL b,x.length≤4000:=Xhn _ _
 have hdl:=Xik (readL b)
 refine Calls.mono (R:=fun x w'=>∃ y:ξ ⊕ κ,x = .returned (.tuple ⟨[]⟩)∧Hold w0 F (match y with | .inl s=>M (decL (readL b)).length s | .inr k=>X k) w') ?key ?mono
 case mono =>
  rintro x w' ⟨y,rfl,hy⟩
  cases y with
  | inl s=>exact ⟨⟨_,rfl⟩, .inl ⟨s,hy⟩⟩
  | inr k=>exact ⟨⟨_,rfl⟩, .inr ⟨k,hy⟩⟩
 refine Xa4 (Y:=ξ ⊕ κ) (v:=fun _=>.tuple ⟨[]⟩) (B:=fun y=>match y with | .inl s=>M (decL (readL b)).length s | .inr k=>X k) func213 rfl ntmps213 rfl rfl
  (.own bx 47 [.slice a b.length c]::.st (sl a c b)::M 0 s0) ho ?_
 refine wz9 ?_
 refine Xcy rfl (fun w1 hw=>X7l w1 _ a c b hw.get hb) ?_
 intro a3 c3
 generalize hrs:readL b=rs at hY hpre hfl hrl hsm hdl ⊢
 refine wz4 ?_
 refine JC.reslot 5 (.int .i64 ((Xaf (rs.take 0)).length:Int)) rfl ?_
 refine Xc8 (fun (i:Nat) (s:ξ)=>[(0, .func (.yield l) #[] #[]),(5, .int .i64 ((Xaf (rs.take i)).length:Int)),(18, .slice a3 rs.length c3),(19, .int .i64 (rs.length:Int)),(20, .int .i64 (i:Int))])
  (fun i s=>.st (sl a3 c3 rs)::M i s) (fun i _=>i≤(decL rs).length) (fun i _=>rs.length - i) 0 s0 (Nat.zero_le _) iI ?_
 intro i s hi
 refine wz11 ?_
 refine JC.test (fun h1=>?_) (fun h1=>?_)
 ·have hlt:i < rs.length:=by omega
  refine wz14 ?_
  have hx:=hsm rs[i] (List.getElem_mem hlt)
  have hfr:Xpb rs[i]=(Xbn rs[i],0):=if_neg (by omega)
  refine Xhi (k:=i) rfl hlt ?_
  intro b5 o5 a5 c5
  refine wz9 ?_
  refine Xcy rfl (fun w1 hw=>Xvj w1 _ a5 c5 rs[i] hw.get) ?_
  rw [hfr]
  intro a6 c6
  dsimp only
  have hnx:=Xvr hlt
  have hle:=Xil rs (i+1)
  refine wA ?_
  refine Xmz (B:=fun y:GetY rs[i]=>.st (sl y.pa y.pc (getT rs[i]).1.parents)) (C:=fun y:GetY rs[i]=>.st (sl y.ra y.rc (getT rs[i]).2.1)) rfl (fun w1 hw=>Yav w1 _ a5 c5 rs[i] hw.get (by omega)) ?_
  rintro ⟨pa,pc,ra,rc⟩
  dsimp only
  by_cases hd:i < (decL rs).length
  ·have hg:=Xs3 rs i hd hlt
   have hT:getT rs[i]=((decL rs)[i],[],0):=Xpd hg
   rw [hT]
   dsimp only
   have hcm:comAt b i=(decL rs)[i]:=by unfold comAt; rw [hrs,List.getD_eq_getElem?_getD,List.getElem?_eq_getElem hd]; rfl
   have hend:endAt b i=(Xaf (rs.take (i+1))).length:=by unfold endAt; rw [hrs]
   generalize (decL rs)[i]=cm at hg hcm ⊢
   repeat (first|refine Wd ?_|refine We rfl ?_|refine Wf (by first|exact Va|exact Vb|exact Vc|exact Vd|exact Ve|exact Vf|exact Vg|exact Vh|exact Vi|exact Vj|exact Vk (by omega)|exact Vl|exact Vm|exact Vn|exact Vo|exact Vp|exact Vq|exact Vr|exact Vs (by omega)|exact Vt (by omega)|exact Vu (by omega)|exact Vv (by omega)|exact Vw|exact Vx|exact Vy|exact Vz|exact VA|exact VB|exact VC|exact VD|exact VE|exact VF) rfl ?_|(refine Wg rfl ?_; intro _)|(refine Wh rfl ?_; intro _)|refine Wi ?_|refine Wv rfl rfl ?_)
   rename_i bc
   refine Wa ?_
   refine Wb ?_
   refine X1e ?_
   refine z3z ?_
   refine JY.reslot 49 (.int .i64 ((Xaf (rs.take (i+1))).length:Int)) (by congr 1; omega) ?_
   refine JY.reslot 5 (.int .i64 ((Xaf (rs.take (i+1))).length:Int)) (by congr 1; omega) ?_
   refine JY.yield (l:=l) (κ:=κ) (ξ:=ξ) (Γt:=fun s=>.st (sl a3 c3 rs)::M (i+1) s) (Γf:=fun k=>.st (sl a3 c3 rs)::X k) rfl rfl (fun w1 ho=>?_) (fun s2=>?_) (fun k=>?_)
   ·have hy:=hY i hd (pa,pc) s [.st (sl a3 c3 rs)] w1
    dsimp only at hy
    rw [hcm,hend] at hy
    exact hy (ho.ent:Hold w0 F (.st (sl pa pc cm.parents)::.st (sl a3 c3 rs)::M i s) w1)
   ·refine z3z ?_
    refine wz2 ?_
    exact ⟨i+1,s2,by omega,by omega,iI⟩
   ·refine z3z ?_
    refine wz8 ?_
    exact Xac (.inr k) rfl
  ·obtain rfl:i=(decL rs).length:=by omega
   have hne:=Xy4 rs hlt
   cases hg:getC (rs[(decL rs).length]) with
   | none =>
    rw [Xvq hg]
    dsimp only
    (repeat (refine wF ?_; intro _)); refine wX ?_
    exact Xac (.inl s) rfl
   | some q =>
    obtain ⟨cm,R⟩:=q
    rw [Xpd hg]
    dsimp only
    have hR:0 < R.length:=by
     cases R with
     | nil=>exact (hne ⟨cm,hg⟩).elim
     | cons r R=>simp
    (repeat (refine wF ?_; intro _)); refine wX ?_
    refine JO.test 46 (fun h6=>?_) (fun h6=>absurd h6 (by omega))
    refine wz8 ?_
    exact Xac (.inl s) rfl
 ·obtain rfl:i=(decL rs).length:=by omega
  refine wz3 ?_
  exact Xj6 (.inl s) rfl
end
section
attribute [local irreducible] JY JI JX Xas
theorem X7o {l:List (List UInt8)} {c:Commit} (h:c∈decL l):fine c:=by
 obtain ⟨i,hi,rfl⟩:=List.getElem_of_mem h
 obtain ⟨h1,h2⟩:=Xy6 (Xs3 l i hi (Nat.lt_of_lt_of_le hi (Xik l)))
 exact ⟨h2,by have:=Xo3 h1; omega⟩
theorem Xlp (a:Option Addr) (c:Nat) (b:List UInt8) (h:(sl a c b).holds F w) (hb:b.length≤1048576) :
  Xg4 prog 80 [.slice a b.length c] w F (Xa3 b) [.int .i64 (Xau b:Int)]:=by
 obtain ⟨xs,hxs⟩:∃ xs,xs=decL (readL b):=⟨_,rfl⟩
 obtain ⟨rs,hrs⟩:∃ rs,rs=readL b:=⟨_,rfl⟩
 refine Xxz func80 rfl ntmps80 rfl rfl [.st (sl a c b)] (.start1 h) ?_
 refine JX.seq ?_
 (repeat (refine wE ?_; intro _)); refine wA ?_
 rename_i b2 b3
 refine ⟨rfl,JX.seq ?_⟩
 (repeat (refine wE ?_; intro _)); refine wA ?_
 rename_i b4
 refine ⟨rfl,JX.seq ?_⟩
 (repeat (refine wE ?_; intro _)); refine wA ?_
 rename_i b5
 refine ⟨rfl,Yay (JX.seq ?_)⟩
 refine wz14 ?_
 refine JR.call1 (B:=fun y:Nat=>.own y 47 [.slice a b.length c]) rfl (fun w1 hw=>Xs4 w1 _ a c b hw.get) ?_
 intro bx
 refine wz10 ?_
 refine ⟨rfl,JX.block ?_⟩
 let E0:E:=[(2, .pointer (some ⟨b2,0,none⟩)),(3, .pointer (some ⟨b3,0,none⟩)),(4, .pointer (some ⟨b4,0,none⟩)),(5, .pointer (some ⟨b5,0,none⟩))]
 have hiter:=Xvs w F bx a c b hb
 rw [← hxs] at hiter
 refine JX.range (ξ:=Option Addr × Nat) (κ:=Option Addr × Nat) (ζ:=Nat)
  (fun i s=>[.own b2 22 [.slice none 0 0], .own b3 3 [.int .i64 0], .own b4 22 [.slice s.1 (xs.take i).length s.2], .own b5 3 [.int .i64 ((Xaf (rs.take i)).length:Int)], .res (buf s.1 s.2 31 (xs.take i)), .st (tru (Xa9 [] xs=Xa9 (xs.take i) (xs.drop i)))])
  (fun k=>[.own b2 22 [.slice k.1 (Xa3 b).length k.2], .own b3 3 [.int .i64 (Xau b:Int)], .st (sl k.1 k.2 (Xa3 b))])
  (fun i u s z=>(7, .int .i64 (endAt b i:Int))::(6, .pointer (some ⟨z,0,none⟩))::E0)
  (fun i u s z=>[.own z 31 [.int .i64 (comAt b i).ev.node, .int .i64 (comAt b i).ev.seq, .int .i64 (comAt b i).gen, .slice u.1 (comAt b i).parents.length u.2, .int .i64 (comAt b i).op.kind, .string (comAt b i).op.key, .string (comAt b i).op.elem, .int .i64 (comAt b i).op.n], .st (sl u.1 u.2 (comAt b i).parents),
   .own b2 22 [.slice none 0 0], .own b3 3 [.int .i64 0], .own b4 22 [.slice s.1 (xs.take i).length s.2], .own b5 3 [.int .i64 ((Xaf (rs.take i)).length:Int)], .res (buf s.1 s.2 31 (xs.take i)), .st (tru (Xa9 [] xs=Xa9 (xs.take i) (xs.drop i)))])
  (none,0) rfl rfl hiter ?h0 ?ha ?hbd ?kn ?kr
 case h0 =>
  intro w1 ho
  show Hold w F [.own bx 47 [.slice a b.length c], .st (sl a c b), .own b2 22 [.slice none 0 0], .own b3 3 [.int .i64 0], .own b4 22 [.slice none 0 0], .own b5 3 [.int .i64 0], .res (buf (α:=Commit) none 0 31 []), .st (tru (Xa9 [] xs=Xa9 (xs.take 0) (xs.drop 0)))] w1
  have:=((ho.ent:Hold w F [.own bx 47 [.slice a b.length c], .st (sl a c b), .own b2 22 [.slice none 0 0], .own b3 3 [.int .i64 0], .own b4 22 [.slice none 0 0], .own b5 3 [.int .i64 0]] w1).add (A:=tru (Xa9 [] xs=Xa9 (xs.take 0) (xs.drop 0))) rfl)
  exact (this.bufNil (α:=Commit) (el:=31) (Γ':=.st (tru (Xa9 [] xs=Xa9 (xs.take 0) (xs.drop 0)))::[.own bx 47 [.slice a b.length c], .st (sl a c b), .own b2 22 [.slice none 0 0], .own b3 3 [.int .i64 0], .own b4 22 [.slice none 0 0], .own b5 3 [.int .i64 0]])).ent
 case ha =>
  rintro i hi ⟨pa,pc⟩ ⟨p,q⟩ Γ l
  dsimp only [List.cons_append,List.nil_append]
  repeat (first|refine Wa ?_|refine JI.seq ?_|refine JI.region rfl ?_|refine Wd ?_|refine We rfl ?_|refine Wf (by first|exact Va|exact Vb|exact Vc|exact Vd|exact Ve|exact Vf|exact Vg|exact Vh|exact Vi|exact Vj|exact Vk (by omega)|exact Vl|exact Vm|exact Vn|exact Vo|exact Vp|exact Vq|exact Vr|exact Vs (by omega)|exact Vt (by omega)|exact Vu (by omega)|exact Vv (by omega)|exact Vw|exact Vx|exact Vy|exact Vz|exact VA|exact VB|exact VC|exact VD|exact VE|exact VF) rfl ?_|(refine Wg rfl ?_; intro _)|(refine Wh rfl ?_; intro _)|refine Wi ?_|refine Xds ?_|refine Xc1 ?_|refine JI.skip ?_|refine JI.ret ?_|refine Wt ?_|refine JI.block ?_|refine Wr ?_|refine Wu ?_|refine Wv rfl rfl ?_|(refine Ww rfl ⟨rfl,by decide,by decide,by decide⟩ ?_; intro _))
  rename_i z
  exact ⟨rfl,z,iI⟩
 case hbd =>
  rintro i hi ⟨pa,pc⟩ ⟨p,q⟩ z Γ l
  dsimp only [List.cons_append,List.nil_append]
  have hxi:comAt b i=xs[i]:=by unfold comAt; rw [← hxs,List.getD_eq_getElem?_getD,List.getElem?_eq_getElem hi]; rfl
  have hfn:∀ x∈xs.take (i+1),fine x:=fun x hx=>X7o (by rw [← hxs]; exact List.mem_of_mem_take hx)
  have hdl:=Xik (readL b)
  have hrl:=Xgh (readL b)
  have hpre:(Xaf (readL b)).length≤b.length:=(Xfw _ _:Xaf (readL b) <+: b).length_le
  rw [← hxs] at hdl
  have hlen:(xs.take i).length=i:=by rw [List.length_take]; omega
  have hnext:xs.take (i+1)=xs.take i++[comAt b i]:=by rw [hxi]; exact List.take_succ_eq_append_getElem hi
  refine JI.know (fun w1 ho=>(ho.get (A:=tru (Xa9 [] xs=Xa9 (xs.take i) (xs.drop i))))) ?_
  intro hcl
  generalize comAt b i=cm at hnext hxi ⊢
  repeat (first|refine Wa ?_|refine JI.seq ?_|refine JI.region rfl ?_|refine Wd ?_|refine We rfl ?_|refine Wf (by first|exact Va|exact Vb|exact Vc|exact Vd|exact Ve|exact Vf|exact Vg|exact Vh|exact Vi|exact Vj|exact Vk (by omega)|exact Vl|exact Vm|exact Vn|exact Vo|exact Vp|exact Vq|exact Vr|exact Vs (by omega)|exact Vt (by omega)|exact Vu (by omega)|exact Vv (by omega)|exact Vw|exact Vx|exact Vy|exact Vz|exact VA|exact VB|exact VC|exact VD|exact VE|exact VF) rfl ?_|(refine Wg rfl ?_; intro _)|(refine Wh rfl ?_; intro _)|refine Wi ?_|refine Xds ?_|refine Xc1 ?_|refine JI.skip ?_|refine JI.ret ?_|refine Wt ?_|refine JI.block ?_|refine Wr ?_|refine Wu ?_|refine Wv rfl rfl ?_|(refine Ww rfl ⟨rfl,by decide,by decide,by decide⟩ ?_; intro _))
  rename_i bl
  refine Xay (L:=xs.take i) (u:=cm) rfl (by exact ⟨rfl,rfl,by decide⟩) (by omega) ?_
  intro a6 c6
  rw [← hnext]
  repeat (first|refine Wa ?_|refine JI.seq ?_|refine JI.region rfl ?_|refine Wd ?_|refine We rfl ?_|refine Wf (by first|exact Va|exact Vb|exact Vc|exact Vd|exact Ve|exact Vf|exact Vg|exact Vh|exact Vi|exact Vj|exact Vk (by omega)|exact Vl|exact Vm|exact Vn|exact Vo|exact Vp|exact Vq|exact Vr|exact Vs (by omega)|exact Vt (by omega)|exact Vu (by omega)|exact Vv (by omega)|exact Vw|exact Vx|exact Vy|exact Vz|exact VA|exact VB|exact VC|exact VD|exact VE|exact VF) rfl ?_|(refine Wg rfl ?_; intro _)|(refine Wh rfl ?_; intro _)|refine Wi ?_|refine Xds ?_|refine Xc1 ?_|refine JI.skip ?_|refine JI.ret ?_|refine Wt ?_|refine JI.block ?_|refine Wr ?_|refine Wu ?_|refine Wv rfl rfl ?_|(refine Ww rfl ⟨rfl,by decide,by decide,by decide⟩ ?_; intro _))
  have hend:endAt b i=(Xaf (rs.take (i+1))).length:=by unfold endAt; rw [← hrs]
  rw [hend]
  have hlen1:(xs.take (i+1)).length=i+1:=by rw [List.length_take]; omega
  by_cases hc:Closed (xs.take (i+1))
  ·have hst:=Xxw hi hcl hc
   refine JR.callV rfl (fun w1 hw=>(Xlh w1 (fun _=>True) a6 c6 (xs.take (i+1)) (Hold.bufSlOf (α:=Commit) (a:=a6) (c:=c6) (el:=31) (L:=xs.take (i+1)) hw) (by omega) hfn hc).any) ?_
   repeat (first|refine Wa ?_|refine JI.seq ?_|refine JI.region rfl ?_|refine Wd ?_|refine We rfl ?_|refine Wf (by first|exact Va|exact Vb|exact Vc|exact Vd|exact Ve|exact Vf|exact Vg|exact Vh|exact Vi|exact Vj|exact Vk (by omega)|exact Vl|exact Vm|exact Vn|exact Vo|exact Vp|exact Vq|exact Vr|exact Vs (by omega)|exact Vt (by omega)|exact Vu (by omega)|exact Vv (by omega)|exact Vw|exact Vx|exact Vy|exact Vz|exact VA|exact VB|exact VC|exact VD|exact VE|exact VF) rfl ?_|(refine Wg rfl ?_; intro _)|(refine Wh rfl ?_; intro _)|refine Wi ?_|refine Xds ?_|refine Xc1 ?_|refine JI.skip ?_|refine JI.ret ?_|refine Wt ?_|refine JI.block ?_|refine Wr ?_|refine Wu ?_|refine Wv rfl rfl ?_|(refine Ww rfl ⟨rfl,by decide,by decide,by decide⟩ ?_; intro _))
   refine .inl ⟨rfl,(a6,c6),fun w1 ho=>?_⟩
   exact (ho.add (A:=tru (Xa9 [] xs=Xa9 (xs.take (i+1)) (xs.drop (i+1)))) hst).ent
  ·have hst:Xa3 b=xs.take i:=by unfold Xa3; rw [← hxs]; exact Xxx hi hcl hc
   have hle:Xau b=(Xaf (rs.take i)).length:=by unfold Xau; rw [hst,hlen,← hrs]
   rw [hst,hle]
   refine JR.callV rfl (fun w1 hw=>(Xuz w1 (fun _=>True) a6 c6 (xs.take (i+1)) (Hold.bufSlOf (α:=Commit) (a:=a6) (c:=c6) (el:=31) (L:=xs.take (i+1)) hw) (by omega) hfn hc).any) ?_
   repeat (first|refine Wa ?_|refine JI.seq ?_|refine JI.region rfl ?_|refine Wd ?_|refine We rfl ?_|refine Wf (by first|exact Va|exact Vb|exact Vc|exact Vd|exact Ve|exact Vf|exact Vg|exact Vh|exact Vi|exact Vj|exact Vk (by omega)|exact Vl|exact Vm|exact Vn|exact Vo|exact Vp|exact Vq|exact Vr|exact Vs (by omega)|exact Vt (by omega)|exact Vu (by omega)|exact Vv (by omega)|exact Vw|exact Vx|exact Vy|exact Vz|exact VA|exact VB|exact VC|exact VD|exact VE|exact VF) rfl ?_|(refine Wg rfl ?_; intro _)|(refine Wh rfl ?_; intro _)|refine Wi ?_|refine Xds ?_|refine Xc1 ?_|refine JI.skip ?_|refine JI.ret ?_|refine Wt ?_|refine JI.block ?_|refine Wr ?_|refine Wu ?_|refine Wv rfl rfl ?_|(refine Ww rfl ⟨rfl,by decide,by decide,by decide⟩ ?_; intro _))
   refine JI.more (Γ':=.st (sl a6 c6 (xs.take (i+1)))::.own b2 22 [.slice none 0 0]::.own b3 3 [.int .i64 0]::.own b4 22 [.slice a6 (xs.take (i+1)).length c6]::.own b5 3 [.int .i64 ((Xaf (rs.take i)).length:Int)]::Γ) (fun w1 ho=>(ho.ent:Hold w F (.res (buf a6 c6 31 (xs.take (i+1)))::.own b2 22 [.slice none 0 0]::.own b3 3 [.int .i64 0]::.own b4 22 [.slice a6 (xs.take (i+1)).length c6]::.own b5 3 [.int .i64 ((Xaf (rs.take i)).length:Int)]::Γ) w1).pub) ?_
   refine JI.drawP mixed rfl ?_
   refine JP.tv 0 [.own b4 22 [.slice a6 (xs.take (i+1)).length c6]] ?_
   refine JP.tv 1 [.own b4 22 [.slice a6 (xs.take (i+1)).length c6]] ?_
   refine Xab 2 ?_
   refine JP.pure 3 rfl (by kernel_rfl) rfl (fun _=>Vv (by omega)) rfl rfl ?_
   refine JP.reslot 22 (.int .i64 (i:Int)) (by congr 1; omega) ?_
   refine JP.take 4 [.st (sl a6 c6 (xs.take (i+1)))] rfl (by kernel_rfl) rfl (Xa6 (k:=i) (fun w1 ho=>by have:=(Hold.get (A:=sl a6 c6 (xs.take (i+1))) ho).1; omega)) rfl rfl ?_
   refine JP.tv 5 [.own b5 3 [.int .i64 ((Xaf (rs.take i)).length:Int)]] ?_
   refine Xai 6 rfl rfl (Wi (Wd (nO ?_)))
   refine Xai 7 rfl rfl (Wi (Wd (nO ?_)))
   refine JP.nil (by kernel_rfl) ?_
   repeat (first|refine Wa ?_|refine JI.seq ?_|refine JI.region rfl ?_|refine Wd ?_|refine We rfl ?_|refine Wf (by first|exact Va|exact Vb|exact Vc|exact Vd|exact Ve|exact Vf|exact Vg|exact Vh|exact Vi|exact Vj|exact Vk (by omega)|exact Vl|exact Vm|exact Vn|exact Vo|exact Vp|exact Vq|exact Vr|exact Vs (by omega)|exact Vt (by omega)|exact Vu (by omega)|exact Vv (by omega)|exact Vw|exact Vx|exact Vy|exact Vz|exact VA|exact VB|exact VC|exact VD|exact VE|exact VF) rfl ?_|(refine Wg rfl ?_; intro _)|(refine Wh rfl ?_; intro _)|refine Wi ?_|refine Xds ?_|refine Xc1 ?_|refine JI.skip ?_|refine JI.ret ?_|refine Wt ?_|refine JI.block ?_|refine Wr ?_|refine Wu ?_|refine Wv rfl rfl ?_|(refine Ww rfl ⟨rfl,by decide,by decide,by decide⟩ ?_; intro _))
   refine .inr ⟨rfl,(a6,c6),fun w1 ho=>?_⟩
   have e1:=Xgb (k:=i) (c':=c6) (ho.get (A:=sl a6 c6 (xs.take (i+1)))) (by omega) ⟨by have:=(ho.get (A:=sl a6 c6 (xs.take (i+1)))).1; omega,Nat.le_refl _⟩
   rw [List.take_take,Nat.min_eq_left (by omega)] at e1
   have e2:=ho.add (A:=sl a6 c6 (xs.take i)) e1
   dsimp only
   rw [hlen]
   exact e2.ent
 case kn =>
  rintro D ⟨p,q⟩
  refine Wr ?_
  refine Wa ?_
  dsimp only
  refine JC.know (fun w1 ho=>(ho.get (A:=tru (Xa9 [] xs=Xa9 (xs.take xs.length) (xs.drop xs.length))))) ?_
  intro hcl
  rw [List.take_length,List.drop_length] at hcl ⊢
  have hst:Xa3 b=xs:=by unfold Xa3; rw [← hxs]; exact hcl
  have hle:Xau b=(Xaf (rs.take xs.length)).length:=by unfold Xau; rw [hst,← hrs]
  rw [hst,hle]
  refine JC.more (Γ':=.st (sl p q xs)::.obj D (.deferred (some []))::.own b2 22 [.slice none 0 0]::.own b3 3 [.int .i64 0]::.own b4 22 [.slice p xs.length q]::[.own b5 3 [.int .i64 ((Xaf (rs.take xs.length)).length:Int)]]) (fun w1 ho=>(ho.ent:Hold w F (.res (buf p q 31 xs)::.obj D (.deferred (some []))::.own b2 22 [.slice none 0 0]::.own b3 3 [.int .i64 0]::.own b4 22 [.slice p xs.length q]::[.own b5 3 [.int .i64 ((Xaf (rs.take xs.length)).length:Int)]]) w1).pub) ?_
  refine Wb ?_
  refine JC.drawP mixed ?_
  refine JP.tv 0 [.own b4 22 [.slice p xs.length q]] ?_
  refine JP.tv 1 [.own b5 3 [.int .i64 ((Xaf (rs.take xs.length)).length:Int)]] ?_
  refine Xai 2 rfl rfl (Wi (Wd (nO ?_)))
  refine Xai 3 rfl rfl (Wi (Wd (nO ?_)))
  refine JP.nil (by kernel_rfl) ?_
  refine wz13 ?_
  refine ⟨D,[.own b2 22 [.slice p xs.length q], .own b3 3 [.int .i64 ((Xaf (rs.take xs.length)).length:Int)], .st (sl p q xs)],rfl, .inl rfl,fun w1 ho=>ho.ent,?_⟩
  exact Xac (p,q) rfl
 case kr =>
  rintro D ⟨p,q⟩
  refine Wu ?_
  refine Wt ?_
  refine ⟨D,[.own b2 22 [.slice p (Xa3 b).length q], .own b3 3 [.int .i64 (Xau b:Int)], .st (sl p q (Xa3 b))],rfl, .inl rfl,fun w1 ho=>ho.ent,?_⟩
  exact Xac (p,q) rfl
end
theorem Xpf {n:Int} (h : -1099511627776≤n∧n≤1099511627776):Xek (Xfo n)=n:=by
 unfold Xek Xfo
 split
 ·split <;> omega
 ·split <;> omega
theorem X1f (s:ByteArray):strB (bytesOf s)=s:=by
 cases s with
 | mk d=>cases d; rfl
theorem Xpg {s:ByteArray} {m:Nat} (h:s.size≤m) (hm:m≤1048576) (r:List UInt8):cutT (Xd6 s++r) m=(s,r,true):=by
 have hb:=Xgc s
 have hN:getN (Xd6 s++r)=(s.size,(numL s.size).length):=by
  unfold Xd6; rw [List.append_assoc]; exact Xdk (by omega) _
 have hp:=Xcl s.size
 have d1:(Xd6 s++r).drop (numL s.size).length=bytesOf s++r:=by
  unfold Xd6; rw [List.append_assoc,List.drop_left' rfl]
 unfold cutT
 rw [hN]
 dsimp only
 rw [d1,if_neg (by unfold Xd6; rw [List.length_append,List.length_append,hb]; omega),List.take_left' hb,List.drop_left' hb,X1f]
theorem Xlq {s:ByteArray} (h:Xdh s=true):s.size≤8:=by
 unfold Xdh at h
 simp only [Bool.and_eq_true,decide_eq_true_eq] at h
 exact h.2
theorem X45 {o:Op_} (h:Xc0 o=true) (r:List UInt8):getOp (Xc4 o++r)=(o,r,0):=by
 have hm:=h
 unfold Xc0 at h
 by_cases h0:o.kind=0
 ·rw [if_pos h0] at h
  simp only [Bool.and_eq_true,decide_eq_true_eq] at h
  obtain ⟨hk,⟨⟨⟨hn0,hn1⟩,hn2⟩,he⟩⟩:=h
  have hs:=Xlq hk
  have hf : -1099511627776≤o.n∧o.n≤1099511627776:=by omega
  have e0:Xc4 o++r=numL 0++(Xd6 o.key++(numL (Xfo o.n)++r)):=by
   unfold Xc4; rw [if_pos h0,h0]; simp
  have hN:getN (Xc4 o++r)=(0,(numL 0).length):=by rw [e0]; exact Xdk (by omega) _
  have hd:(Xc4 o++r).drop (numL 0).length=Xd6 o.key++(numL (Xfo o.n)++r):=by rw [e0]; exact List.drop_left' rfl
  have hR:restOp 0 o.key (numL (Xfo o.n)++r)=(o,r,true):=by
   unfold restOp
   rw [if_pos rfl,Xdk (Xm6 hf)]
   dsimp only
   rw [Xpf hf,List.drop_left' rfl]
   have:=Xcl (Xfo o.n)
   refine Prod.ext ?_ (Prod.ext rfl (decide_eq_true (by omega)))
   cases o
   simp only at h0 he
   subst h0 he
   rfl
  have hp:=Xcl 0
  unfold getOp
  rw [hN]
  dsimp only
  rw [hd,Xpg hs (by decide),if_neg (by omega),if_neg (by simp)]
  dsimp only
  rw [hR,if_pos ⟨rfl,hm⟩]
 ·rw [if_neg h0] at h
  split at h
  ·rename_i hk3
   simp only [Bool.and_eq_true,decide_eq_true_eq] at h
   obtain ⟨hk,hn,he⟩:=h
   have hs:=Xlq hk
   have hse:=Xlq he
   have e0:Xc4 o++r=numL o.kind.toNat++(Xd6 o.key++(Xd6 o.elem++r)):=by
    unfold Xc4; rw [if_neg h0]; simp
   have hN:getN (Xc4 o++r)=(o.kind.toNat,(numL o.kind.toNat).length):=by rw [e0]; exact Xdk (by omega) _
   have hd:(Xc4 o++r).drop (numL o.kind.toNat).length=Xd6 o.key++(Xd6 o.elem++r):=by rw [e0]; exact List.drop_left' rfl
   have hR:restOp o.kind.toNat o.key (Xd6 o.elem++r)=(o,r,true):=by
    unfold restOp
    rw [if_neg (by omega),Xpg hse (by decide)]
    refine Prod.ext ?_ rfl
    have hk:((o.kind.toNat:Nat):Int)=o.kind:=by omega
    rw [hk]
    cases o
    simp only at hn
    subst hn
    rfl
   have hp:=Xcl o.kind.toNat
   unfold getOp
   rw [hN]
   dsimp only
   rw [hd,Xpg hs (by decide),if_neg (by omega),if_neg (by simp)]
   dsimp only
   rw [hR,if_pos ⟨rfl,hm⟩]
  ·cases h
theorem Xq8:∀ (ps:List ID) (r:List UInt8),Xfv ps.length (idsL ps++r)=some (ps,r)
 | [],r=>rfl
 | p::ps,r=>by
  have e0:idsL (p::ps)++r=p.1++(idsL ps++r):=by simp [idsL]
  have hl:32≤(idsL (p::ps)++r).length:=by rw [e0,List.length_append,p.2]; omega
  have hd:(idsL (p::ps)++r).drop 32=idsL ps++r:=by rw [e0]; exact List.drop_left' p.2
  show Xfv (ps.length+1) _=_
  rw [Xfv,dif_pos hl,hd,Xq8 ps r]
  have ht:Xkn (idsL (p::ps)++r) hl=p:=Subtype.ext (by show List.take 32 _=_; rw [e0]; exact List.take_left' p.2)
  rw [ht]
  rfl
theorem Xph {n m:Nat} (h:n≤m) (hm:m≤1048576) (r:List UInt8):Xmv m (numL n++r)=some (n,r):=by
 have:=Xcl n
 unfold Xmv
 rw [Xdk (by omega)]
 dsimp only
 rw [if_neg (by omega),List.drop_left' rfl]
theorem X7p {n:Nat} (h:n < 18446744073709551616) (r:List UInt8):numO (numL n++r)=some (n,r):=by
 have:=Xcl n
 unfold numO
 rw [Xdk h]
 dsimp only
 rw [if_neg (by omega),List.drop_left' rfl]
theorem X7q {c:Commit} (h:may c=true) (r:List UInt8):getC (Xae c++r)=some (c,r):=by
 have hc:=Xsg h
 have hnd:=hc.node; have hsq:=hc.seq; have hgn:=hc.gen; have hpr:=hc.par
 obtain ⟨X,hX⟩:∃ X,X=(if c.ev.node = -1 then r else Xc4 c.op++r):=⟨_,rfl⟩
 have e0:Xae c++r=numL (Xfo c.ev.node)++(numL c.ev.seq.toNat++(numL c.gen.toNat++(numL c.parents.length++(idsL c.parents++X)))):=by
  unfold Xae Xgr
  rw [hX]
  split <;> simp
 have hf : -1099511627776≤c.ev.node∧c.ev.node≤1099511627776:=by omega
 unfold getC
 rw [e0,X7p (Xm6 hf),Option.bind_some]
 dsimp only
 rw [Xph (by omega) (by decide),Option.bind_some]
 dsimp only
 rw [Xph (by omega) (by decide),Option.bind_some]
 dsimp only
 rw [Xph (by omega) (by decide),Option.bind_some]
 dsimp only
 rw [Xq8,Option.bind_some]
 dsimp only
 rw [Xpf hf]
 have hsn:((c.ev.seq.toNat:Nat):Int)=c.ev.seq:=by omega
 have hgg:((c.gen.toNat:Nat):Int)=c.gen:=by omega
 have hev:(⟨c.ev.node,c.ev.seq⟩:Ev_)=c.ev:=rfl
 unfold opC
 rw [hsn,hgg]
 by_cases hn:c.ev.node = -1
 ·rw [if_pos hn,hX,if_pos hn]
  have hop:c.op=op0:=by
   have:=h
   unfold may at this
   split at this
   ·cases this
   ·simp only [Bool.and_eq_true,decide_eq_true_eq] at this
    exact this.2
  have hcc:(⟨⟨c.ev.node,c.ev.seq⟩,c.gen,c.parents,op0⟩:Commit)=c:=by
   rw [← hop,hev]
  rw [hcc]
  unfold finC
  rw [if_pos h]
 ·rw [if_neg hn,hX,if_neg hn,X45 (hc.op hn)]
  dsimp only
  rw [if_pos rfl]
  have hcc:(⟨⟨c.ev.node,c.ev.seq⟩,c.gen,c.parents,c.op⟩:Commit)=c:=by
   rw [hev]
  rw [hcc]
  unfold finC
  rw [if_pos h]
section
attribute [local irreducible] Xas
theorem Xvt (b:List UInt8):∃ k,k≤(decL (readL b)).length∧Xa3 b=(decL (readL b)).take k:=by
 obtain ⟨k,hk,h⟩:=Xq7 (decL (readL b)) []
 exact ⟨k,hk,h⟩
theorem Xlr (b:List UInt8):Xau b≤b.length:=by
 have h1:=Xil (readL b) (Xa3 b).length
 have h2:(Xaf (readL b)).length≤b.length:=(Xfw _ _:Xaf (readL b) <+: b).length_le
 unfold Xau; omega
theorem X1g (a:Option Addr) (c:Nat) (b:List UInt8) (h:(sl a c b).holds F w) (hb:b.length≤1048576) :
  GivesBuf prog 86 [.slice a b.length c] w F 5 (b.take (Xau b)):=by
 have hle:=Xlr b
 refine Xaa func86 rfl ntmps86 rfl rfl [.st (sl a c b)] (.start1 h) ?_
 refine wz10 ?_
 refine Xcy rfl (fun w1 hw=>Xlp w1 _ a c b hw.get hb) ?_
 intro a3 c3
 refine wz4 ?_
 refine Xky (L:=b) (k:=Xau b) rfl rfl hle ?_
 intro a4 c4
 refine wz13 ?_
 refine JR.callBuf rfl (fun w1 hw=>Xel w1 _ a4 c4 (b.take (Xau b)) hw.get (by rw [List.length_take]; omega)) ?_
 intro a5 c5
 refine wz10 ?_
 exact Xac (a5,c5) rfl
def Xfb (l:List Commit) (node:Int):Int:=l.foldl (fun n c=>if c.ev.node=node then max n c.ev.seq else n) 0
theorem X1h (l:List Commit) (node:Int) (i:Nat) (h:i < l.length):Xfb (l.take (i+1)) node=if l[i].ev.node=node then max (Xfb (l.take i) node) l[i].ev.seq else Xfb (l.take i) node:=by
 unfold Xfb
 rw [List.take_succ_eq_append_getElem h,List.foldl_append]
 rfl
theorem Xq9 (a:Option Addr) (c:Nat) (l:List Commit) (node:Int) (h:(sl a c l).holds F w) :
  GivesV prog 82 [.slice a l.length c, .int .i64 node] w F (.int .i64 (Xfb l node)):=by
 have hl:l.length < 9223372036854775807:=by have:=h.2.2.1; simp only [lim] at this; omega
 refine Xaa func82 rfl ntmps82 rfl rfl [.st (sl a c l)] (.start1 h) ?_
 refine wz4 ?_
 refine JC.reslot 5 (.int .i64 (Xfb (l.take 0) node)) rfl ?_
 refine Xao (fun (i:Nat)=>[(1, .int .i64 node),(5, .int .i64 (Xfb (l.take i) node)),(8, .slice a l.length c),(9, .int .i64 (l.length:Int)),(10, .int .i64 (i:Int))])
  (fun i=>[.st (sl a c l)]) (fun i=>i≤l.length) (fun i=>l.length - i) 0 (Nat.zero_le _) iI ?_
 intro i hi
 refine wz11 ?_
 refine JC.test (fun h1=>?_) (fun h1=>?_)
 ·have hlt:i < l.length:=by omega
  have hn:=X1h l node i hlt
  refine wz14 ?_
  refine Xaq (k:=i) rfl hlt ?_
  intro b5 o5 p5 q5
  (repeat (refine wE ?_; intro _)); refine wA ?_
  refine JC.test (fun h2=>?_) (fun h2=>?_)
  ·rw [if_pos h2] at hn
   refine wz9 ?_
   refine Wf OpV.max rfl ?_
   rw [← hn]
   refine wz2 ?_
   exact ⟨i+1,by omega,by omega,iI⟩
  ·rw [if_neg h2] at hn
   refine wz2 ?_
   exact ⟨i+1,by omega,by omega,by rw [hn]; infer_instance⟩
 ·obtain rfl:i=l.length:=by omega
  rw [List.take_length]
  refine wz3 ?_
  exact Xac () rfl
structure Nd where
 no:Int
 disk:List UInt8
 room:Int
 l:List Commit
 wait:List Commit
 seq:Int
 up:Bool
 peers:List Int
 next:Int
 miss:Int
structure Na where
 d:Option Addr
 dk:Nat
 l:Option Addr
 lk:Nat
 w:Option Addr
 wk:Nat
 p:Option Addr
 pk:Nat
abbrev ndC (n:Nd) (y:Na):List Value:=[.int .i64 n.no, .slice y.d n.disk.length y.dk, .int .i64 n.room, .slice y.l n.l.length y.lk, .slice y.w n.wait.length y.wk, .int .i64 n.seq, .bool n.up, .slice y.p n.peers.length y.pk, .int .i64 n.next, .int .i64 n.miss]
abbrev ndV (n:Nd) (y:Na):Value:=.agg ⟨ndC n y⟩
abbrev ndB (n:Nd) (y:Na):List Fact:=[.st (sl y.d y.dk n.disk), .st (sl y.l y.lk n.l), .st (sl y.w y.wk n.wait), .st (sl y.p y.pk n.peers)]
def nd0:Nd:=⟨0,[],0,[],[],0,false,[],0,0⟩
def na0:Na:=⟨none,0,none,0,none,0,none,0⟩
structure Mg where
 kind:Int
 ids:List ID
 commits:List Commit
structure Ma where
 i:Option Addr
 ik:Nat
 c:Option Addr
 ck:Nat
abbrev mgC (m:Mg) (y:Ma):List Value:=[.int .i64 m.kind, .slice y.i m.ids.length y.ik, .slice y.c m.commits.length y.ck]
def Xgi (no room:Int):Bool:=decide (0≤no) && decide (no < 8) && decide (0≤room) && decide (room≤1048576)
def Xiv (no seq:Int) (c:Commit):Bool:=decide (c.ev.node≠no) || decide (c.ev.seq≤seq)
def Xcn (no seq:Int) (I:List ID) (c:Commit):Bool:=may c && !merge c && !decide (idC c∈I) && Xiv no seq c
noncomputable section
def Xbb (n:Nd):Bool :=
 if !Xgi n.no n.room || decide (n.room < (n.disk.length:Int)) then false
 else if !n.up then decide (n.l=[]) && decide (n.wait=[]) && decide (n.seq=0)
 else decide (Xa3 n.disk=n.l) && decide (Xau n.disk=n.disk.length) && decide (n.seq=Xfb n.l n.no) && decide (n.wait.length≤8) && n.wait.all (Xcn n.no n.seq (idsP n.l))
def Xho (n:Nd) (c:Commit):Nd:=if (storeT n.disk n.room c).2=0 then { n with disk:=(storeT n.disk n.room c).1,l:=n.l++[c] } else n
def Xgj (n:Nd) (c:Commit) (rest:List Commit):Nd :=
 if closedB (n.l++[c]) then Xho { n with wait:=rest } c else { n with wait:=rest }
def Xgk:Nat→Nd→Nd
 | 0,n=>n
 | f+1,n =>
  if (Xbe n.wait (idsP n.l)).2.2 then Xgk f (Xgj n (Xbe n.wait (idsP n.l)).1 (Xbe n.wait (idsP n.l)).2.1) else n
def Xd4 (n:Nd):Nd:=Xgk n.wait.length n
def Xd7 (n:Nd) (c:Commit):Nd:=if Xcn n.no n.seq (idsP n.l) c then Xd4 { n with wait:=Xbt n.wait c } else n
def Xgl (n:Nd) (l:List Commit):Nd:=if Xbb n && n.up then l.foldl Xd7 n else n
def newN (no room:Int):Nd × Bool:=if Xgi no room then ({ nd0 with no:=no,room:=room,up:=true },true) else (nd0,false)
end
theorem X46 (a:Option Addr) (c:Nat) (L:List UInt8) (h:(sl a c L).holds F w) (hl:L.length≤34359738368) :
  GivesBuf prog 128 [.slice a L.length c] w F 5 L:=by
 refine Xaa func128 rfl ntmps128 rfl rfl [.st (sl a c L)] (.start1 h) ?_
 refine wA ?_
 refine JC.test (fun ha=>?_) (fun ha=>?_)
 ·cases a with
  | some a=>cases ha
  | none =>
   obtain rfl:=Xcv h
   refine wz9 ?_
   exact CT.done (none,0) rfl (fun w ho=>ho.bufNil)
 ·refine wz14 ?_
  refine Xhw (α:=UInt8) rfl ?_
  intro a2
  refine wz6 ?_
  refine Xbc rfl (by exact ⟨rfl,rfl,by decide⟩) (by simpa using hl) ?_
  intro a3 c3
  rw [List.nil_append]
  refine wz10 ?_
  exact Xac (a3,c3) rfl
theorem X1i (a:Option Addr) (c:Nat) (L:List Int) (h:(sl a c L).holds F w) (hl:L.length≤34359738368) :
  GivesBuf prog 129 [.slice a L.length c] w F 3 L:=by
 refine Xaa func129 rfl ntmps129 rfl rfl [.st (sl a c L)] (.start1 h) ?_
 refine wA ?_
 refine JC.test (fun ha=>?_) (fun ha=>?_)
 ·cases a with
  | some a=>cases ha
  | none =>
   obtain rfl:=Xcv h
   refine wz9 ?_
   exact CT.done (none,0) rfl (fun w ho=>ho.bufNil)
 ·refine wz14 ?_
  refine Xhw (α:=Int) rfl ?_
  intro a2
  refine wz6 ?_
  refine Xbc rfl (by exact ⟨rfl,rfl,by decide⟩) (by simpa using hl) ?_
  intro a3 c3
  rw [List.nil_append]
  refine wz10 ?_
  exact Xac (a3,c3) rfl
theorem Xs5 (a:Option Addr) (k:Nat) (L:List Commit) (h:(sl a k L).holds F w) (hl:L.length < 34359738368) (hf:∀ x∈L,fine x) :
  GivesBuf prog 34 [.slice a L.length k] w F 72 (idsP L):=by
 refine Xaa func34 rfl ntmps34 rfl rfl [.st (sl a k L)] (.start1 h) ?_
 refine wz4 ?_
 refine JC.buf_nil (α:=ID) 72 ?_
 refine Xcc (fun (i:Nat) p q=>[(3, .slice p (cids (L.take i)).length q),(8, .slice a L.length k),(9, .int .i64 (L.length:Int)),(10, .int .i64 (i:Int))])
  (fun i p q=>[.res (buf p q 72 (cids (L.take i))), .st (sl a k L)])
  (fun i _ _=>i≤L.length∧∀ c∈L.take i,may c=true) (fun i _ _=>L.length - i) 0 none 0 ⟨Nat.zero_le _,by simp⟩ (by rw [List.take_zero,show cids []=[] from rfl]; infer_instance) ?_
 intro i p q ⟨hi,hm⟩
 refine wz11 ?_
 refine JC.test (fun hlt=>?_) (fun hge=>?_)
 ·have hlt':i < L.length:=by omega
  have hfx:=hf _ (List.getElem_mem hlt')
  refine wz14 ?_
  refine Xaq rfl hlt' ?_
  intro b1 o1 p1 q1
  (repeat (refine wE ?_; intro _)); refine wA ?_
  refine JR.callV rfl (fun w1 hw=>Xfq w1 _ (L[i]) p1 q1 hw.get hfx.1) ?_
  (repeat (refine wE ?_; intro _)); refine wA ?_
  refine JC.test (fun h0=>?_) (fun h0=>?_)
  ·have hmay:may L[i]=false:=by
    rw [← Bool.not_eq_true,← Xe9]; exact h0
   refine JC.buf_nil (α:=ID) 72 ?_
   refine wz5 ?_
   rw [Xsk (List.getElem_mem hlt') hmay]
   exact Xac (none,0) rfl
  ·have hmay:may L[i]=true:=(Xe9 _).1 (by simpa using h0)
   have h1:(cids (L.take i)).length≤i:=by simp [cids]; omega
   (repeat (refine wE ?_; intro _)); refine wA ?_
   refine Xay (u:=idC L[i]) rfl (by exact ⟨rfl,rfl,by decide⟩) (by omega) ?_
   intro r s
   refine wz2 ?_
   refine ⟨i+1,r,s,⟨by omega,fun c hc=>?_⟩,by omega,by rw [Xi9 hlt']; infer_instance⟩
   rw [List.take_succ_eq_append_getElem hlt',List.mem_append,List.mem_singleton] at hc
   rcases hc with hc | rfl
   ·exact hm c hc
   ·exact hmay
 ·obtain rfl:i=L.length:=by omega
  rw [List.take_length] at hm ⊢
  refine wz3 ?_
  rw [Xhj hm]
  exact Xac (p,q) rfl
theorem Xpi (no room:Int):GivesV prog 79 [.int .i64 no, .int .i64 room] w F (.bool (Xgi no room)):=by
 refine Xaa func79 rfl ntmps79 rfl rfl [] (.start w F) ?_
 refine wz10 ?_
 refine JO.test 7 (fun h1=>?_) (fun h1=>?_)
 ·refine wX ?_
  refine JO.test 11 (fun h2=>?_) (fun h2=>?_)
  ·refine wX ?_
   refine JO.test 15 (fun h3=>?_) (fun h3=>?_)
   ·refine wX ?_
    refine Xac () ?_
    simp only [Xad,Xgi,decide_eq_true h1,decide_eq_true h2,decide_eq_true h3,Bool.true_and]
   ·refine wz8 ?_
    refine Xac () ?_
    simp only [Xad,Xgi,decide_eq_false h3,Bool.and_false,Bool.false_and]
  ·refine wz8 ?_
   refine Xac () ?_
   simp only [Xad,Xgi,decide_eq_false h2,Bool.and_false,Bool.false_and]
 ·refine wz8 ?_
  refine Xac () ?_
  simp only [Xad,Xgi,decide_eq_false h1,Bool.and_false,Bool.false_and]
theorem Xls (a:Option Addr) (c:Nat) (L:List Commit) (h:(sl a c L).holds F w) (hl:L.length≤34359738368) (hf:∀ x∈L,fine x) :
  GivesBuf prog 69 [.slice a L.length c] w F 31 L:=by
 refine Xaa func69 rfl ntmps69 rfl rfl [.st (sl a c L)] (.start1 h) ?_
 refine JC.buf_nil (α:=Commit) 31 ?_
 refine wz4 ?_
 refine Xdw (fun (k:Nat) (out:List Commit) p q=>[(3, .slice p out.length q),(6, .slice a L.length c),(7, .int .i64 (L.length:Int)),(8, .int .i64 (k:Int))]) (fun (k:Nat) (out:List Commit) p q=>[.st (sl a c L), .res (buf p q 31 out)])
  (fun k out p q=>k≤L.length∧out=L.take k) (fun k _ _ _=>L.length - k) 0 [] none 0 ⟨Nat.zero_le _,rfl⟩ iI ?_
 intro k out p q ⟨hk,hout⟩
 refine wz11 ?_
 refine JC.test (fun hlt=>?_) (fun hge=>?_)
 ·have hlt':k < L.length:=by omega
  refine wz14 ?_
  refine Xaq rfl (by omega) ?_
  intro b o p' q'
  (repeat (refine wE ?_; intro _)); refine wA ?_
  refine JR.callSl rfl (fun w hw=>Xt4 w _ p' q' _ (hw.sat (.st (sl p' q' _)) (by simp)) (hf _ (List.getElem_mem hlt')).2) ?_
  intro a' c'
  (repeat (refine wE ?_; intro _)); refine wA ?_
  refine Xay rfl (by exact ⟨rfl,rfl,by decide⟩) (by subst hout; simp; omega) ?_
  intro a2 c2
  refine wz2 ?_
  exact ⟨k+1,out++[L[k]],a2,c2,⟨by omega,by rw [hout,List.take_succ_eq_append_getElem (by omega)]⟩,by omega,iI⟩
 ·refine wz3 ?_
  obtain rfl:out=L:=by rw [hout,List.take_of_length_le (by omega)]
  exact Xac (p,q) rfl
theorem X7r {L M:List Commit} (hl:L.length=M.length) {k:Nat} (hk:k < L.length) (h:L.take k=M.take k):L.take (k+1)=M.take (k+1)↔L[k]=M[k]'(hl ▸ hk):=by
 rw [List.take_succ_eq_append_getElem hk,List.take_succ_eq_append_getElem (hl ▸ hk),h,List.append_cancel_left_eq]
 simp
theorem Xlt (a b:Option Addr) (c m:Nat) (L M:List Commit) (h:(sl a c L).holds F w) (h':(sl b m M).holds F w) :
  GivesV prog 142 [.slice a L.length c, .slice b M.length m, .func (.func 143) #[] #[]] w F (.bool (decide (L=M))):=by
 have hL:L.length < 9223372036854775807:=by have:=h.2.2.1; simp only [lim] at this; omega
 refine Xaa func142 rfl ntmps142 rfl rfl [.st (sl a c L), .st (sl b m M)] (.start2 h h') ?_
 refine wA ?_
 refine JC.test (fun h1=>?_) (fun h1=>?_)
 ·have hne:L≠M:=by rintro rfl; exact h1 rfl
  refine wz9 ?_
  refine Xac () ?_
  rw [decide_eq_false hne]; rfl
 have hlm:L.length=M.length:=by omega
 refine wA ?_
 refine Xao (fun k:Nat=>[(0, .slice a L.length c),(1, .slice b M.length m),(2, .func (.func 143) #[] #[]),(15, .slice a L.length c),(16, .int .i64 (L.length:Int)),(17, .int .i64 (k:Int))]) (fun _=>[.st (sl a c L), .st (sl b m M)])
  (fun k=>k≤L.length∧L.take k=M.take k) (fun k=>L.length - k) 0 ⟨Nat.zero_le _,by simp⟩ iI ?_
 intro k ⟨hk,hno⟩
 refine wz11 ?_
 refine JC.test (fun hlt=>?_) (fun hge=>?_)
 ·have hlt':k < L.length:=by omega
  have hft:=X7r hlm hlt' hno
  refine wz14 ?_
  refine Xaq rfl hlt' ?_
  intro b1 o1 p1 q1
  (repeat (refine wE ?_; intro _)); refine wA ?_
  refine Xaq (k:=k) rfl (by omega) ?_
  intro b2 o2 p2 q2
  (repeat (refine wE ?_; intro _)); refine wA ?_
  refine JR.callV rfl (fun w1 hw=>Xok w1 _ L[k] (M[k]'(by omega)) p1 p2 q1 q2 hw.get hw.get) ?_
  refine wz7 ?_
  refine JC.test (fun hy=>?_) (fun hn=>?_)
  ·have hne:L≠M:=by rintro rfl; exact hy rfl
   refine wz5 ?_
   refine Xac () ?_
   rw [decide_eq_false hne]; rfl
  ·refine wz2 ?_
   exact ⟨k+1,⟨by omega,hft.2 (Classical.not_not.1 hn)⟩,by omega,iI⟩
 ·obtain rfl:k=L.length:=by omega
  have heq:L=M:=by
   rw [List.take_length] at hno
   rw [hno,List.take_of_length_le (by omega)]
  refine wz3 ?_
  refine Xac () ?_
  rw [decide_eq_true heq]; rfl
theorem Xx0 (a b:Option Addr) (c m:Nat) (L M:List Commit) (h:(sl a c L).holds F w) (h':(sl b m M).holds F w) :
  GivesV prog 81 [.slice a L.length c, .slice b M.length m] w F (.bool (decide (L=M))):=by
 refine Xaa func81 rfl ntmps81 rfl rfl [.st (sl a c L), .st (sl b m M)] (.start2 h h') ?_
 refine wz10 ?_
 refine JR.callV rfl (fun w1 hw=>Xlt w1 _ a b c m L M hw.get hw.get) ?_
 refine wz10 ?_
 refine Xac () ?_
 rfl
theorem Xja (n:Nd) (y:Na) (c:Commit) (a:Option Addr) (k:Nat) :
  GivesV prog 85 [ndV n y,Xap c a k] w F (.bool (Xiv n.no n.seq c)):=by
 refine Xaa func85 rfl ntmps85 rfl rfl [] (.start w F) ?_
 (repeat (refine wE ?_; intro _)); refine wA ?_
 refine JO.test 11 (fun h1=>?_) (fun h1=>?_)
 ·refine wz8 ?_
  refine Xac () ?_
  simp only [Xad,Xiv,decide_eq_true h1,Bool.true_or]
 ·refine wX ?_
  refine Xac () ?_
  simp only [Xad,Xiv,decide_eq_false h1,Bool.false_or]
theorem Xkq {n:Nd} (h1:Xgi n.no n.room=true) (h2:¬ n.room < (n.disk.length:Int)) (h3:n.up=true) :
  Xbb n=(decide (Xa3 n.disk=n.l) && decide (Xau n.disk=n.disk.length) && decide (n.seq=Xfb n.l n.no) && decide (n.wait.length≤8) && n.wait.all (Xcn n.no n.seq (idsP n.l))):=by
 unfold Xbb
 rw [h1,decide_eq_false h2,h3]
 rfl
theorem Xra {n:Nd} (h1:Xgi n.no n.room=true) (h2:¬ n.room < (n.disk.length:Int)) (h3:n.up=false) :
  Xbb n=(decide (n.l=[]) && decide (n.wait=[]) && decide (n.seq=0)):=by
 unfold Xbb
 rw [h1,decide_eq_false h2,h3]
 rfl
theorem Xvu {no room:Int} (h:Xgi no room=true):0≤no∧no < 8∧0≤room∧room≤1048576:=by
 unfold Xgi at h
 simp only [Bool.and_eq_true,decide_eq_true_eq] at h
 omega
theorem Xx1 {b:List UInt8}:∀ x∈Xa3 b,fine x:=by
 intro x hx
 obtain ⟨k,hk,h⟩:=Xvt b
 rw [h] at hx
 have hx:=List.mem_of_mem_take hx
 obtain ⟨i,hi,hxi⟩:=List.getElem_of_mem hx
 have h2:=Xs3 (readL b) i hi (Nat.lt_of_lt_of_le hi (Xik _))
 rw [hxi] at h2
 obtain ⟨h3,h4⟩:=Xy6 h2
 refine ⟨h4,?_⟩
 unfold may at h3
 split at h3
 ·cases h3
 ·rename_i h5
  simp only [Bool.or_eq_true,not_or,decide_eq_true_eq] at h5
  omega
theorem X1j (b:List UInt8):(Xa3 b).length≤b.length:=by
 obtain ⟨k,hk,h⟩:=Xvt b
 have h1:=Xgh (readL b)
 have h2:(Xaf (readL b)).length≤b.length:=(Xfw _ _:Xaf (readL b) <+: b).length_le
 have h3:=Xik (readL b)
 rw [h,List.length_take]
 omega
theorem X7s {p:Commit→Bool} {L:List Commit} {k:Nat} (hk:k < L.length) (h:(L.take k).all p=true):(L.take (k+1)).all p=p L[k]:=by
 rw [List.take_succ_eq_append_getElem hk,List.all_append,h]
 simp
theorem Yaz {p:Commit→Bool} {L:List Commit} {k:Nat} (hk:k < L.length) (h:p L[k]=false):L.all p=false:=by
 rw [List.all_eq_false]
 exact ⟨L[k],List.getElem_mem hk,by rw [h]; exact Bool.false_ne_true⟩
theorem Xb0 (n:Nd) (y:Na) (hd:(sl y.d y.dk n.disk).holds F w) (hl:(sl y.l y.lk n.l).holds F w) (hw:(sl y.w y.wk n.wait).holds F w) (hwf:∀ x∈n.wait,fine x) :
  GivesV prog 25 [ndV n y] w F (.bool (Xbb n)):=by
 have hwl:n.wait.length < 9223372036854775807:=by have:=hw.2.2.1; simp only [lim] at this; omega
 have hll:n.l.length < 9223372036854775807:=by have:=hl.2.2.1; simp only [lim] at this; omega
 rcases n with ⟨no,disk,room,l,wait,seq,up,peers,next,miss⟩
 rcases y with ⟨ad,kd,al,kl,aw,kw,ap,kp⟩
 dsimp only [ndV,ndC] at *
 refine Xaa func25 rfl ntmps25 rfl rfl [.st (sl ad kd disk), .st (sl al kl l), .st (sl aw kw wait)] (.start3 hd hl hw) ?_
 (repeat (refine wE ?_; intro _)); refine wA ?_
 rename_i bn
 refine JR.callV rfl (fun w1 hw=>Xpi w1 _ no room) ?_
 cases hfit:Xgi no room with
 | false =>
  refine wz8 ?_
  refine Xac () ?_
  simp only [Xad]
  unfold Xbb; rw [hfit]; rfl
 | true =>
 obtain ⟨f1,f2,f3,f4⟩:=Xvu hfit
 refine wX ?_
 refine JC.test (fun h2=>?_) (fun h2=>?_)
 ·have h2':room < (disk.length:Int):=by omega
  refine wz9 ?_
  refine Xac () ?_
  simp only [Xad]
  unfold Xbb; rw [hfit,decide_eq_true h2']; rfl
 have h2':¬ room < (disk.length:Int):=by omega
 refine wz1 ?_
 cases up with
 | false =>
  rw [Xra hfit h2' rfl]
  dsimp only
  refine wX ?_
  refine JO.test 31 (fun h3=>?_) (fun h3=>?_)
  ·obtain rfl:l=[]:=List.eq_nil_of_length_eq_zero (by omega)
   refine wX ?_
   refine JO.test 37 (fun h4=>?_) (fun h4=>?_)
   ·obtain rfl:wait=[]:=List.eq_nil_of_length_eq_zero (by omega)
    refine wX ?_
    refine Xac () ?_
    simp only [Xad]
    simp
   ·have:wait≠[]:=by rintro rfl; exact h4 rfl
    refine wz8 ?_
    refine Xac () ?_
    simp only [Xad]
    simp [this]
  ·have:l≠[]:=by rintro rfl; exact h3 rfl
   refine wz8 ?_
   refine Xac () ?_
   simp only [Xad]
   simp [this]
 | true =>
 rw [Xkq hfit h2' rfl]
 dsimp only
 refine wX ?_
 refine Xcy rfl (fun w1 hw=>Xlp w1 _ ad kd disk hw.get (by omega)) ?_
 intro a1 k1
 refine wz4 ?_
 refine Xbw mixed (by kernel_rfl) ?_
 refine wY ?_
 refine JQ.call rfl rfl (fun w1 hw=>Xx0 w1 _ a1 al k1 kl (Xa3 disk) l hw.get hw.get) ?_
 by_cases hA:Xa3 disk=l
 case neg =>
  refine JQ.reslot 51 (.bool false) (by rw [decide_eq_false hA]) ?_
  refine wY ?_
  refine wz8 ?_
  refine Xac () ?_
  simp only [Xad]
  simp [hA]
 refine JQ.reslot 51 (.bool true) (by rw [decide_eq_true hA]) ?_
 refine wY ?_
 by_cases hB:Xau disk=disk.length
 case neg =>
  refine JQ.reslot 60 (.bool true) (by congr 1; exact decide_eq_true (by omega)) ?_
  refine wY ?_
  refine wz8 ?_
  refine Xac () ?_
  simp only [Xad]
  simp [hB]
 refine JQ.reslot 60 (.bool false) (by congr 1; exact decide_eq_false (by omega)) ?_
 refine wY ?_
 refine JQ.call rfl rfl (fun w1 hw=>Xq9 w1 _ a1 k1 (Xa3 disk) no hw.get) ?_
 refine wY ?_
 subst hA
 by_cases hC:seq=Xfb (Xa3 disk) no
 case neg =>
  refine JQ.reslot 69 (.bool true) (by congr 1; exact decide_eq_true hC) ?_
  refine wY ?_
  refine wz8 ?_
  refine Xac () ?_
  simp only [Xad]
  simp [hC]
 refine JQ.reslot 69 (.bool false) (by congr 1; exact decide_eq_false (fun h=>h hC)) ?_
 refine wY ?_
 refine wz13 ?_
 refine JC.test (fun h7=>?_) (fun h7=>?_)
 ·have:¬ wait.length≤8:=by omega
  refine wz9 ?_
  refine Xac () ?_
  simp only [Xad]
  simp [this]
 have h8:wait.length≤8:=by omega
 rw [decide_eq_true rfl,decide_eq_true hB,decide_eq_true hC,decide_eq_true h8]
 simp only [Bool.true_and]
 refine wz14 ?_
 refine JR.callBuf rfl (fun w1 hw=>Xs5 w1 _ a1 k1 (Xa3 disk) hw.get (by have:=X1j disk; omega) Xx1) ?_
 intro a2 k2
 refine wX ?_
 generalize hI:idsP (Xa3 disk)=I
 refine JC.more (fun w ho=>ho.pub) ?_
 refine Xao (fun (k:Nat)=>[(1, .pointer (some ⟨bn,0,none⟩)),(5, .slice a2 I.length k2),(78, .slice aw wait.length kw),(79, .int .i64 (wait.length:Int)),(80, .int .i64 (k:Int))])
  (fun _=>[.st (sl a2 k2 I), .own bn 50 [.int .i64 no, .slice ad disk.length kd, .int .i64 room, .slice al (Xa3 disk).length kl, .slice aw wait.length kw, .int .i64 seq, .bool true, .slice ap peers.length kp, .int .i64 next, .int .i64 miss], .st (sl aw kw wait)])
  (fun k=>k≤wait.length∧(wait.take k).all (Xcn no seq I)=true) (fun k=>wait.length - k) 0 ⟨Nat.zero_le _,by simp⟩ iI ?_
 rintro k ⟨hk,hall⟩
 refine wz11 ?_
 refine JC.test (fun hlt=>?_) (fun hge=>?_)
 ·have hlt':k < wait.length:=by omega
  have hx:=hwf _ (List.getElem_mem hlt')
  have hcut:=Yaz (p:=Xcn no seq I) hlt'
  have htk:=X7s hlt' hall
  refine wz14 ?_
  refine Xaq rfl hlt' ?_
  intro b3 o3 p3 q3
  (repeat (refine wE ?_; intro _)); refine wA ?_
  refine JR.callV rfl (fun w1 hw=>Xfq w1 _ wait[k] p3 q3 hw.get hx.1) ?_
  (repeat (refine wE ?_; intro _)); refine wA ?_
  refine JO.test 91 (fun h1=>?_) (fun h1=>?_)
  ·have hm:may wait[k]=false:=by rw [← Bool.not_eq_true,← Xe9]; exact h1
   refine wz8 ?_
   refine Xac () ?_
   simp only [Xad]
   rw [hcut (by unfold Xcn; rw [hm]; rfl)]
  have hm:may wait[k]=true:=(Xe9 _).1 (by simpa using h1)
  refine wz6 ?_
  refine JR.callV rfl (fun w1 hw=>Xes w1 _ wait[k] p3 q3 hw.get hx.1) ?_
  cases hg:merge wait[k] with
  | true =>
   refine wz8 ?_
   refine Xac () ?_
   simp only [Xad]
   rw [hcut (by unfold Xcn; rw [hm,hg]; rfl)]
  | false =>
  refine wz11 ?_
  refine JR.callV rfl (fun w1 hw=>Xwk w1 _ a2 k2 I (Xas wait[k]).1 hw.get) ?_
  by_cases hin:(Xas wait[k]).1∈I
  ·refine JO.reslot 98 (.bool true) (by rw [decide_eq_true hin]) ?_
   refine wz8 ?_
   refine Xac () ?_
   simp only [Xad]
   rw [hcut (by unfold Xcn idC; rw [hm,hg,decide_eq_true hin]; rfl)]
  refine JO.reslot 98 (.bool false) (by rw [decide_eq_false hin]) ?_
  refine wz11 ?_
  refine JR.callV rfl (fun w1 hw=>Xja w1 _ ⟨no,disk,room,Xa3 disk,wait,seq,true,peers,next,miss⟩ ⟨ad,kd,al,kl,aw,kw,ap,kp⟩ wait[k] p3 q3) ?_
  dsimp only
  cases hst:Xiv no seq wait[k] with
  | false =>
   refine wz8 ?_
   refine Xac () ?_
   simp only [Xad]
   rw [hcut (by unfold Xcn idC; rw [hm,hg,decide_eq_false hin,hst]; rfl)]
  | true =>
  refine wX ?_
  exact ⟨k+1,⟨by omega,by rw [htk]; unfold Xcn idC; rw [hm,hg,decide_eq_false hin,hst]; rfl⟩,by omega,iI⟩
 ·obtain rfl:k=wait.length:=by omega
  rw [List.take_length] at hall
  refine wz3 ?_
  refine Xac () ?_
  simp only [Xad]
  rw [hall]
abbrev repF (br:Nat) (n:Nd) (y:Na):List Fact:=[.own br 119 (ndC n y), .res (buf y.l y.lk 31 n.l), .st (sl y.d y.dk n.disk), .st (sl y.w y.wk n.wait), .st (sl y.p y.pk n.peers)]
section
variable {w0 w:World} {F:Nat→Prop} {Γ:List Fact} {br:Nat}
theorem Xy7 (n:Nd) (y:Na) (c:Commit) (a:Option Addr) (k:Nat) (ht:Xmq c) (hb:n.disk.length≤1048576) (hl:n.l.length < 34359738368) (ho:Hold w0 F (repF br n y++.st (sl a k c.parents)::Γ) w) :
  Calls prog 146 ⟨[.pointer (some ⟨br,0,none⟩),Xap c a k]⟩ w fun x w'=>∃ y':Na,x = .returned (.int .i64 (storeT n.disk n.room c).2)∧Hold w0 F (repF br (Xho n c) y'++Γ) w':=by
 refine Xa4 (v:=fun y:Na=>.int .i64 (storeT n.disk n.room c).2) (B:=fun y'=>repF br (Xho n c) y'++Γ) func146 rfl ntmps146 rfl rfl _ ho ?_
 rcases n with ⟨no,disk,room,l,wait,seq,up,peers,next,miss⟩
 rcases y with ⟨ad,kd,al,kl,aw,kw,ap,kp⟩
 dsimp only [repF,ndC,List.cons_append,List.nil_append] at *
 (repeat (refine wE ?_; intro _)); refine wA ?_
 rename_i bc
 refine JC.drawP mixed ?_
 refine Xab 0 ?_
 refine Xab 1 ?_
 refine Xab 2 ?_
 refine Xab 3 ?_
 refine JP.tv 4 [.own br 119 [.int .i64 no, .slice ad disk.length kd, .int .i64 room, .slice al l.length kl, .slice aw wait.length kw, .int .i64 seq, .bool up, .slice ap peers.length kp, .int .i64 next, .int .i64 miss]] ?_
 refine Xab 5 ?_
 refine Xab 6 ?_
 refine Xab 7 ?_
 refine Xab 8 ?_
 refine JP.tv 9 [.own br 119 [.int .i64 no, .slice ad disk.length kd, .int .i64 room, .slice al l.length kl, .slice aw wait.length kw, .int .i64 seq, .bool up, .slice ap peers.length kp, .int .i64 next, .int .i64 miss]] ?_
 refine JP.tv 10 [.own bc 31 [.int .i64 c.ev.node, .int .i64 c.ev.seq, .int .i64 c.gen, .slice a c.parents.length k, .int .i64 c.op.kind, .string c.op.key, .string c.op.elem, .int .i64 c.op.n]] ?_
 refine Xai 11 rfl rfl (JR.call1 (v:=fun y:Option Addr × Nat=>.tuple ⟨[.slice y.1 (storeT disk room c).1.length y.2, .int .i64 (storeT disk room c).2]⟩) (B:=fun y=>.res (buf y.1 y.2 5 (storeT disk room c).1)) rfl (fun w1 hw=>X4z w1 _ ad a kd k disk room c hw.get hw.get ht hb) (fun z=>Wd (nO ?_)))
 rcases z with ⟨ad2,kd2⟩
 dsimp only
 refine Xab 12 ?_
 refine Xab 13 ?_
 refine Xab 14 ?_
 refine Xab 15 ?_
 refine Xab 16 ?_
 refine JP.nil (by kernel_rfl) ?_
 refine wz4 ?_
 refine JC.test (fun h1=>?_) (fun h1=>?_)
 ·have e1:Xho ⟨no,disk,room,l,wait,seq,up,peers,next,miss⟩ c=⟨no,(storeT disk room c).1,room,l++[c],wait,seq,up,peers,next,miss⟩:=if_pos h1
  rw [e1]
  dsimp only
  skip
  refine JC.more (fun w ho=>ho.pub) ?_
  refine JC.drawP mixed ?_
  refine Xab 0 ?_
  refine Xab 1 ?_
  refine Xab 2 ?_
  refine Xab 3 ?_
  refine Xab 4 ?_
  refine Xab 5 ?_
  refine Xab 6 ?_
  refine JP.tv 7 [.own br 119 [.int .i64 no, .slice ad disk.length kd, .int .i64 room, .slice al l.length kl, .slice aw wait.length kw, .int .i64 seq, .bool up, .slice ap peers.length kp, .int .i64 next, .int .i64 miss]] ?_
  refine JP.tv 8 [.own bc 31 [.int .i64 c.ev.node, .int .i64 c.ev.seq, .int .i64 c.gen, .slice a c.parents.length k, .int .i64 c.op.kind, .string c.op.key, .string c.op.elem, .int .i64 c.op.n]] ?_
  refine Xai 9 rfl rfl (Ww rfl ⟨rfl,by decide,by decide,by decide⟩ (fun bl=>Wd (nO ?_)))
  refine Xai 10 rfl rfl (Xay (u:=c) rfl (by exact ⟨rfl,rfl,by decide⟩) hl (fun al2 kl2=>Wd (nO ?_)))
  refine Xab 11 ?_
  refine Xab 12 ?_
  refine Xab 13 ?_
  refine JP.reslot 37 (.pointer (some ⟨br,1,none⟩)) rfl ?_
  refine Xai 14 rfl rfl (Wi (Wd (nO ?_)))
  refine Xab 15 ?_
  refine Xab 16 ?_
  refine Xab 17 ?_
  refine JP.reslot 40 (.pointer (some ⟨br,3,none⟩)) rfl ?_
  refine Xai 18 rfl rfl (Wi (Wd (nO ?_)))
  refine JP.nil (by kernel_rfl) ?_
  refine wz10 ?_
  exact Xac ⟨ad2,kd2,al2,kl2,aw,kw,ap,kp⟩ rfl
 ·have e1:Xho ⟨no,disk,room,l,wait,seq,up,peers,next,miss⟩ c=⟨no,disk,room,l,wait,seq,up,peers,next,miss⟩:=if_neg h1
  rw [e1]
  dsimp only
  refine wz1 ?_
  exact Xac ⟨ad,kd,al,kl,aw,kw,ap,kp⟩ rfl
end
theorem X7t {c:Commit} (h:may c=true):Xaw c=(Xae c,0):=by simp [Xaw,h]
theorem Xfx {b:List UInt8} {room:Int} {c:Commit} (h:(storeT b room c).2=0):((storeT b room c).1.length:Int)≤room∧(storeT b room c).1=b++Xbn (Xae c)∧may c=true:=by
 unfold storeT at h ⊢
 split at h
 ·rename_i h1
  rw [if_pos h1]
  have hm:may c=true:=by
   unfold Xaw at h1
   split at h1
   ·assumption
   ·cases h1
  rw [X7t hm] at h ⊢
  unfold Xgz at h ⊢
  split at h
  ·cases h
  ·split at h
   ·cases h
   ·rename_i h2 h3
    rw [if_neg h2,if_neg h3]
    refine ⟨?_,rfl,hm⟩
    rw [List.length_append]
    omega
 ·rename_i h1; exact absurd h h1
structure NdOk (N:Nat) (n:Nd):Prop where
 fl:∀ x∈n.l,fine x
 fw:∀ x∈n.wait,fine x
 disk:n.disk.length≤1048576
 room:n.room≤1048576
 len:n.l.length+n.wait.length≤N
theorem Xkr {L rl:List Commit} {H:List ID} {rc:Commit} (h:Xbe L H=(rc,rl,true)):rc∈L∧rl.length+1=L.length∧(∀ x∈rl,x∈L)∧∃ i,∃ hi:i < L.length,rc=L[i]∧rl=L.eraseIdx i∧Xld H L[i]=true:=by
 unfold Xbe at h
 split at h
 ·rename_i i hi
  obtain ⟨h1,h2,_⟩:=List.findIdx?_eq_some_iff_getElem.1 hi
  injection h with h3 h4
  injection h4 with h4 _
  have h5:L.getD i commit0=L[i]:=by simp [h1]
  rw [h5] at h3
  subst h3 h4
  exact ⟨List.getElem_mem h1,by rw [List.length_eraseIdx,if_pos h1]; omega,fun x hx=>List.mem_of_mem_eraseIdx hx,i,h1,rfl,rfl,h2⟩
 ·injection h with h3 h4
  injection h4 with h4 h5
  cases h5
theorem Xs6 (n:Nd) (c:Commit):(Xho n c).wait=n.wait:=by unfold Xho; split <;> rfl
theorem Xmd (n:Nd) (c:Commit) (rest:List Commit):(Xgj n c rest).wait=rest:=by
 unfold Xgj; split
 ·rw [Xs6]
 ·rfl
theorem Xvv {n:Nd} {rc:Commit} {rl:List Commit} (h:Xbe n.wait (idsP n.l)=(rc,rl,true)):Xd4 n=Xd4 (Xgj n rc rl):=by
 have h1:=(Xkr h).2.1
 unfold Xd4
 rw [Xmd,← h1,Xgk,h]
 rfl
theorem Xx2 {n:Nd} {rc:Commit} {rl:List Commit} (h:Xbe n.wait (idsP n.l)=(rc,rl,false)):Xd4 n=n:=by
 unfold Xd4
 cases hw:n.wait.length with
 | zero=>rfl
 | succ f=>rw [Xgk,h]; rfl
theorem X7u {N:Nat} {n:Nd} {c:Commit} (h:NdOk N n) (hc:fine c):NdOk (N+1) (Xho n c):=by
 unfold Xho
 split
 ·rename_i h1
  have h2:=(Xfx h1).1
  have h3:=h.room
  have h4:=h.len
  refine ⟨fun x hx=>?_,h.fw,?_,h.room,?_⟩
  ·rcases List.mem_append.1 hx with hx | hx
   ·exact h.fl x hx
   ·rw [List.mem_singleton] at hx; subst hx; exact hc
  ·show (storeT n.disk n.room c).1.length≤1048576; omega
  ·show (n.l++[c]).length+n.wait.length≤N+1
   rw [List.length_append,List.length_singleton]; omega
 ·exact ⟨h.fl,h.fw,h.disk,h.room,by have:=h.len; omega⟩
theorem Ya0 {N:Nat} {n:Nd} {rc:Commit} {rl:List Commit} (h:NdOk (N+1) n) (hr:Xbe n.wait (idsP n.l)=(rc,rl,true)):NdOk N { n with wait:=rl }:=by
 obtain ⟨h1,h2,h3,_⟩:=Xkr hr
 exact ⟨h.fl,fun x hx=>h.fw x (h3 x hx),h.disk,h.room,by have:=h.len; show n.l.length+rl.length≤N; omega⟩
theorem Xrb {N:Nat} {n:Nd} {rc:Commit} {rl:List Commit} (h:NdOk N n) (hr:Xbe n.wait (idsP n.l)=(rc,rl,true)):NdOk N (Xgj n rc rl):=by
 obtain ⟨h1,h2,h3,_⟩:=Xkr hr
 have hN:1≤N:=by have:=h.len; omega
 obtain ⟨M,rfl⟩:∃ M,N=M+1:=⟨N - 1,by omega⟩
 have hr':=Ya0 h hr
 unfold Xgj
 split
 ·exact X7u hr' (h.fw rc h1)
 ·exact ⟨hr'.fl,hr'.fw,hr'.disk,hr'.room,by have:=hr'.len; omega⟩
section
variable {w0 w:World} {F:Nat→Prop} {Γ:List Fact} {br:Nat}
theorem Xx3 (n:Nd) (y:Na) (hok:NdOk 900 n) (ho:Hold w0 F (repF br n y++Γ) w) :
  Calls prog 131 ⟨[.pointer (some ⟨br,0,none⟩)]⟩ w fun x w'=>∃ y':Na,x = .returned (.tuple ⟨[]⟩)∧Hold w0 F (repF br (Xd4 n) y'++Γ) w':=by
 refine Xa4 (v:=fun y:Na=>.tuple ⟨[]⟩) (B:=fun y'=>repF br (Xd4 n) y'++Γ) func131 rfl ntmps131 rfl rfl _ ho ?_
 dsimp only [repF,List.cons_append,List.nil_append]
 refine wz14 ?_
 refine Xc8 (fun (m:Nd) (z:Na)=>[(0, .pointer (some ⟨br,0,none⟩))])
  (fun m z=>.own br 119 (ndC m z)::.res (buf z.l z.lk 31 m.l)::.st (sl z.d z.dk m.disk)::.st (sl z.w z.wk m.wait)::.st (sl z.p z.pk m.peers)::Γ)
  (fun m z=>NdOk 900 m∧Xd4 m=Xd4 n) (fun m _=>m.wait.length) n y ⟨hok,rfl⟩ iI ?_
 rintro ⟨no,disk,room,l,wait,seq,up,peers,next,miss⟩ ⟨ad,kd,al,kl,aw,kw,ap,kp⟩ ⟨hm,hS⟩
 obtain ⟨hfl,hfw,hdk,hrm,hln⟩:=id hm
 dsimp only [ndC] at *
 obtain ⟨⟨rc,rl,rb⟩,hR⟩:∃ R,Xbe wait (idsP l)=R:=⟨_,rfl⟩
 refine wz14 ?_
 refine Xdz (fun y:(Option Addr × Nat) × (Option Addr × Nat) × Nat=>[(0, .pointer (some ⟨br,0,none⟩)),(2, .pointer (some ⟨y.2.2,0,none⟩)),(3, .slice y.2.1.1 rl.length y.2.1.2),(4, .bool rb)])
  (fun y=>.own y.2.2 31 [.int .i64 rc.ev.node, .int .i64 rc.ev.seq, .int .i64 rc.gen, .slice y.1.1 rc.parents.length y.1.2, .int .i64 rc.op.kind, .string rc.op.key, .string rc.op.elem, .int .i64 rc.op.n]::.st (sl y.1.1 y.1.2 rc.parents)::.st (sl y.2.1.1 y.2.1.2 rl)::.own br 119 [.int .i64 no, .slice ad disk.length kd, .int .i64 room, .slice al l.length kl, .slice aw wait.length kw, .int .i64 seq, .bool up, .slice ap peers.length kp, .int .i64 next, .int .i64 miss]::.res (buf al kl 31 l)::.st (sl ad kd disk)::.st (sl aw kw wait)::.st (sl ap kp peers)::Γ) ?_ ?_
 ·refine JC.drawP mixed ?_
  refine Xab 0 ?_
  refine Xab 1 ?_
  refine Xab 2 ?_
  refine Xab 3 ?_
  refine Xab 4 ?_
  refine JP.tv 5 [.own br 119 [.int .i64 no, .slice ad disk.length kd, .int .i64 room, .slice al l.length kl, .slice aw wait.length kw, .int .i64 seq, .bool up, .slice ap peers.length kp, .int .i64 next, .int .i64 miss]] ?_
  refine Xab 6 ?_
  refine Xab 7 ?_
  refine Xab 8 ?_
  refine Xab 9 ?_
  refine Xab 10 ?_
  refine JP.tv 11 [.own br 119 [.int .i64 no, .slice ad disk.length kd, .int .i64 room, .slice al l.length kl, .slice aw wait.length kw, .int .i64 seq, .bool up, .slice ap peers.length kp, .int .i64 next, .int .i64 miss]] ?_
  refine JP.both 12 18 (by kernel_rfl) rfl rfl rfl rfl (JR.callBuf rfl (fun w1 hw=>(Xs5 w1 (fun _=>True) al kl l hw.bufSlOf (by omega) hfl).plain (fun _ _=>rfl)) (fun ai ki=>Wd (nO ?_))) (Wg rfl (fun bc=>Wd (nO ?_)))
  ·refine JP.more (fun w1 ho=>ho.pub) ?_
   refine JP.both 13 18 (by kernel_rfl) rfl rfl rfl rfl (Xmz (v:=fun y:(Option Addr × Nat) × (Option Addr × Nat)=>.tuple ⟨[Xap rc y.1.1 y.1.2, .slice y.2.1 rl.length y.2.2, .bool rb]⟩) (B:=fun y=>.st (sl y.1.1 y.1.2 rc.parents)) (C:=fun y=>.st (sl y.2.1 y.2.2 rl)) rfl (fun w1 hw=>Xso w1 _ aw ai kw ki wait (idsP l) rc rl rb hR hw.get hw.get (by omega) hfw) (fun z=>Wd (nO ?_))) (Wg rfl (fun bc=>Wd (nO ?_)))
   ·rcases z with ⟨⟨a2,k2⟩,⟨a3,k3⟩⟩
    dsimp only
    refine Xab 14 ?_
    refine Xab 15 ?_
    refine Xab 16 ?_
    refine Xab 17 ?_
    refine Xai 18 rfl rfl (Wg rfl (fun bc=>Wd (nO ?_)))
    refine Xai 19 rfl rfl (Wi (Wd (nO ?_)))
    refine Xab 20 ?_
    refine Xab 21 ?_
    exact JP.nil (by kernel_rfl) ⟨rfl,((a2,k2),(a3,k3),bc),iI⟩
   ·refine Xai 13 rfl rfl (Xmz (v:=fun y:(Option Addr × Nat) × (Option Addr × Nat)=>.tuple ⟨[Xap rc y.1.1 y.1.2, .slice y.2.1 rl.length y.2.2, .bool rb]⟩) (B:=fun y=>.st (sl y.1.1 y.1.2 rc.parents)) (C:=fun y=>.st (sl y.2.1 y.2.2 rl)) rfl (fun w1 hw=>Xso w1 _ aw ai kw ki wait (idsP l) rc rl rb hR hw.get hw.get (by omega) hfw) (fun z=>Wd (nO ?_)))
    rcases z with ⟨⟨a2,k2⟩,⟨a3,k3⟩⟩
    dsimp only
    refine Xab 14 ?_
    refine Xab 15 ?_
    refine Xab 16 ?_
    refine Xab 17 ?_
    refine Xai 19 rfl rfl (Wi (Wd (nO ?_)))
    refine Xab 20 ?_
    refine Xab 21 ?_
    exact JP.nil (by kernel_rfl) ⟨rfl,((a2,k2),(a3,k3),bc),iI⟩
  ·refine Xai 12 rfl rfl (JR.callBuf rfl (fun w1 hw=>(Xs5 w1 (fun _=>True) al kl l hw.bufSlOf (by omega) hfl).plain (fun _ _=>rfl)) (fun ai ki=>Wd (nO ?_)))
   refine JP.more (fun w1 ho=>ho.pub) ?_
   refine Xai 13 rfl rfl (Xmz (v:=fun y:(Option Addr × Nat) × (Option Addr × Nat)=>.tuple ⟨[Xap rc y.1.1 y.1.2, .slice y.2.1 rl.length y.2.2, .bool rb]⟩) (B:=fun y=>.st (sl y.1.1 y.1.2 rc.parents)) (C:=fun y=>.st (sl y.2.1 y.2.2 rl)) rfl (fun w1 hw=>Xso w1 _ aw ai kw ki wait (idsP l) rc rl rb hR hw.get hw.get (by omega) hfw) (fun z=>Wd (nO ?_)))
   rcases z with ⟨⟨a2,k2⟩,⟨a3,k3⟩⟩
   dsimp only
   refine Xab 14 ?_
   refine Xab 15 ?_
   refine Xab 16 ?_
   refine Xab 17 ?_
   refine Xai 19 rfl rfl (Wi (Wd (nO ?_)))
   refine Xab 20 ?_
   refine Xab 21 ?_
   exact JP.nil (by kernel_rfl) ⟨rfl,((a2,k2),(a3,k3),bc),iI⟩
 rintro ⟨⟨a2,k2⟩,⟨a3,k3⟩,bc⟩
 dsimp only
 cases rb with
 | false =>
  have h1:=Xx2 (n:=⟨no,disk,room,l,wait,seq,up,peers,next,miss⟩) hR
  rw [h1] at hS
  rw [← hS]
  dsimp only
  refine wz8 ?_
  exact Xac (Y:=Na) ⟨ad,kd,al,kl,aw,kw,ap,kp⟩ rfl
 | true =>
  obtain ⟨hrcm,hrll,hrlm,_⟩:=Xkr hR
  have hrc:=hfw rc hrcm
  have hstep:=Xvv (n:=⟨no,disk,room,l,wait,seq,up,peers,next,miss⟩) hR
  have hok1:=Xrb hm hR
  have hw1:=Xmd ⟨no,disk,room,l,wait,seq,up,peers,next,miss⟩ rc rl
  refine wz7 ?_
  refine Wf OpV.nilCheck rfl ?_
  refine wz9 ?_
  have hfa:∀ x∈l++[rc],fine x:=fun x hx=>by
   rcases List.mem_append.1 hx with hx | hx
   ·exact hfl x hx
   ·rw [List.mem_singleton] at hx; subst hx; exact hrc
  refine Xdz (fun _:Unit=>[(0, .pointer (some ⟨br,0,none⟩)),(2, .pointer (some ⟨bc,0,none⟩)),(3, .slice a3 rl.length k3),(4, .bool true),(41, .bool (closedB (l++[rc])))])
   (fun _=>.own bc 31 [.int .i64 rc.ev.node, .int .i64 rc.ev.seq, .int .i64 rc.gen, .slice a2 rc.parents.length k2, .int .i64 rc.op.kind, .string rc.op.key, .string rc.op.elem, .int .i64 rc.op.n]::.st (sl a2 k2 rc.parents)::.st (sl a3 k3 rl)::.own br 119 [.int .i64 no, .slice ad disk.length kd, .int .i64 room, .slice al l.length kl, .slice a3 rl.length k3, .int .i64 seq, .bool up, .slice ap peers.length kp, .int .i64 next, .int .i64 miss]::.res (buf al kl 31 l)::.st (sl ad kd disk)::.st (sl aw kw wait)::.st (sl ap kp peers)::Γ) ?_ ?_
  ·refine Xsw fun w2=>?_
   refine JC.drawP mixed ?_
   refine Xab 0 ?_
   refine Xab 1 ?_
   refine Xab 2 ?_
   refine Xab 3 ?_
   refine Xab 4 ?_
   refine JP.tv 5 [.st (ro br 0 [.int .i64 no, .slice ad disk.length kd, .int .i64 room, .slice al l.length kl, .slice a3 rl.length k3, .int .i64 seq, .bool up, .slice ap peers.length kp, .int .i64 next, .int .i64 miss])] ?_
   refine JP.tv 7 [.st (ro bc 0 [.int .i64 rc.ev.node, .int .i64 rc.ev.seq, .int .i64 rc.gen, .slice a2 rc.parents.length k2, .int .i64 rc.op.kind, .string rc.op.key, .string rc.op.elem, .int .i64 rc.op.n])] ?_
   refine JP.both 6 8 (by kernel_rfl) rfl rfl rfl rfl (JR.callBuf rfl (fun w1 hw=>Xfa w1 _ al kl l hw.get (by omega)) (fun a4 k4=>Wd (nO ?_))) (Ww rfl ⟨rfl,by decide,by decide,by decide⟩ (fun bl=>Wd (nO ?_)))
   ·refine Xai 8 rfl rfl (Ww rfl ⟨rfl,by decide,by decide,by decide⟩ (fun bl=>Wd (nO ?_)))
    refine Xai 9 rfl rfl (Xay (u:=rc) rfl (by exact ⟨rfl,rfl,by decide⟩) (by omega) (fun a5 k5=>Wd (nO ?_)))
    refine Xai 10 rfl rfl (JR.callV rfl (fun w1 hw=>(Xdj w1 (fun _=>True) a5 k5 (l++[rc]) (closedB (l++[rc])) hw.bufSlOf (by simp; omega) hfa Xbj).any) (Wd (nO ?_)))
    exact JP.nil (by kernel_rfl) ⟨rfl,(),iI⟩
   ·refine Xai 6 rfl rfl (JR.callBuf rfl (fun w1 hw=>Xfa w1 _ al kl l hw.get (by omega)) (fun a4 k4=>Wd (nO ?_)))
    refine Xai 9 rfl rfl (Xay (u:=rc) rfl (by exact ⟨rfl,rfl,by decide⟩) (by omega) (fun a5 k5=>Wd (nO ?_)))
    refine Xai 10 rfl rfl (JR.callV rfl (fun w1 hw=>(Xdj w1 (fun _=>True) a5 k5 (l++[rc]) (closedB (l++[rc])) hw.bufSlOf (by simp; omega) hfa Xbj).any) (Wd (nO ?_)))
    exact JP.nil (by kernel_rfl) ⟨rfl,(),iI⟩
  rintro ⟨⟩
  cases hcl:closedB (l++[rc]) with
  | false =>
   have e1:Xgj ⟨no,disk,room,l,wait,seq,up,peers,next,miss⟩ rc rl=⟨no,disk,room,l,rl,seq,up,peers,next,miss⟩:=if_neg (by rw [hcl]; exact Bool.false_ne_true)
   rw [e1] at hok1 hw1 hstep
   refine wz2 ?_
   exact ⟨⟨no,disk,room,l,rl,seq,up,peers,next,miss⟩,⟨ad,kd,al,kl,a3,k3,ap,kp⟩,⟨hok1,by rw [← hstep]; exact hS⟩,by show rl.length < wait.length; omega,iI⟩
  | true =>
   have e1:Xgj ⟨no,disk,room,l,wait,seq,up,peers,next,miss⟩ rc rl=Xho ⟨no,disk,room,l,rl,seq,up,peers,next,miss⟩ rc:=if_pos hcl
   rw [e1] at hok1 hw1 hstep
   refine wz8 ?_
   refine JC.drawP mixed ?_
   refine Xab 0 ?_
   refine Xab 1 ?_
   refine Xab 2 ?_
   refine JP.tv 3 [.own bc 31 [.int .i64 rc.ev.node, .int .i64 rc.ev.seq, .int .i64 rc.gen, .slice a2 rc.parents.length k2, .int .i64 rc.op.kind, .string rc.op.key, .string rc.op.elem, .int .i64 rc.op.n]] ?_
   refine JP.more (Γ':=repF br ⟨no,disk,room,l,rl,seq,up,peers,next,miss⟩ ⟨ad,kd,al,kl,a3,k3,ap,kp⟩++.st (sl a2 k2 rc.parents)::Γ) (fun w1 ho=>(ho.ent:Hold _ _ (.own br 119 [.int .i64 no, .slice ad disk.length kd, .int .i64 room, .slice al l.length kl, .slice a3 rl.length k3, .int .i64 seq, .bool up, .slice ap peers.length kp, .int .i64 next, .int .i64 miss]::.res (buf al kl 31 l)::.st (sl ad kd disk)::.st (sl a3 k3 rl)::.st (sl ap kp peers)::.st (sl a2 k2 rc.parents)::Γ) w1)) ?_
   refine Xai 4 rfl rfl (Xal (v:=fun y:Na=>.int .i64 (storeT disk room rc).2) (B:=fun y'=>repF br (Xho ⟨no,disk,room,l,rl,seq,up,peers,next,miss⟩ rc) y'++Γ) rfl (fun w1 hw=>Xy7 ⟨no,disk,room,l,rl,seq,up,peers,next,miss⟩ ⟨ad,kd,al,kl,a3,k3,ap,kp⟩ rc a2 k2 hrc.1 hdk (by show l.length < _; omega) hw) (fun y2=>Wd (nO ?_)))
   generalize Xho ⟨no,disk,room,l,rl,seq,up,peers,next,miss⟩ rc=n2 at hok1 hw1 hstep
   dsimp only [repF,List.cons_append,List.nil_append]
   refine JP.nil (by kernel_rfl) ?_
   refine wz2 ?_
   exact ⟨n2,y2,⟨hok1,by rw [← hstep]; exact hS⟩,by rw [hw1]; show rl.length < wait.length; omega,iI⟩
end
theorem Xpj {L:List Commit} {c x:Commit} (h:x∈Xbt L c):x∈L∨x=c:=by
 unfold Xbt at h
 split at h
 ·exact .inl h
 ·have:=List.mem_of_mem_drop h
  rcases List.mem_append.1 this with h | h
  ·exact .inl h
  ·exact .inr (List.mem_singleton.1 h)
theorem X1k (L:List Commit) (c:Commit):(Xbt L c).length≤L.length+1:=by
 unfold Xbt
 split
 ·omega
 ·rw [List.length_drop,List.length_append,List.length_singleton]; omega
theorem X8z {N:Nat} {n:Nd} {c:Commit} (h:NdOk N n) (hc:fine c):NdOk (N+1) { n with wait:=Xbt n.wait c }:=by
 refine ⟨h.fl,fun x hx=>?_,h.disk,h.room,?_⟩
 ·rcases Xpj hx with hx | rfl
  ·exact h.fw x hx
  ·exact hc
 ·have:=h.len
  have:=X1k n.wait c
  show n.l.length+(Xbt n.wait c).length≤N+1
  omega
section
variable {w0 w:World} {F:Nat→Prop} {Γ:List Fact} {br:Nat}
theorem X47 (n:Nd) (y:Na) (c:Commit) (a:Option Addr) (k:Nat) (hc:fine c) (hok:NdOk 899 n) (ho:Hold w0 F (repF br n y++.st (sl a k c.parents)::Γ) w) :
  Calls prog 70 ⟨[.pointer (some ⟨br,0,none⟩),Xap c a k]⟩ w fun x w'=>∃ y':Na,x = .returned (.tuple ⟨[]⟩)∧Hold w0 F (repF br (Xd7 n c) y'++Γ) w':=by
 refine Xa4 (v:=fun y:Na=>.tuple ⟨[]⟩) (B:=fun y'=>repF br (Xd7 n c) y'++Γ) func70 rfl ntmps70 rfl rfl _ ho ?_
 rcases n with ⟨no,disk,room,l,wait,seq,up,peers,next,miss⟩
 rcases y with ⟨ad,kd,al,kl,aw,kw,ap,kp⟩
 obtain ⟨hfl,hfw,hdk,hrm,hln⟩:=id hok
 dsimp only [repF,ndC,List.cons_append,List.nil_append] at *
 (repeat (refine wE ?_; intro _)); refine wA ?_
 rename_i bc
 refine JR.callV rfl (fun w1 hw=>Xfq w1 _ c a k hw.get hc.1) ?_
 (repeat (refine wE ?_; intro _)); refine wA ?_
 rename_i bi
 refine Xdz (fun _:Unit=>[(0, .pointer (some ⟨br,0,none⟩)),(3, .pointer (some ⟨bc,0,none⟩)),(37, .bool (!Xcn no seq (idsP l) c))])
  (fun _=>.own bc 31 [.int .i64 c.ev.node, .int .i64 c.ev.seq, .int .i64 c.gen, .slice a c.parents.length k, .int .i64 c.op.kind, .string c.op.key, .string c.op.elem, .int .i64 c.op.n]::.st (sl a k c.parents)::.own br 119 [.int .i64 no, .slice ad disk.length kd, .int .i64 room, .slice al l.length kl, .slice aw wait.length kw, .int .i64 seq, .bool up, .slice ap peers.length kp, .int .i64 next, .int .i64 miss]::.res (buf al kl 31 l)::.st (sl ad kd disk)::.st (sl aw kw wait)::.st (sl ap kp peers)::Γ) ?_ ?_
 ·refine Xsw fun w2=>?_
  refine JC.drawP mixed ?_
  refine Xab 0 ?_
  refine Xab 1 ?_
  refine Xab 2 ?_
  by_cases h1:may c=true
  case neg =>
   have h1':may c=false:=by rw [← Bool.not_eq_true]; exact h1
   have hfr:Xcn no seq (idsP l) c=false:=by unfold Xcn; rw [h1']; rfl
   rw [hfr,Bool.not_false]
   refine JP.reslot 13 (.bool true) (by congr 1; exact decide_eq_true (fun h=>h1 ((Xe9 c).1 h))) ?_
   refine JP.ov 3 ?_
   refine JP.ov 4 ?_
   refine Xab 5 ?_
   refine Xab 6 ?_
   refine JP.ov 7 ?_
   refine JP.ov 8 ?_
   refine JP.ov 9 ?_
   refine JP.ov 10 ?_
   refine JP.ov 11 ?_
   refine JP.ov 12 ?_
   refine JP.ov 13 ?_
   refine JP.ov 14 ?_
   refine JP.ov 15 ?_
   refine Xab 16 ?_
   refine Xab 17 ?_
   refine JP.ov 18 ?_
   refine JP.ov 19 ?_
   refine JP.ov 20 ?_
   refine JP.ov 21 ?_
   refine JP.ov 22 ?_
   refine JP.ov 23 ?_
   refine JP.ov 24 ?_
   refine JP.ov 25 ?_
   refine Xab 26 ?_
   exact JP.nil (by kernel_rfl) ⟨rfl,(),iI⟩
  refine JP.reslot 13 (.bool false) (by congr 1; exact decide_eq_false (fun h=>h ((Xe9 c).2 h1))) ?_
  refine JP.tv 3 [.st (ro bc 0 [.int .i64 c.ev.node, .int .i64 c.ev.seq, .int .i64 c.gen, .slice a c.parents.length k, .int .i64 c.op.kind, .string c.op.key, .string c.op.elem, .int .i64 c.op.n])] ?_
  refine Xai 4 rfl rfl (JR.callV rfl (fun w1 hw=>Xes w1 _ c a k hw.get hc.1) (Wd (nO ?_)))
  cases h2:merge c with
  | true =>
   have hfr:Xcn no seq (idsP l) c=false:=by unfold Xcn; rw [h1,h2]; rfl
   rw [hfr,Bool.not_false]
   refine Xab 5 ?_
   refine Xab 6 ?_
   refine JP.ov 7 ?_
   refine JP.ov 8 ?_
   refine JP.ov 9 ?_
   refine JP.ov 10 ?_
   refine JP.ov 11 ?_
   refine JP.ov 12 ?_
   refine JP.ov 13 ?_
   refine JP.ov 14 ?_
   refine JP.ov 15 ?_
   refine Xab 16 ?_
   refine Xab 17 ?_
   refine JP.ov 18 ?_
   refine JP.ov 19 ?_
   refine JP.ov 20 ?_
   refine JP.ov 21 ?_
   refine JP.ov 22 ?_
   refine JP.ov 23 ?_
   refine JP.ov 24 ?_
   refine JP.ov 25 ?_
   refine Xab 26 ?_
   exact JP.nil (by kernel_rfl) ⟨rfl,(),iI⟩
  | false =>
  refine Xab 5 ?_
  refine Xab 6 ?_
  refine Xab 7 ?_
  refine Xab 8 ?_
  refine Xab 9 ?_
  refine Xab 10 ?_
  refine Xab 11 ?_
  refine JP.tv 12 [.st (ro br 0 [.int .i64 no, .slice ad disk.length kd, .int .i64 room, .slice al l.length kl, .slice aw wait.length kw, .int .i64 seq, .bool up, .slice ap peers.length kp, .int .i64 next, .int .i64 miss])] ?_
  refine JP.tv 14 [.st (ro bi 0 (idc (Xas c).1))] ?_
  refine Xai 13 rfl rfl (JR.callBuf rfl (fun w1 hw=>Xs5 w1 _ al kl l hw.get (by omega) hfl) (fun ai ki=>Wd (nO ?_)))
  refine Xai 15 rfl rfl (JR.callV rfl (fun w1 hw=>(Xwk w1 (fun _=>True) ai ki (idsP l) (Xas c).1 hw.bufSlOf).any) (Wd (nO ?_)))
  by_cases h3:(Xas c).1∈idsP l
  case pos =>
   have hfr:Xcn no seq (idsP l) c=false:=by unfold Xcn idC; rw [h1,h2,decide_eq_true h3]; rfl
   rw [hfr,Bool.not_false]
   refine JP.reslot 26 (.bool true) (by rw [decide_eq_true h3]) ?_
   refine Xab 16 ?_
   refine Xab 17 ?_
   refine JP.ov 18 ?_
   refine JP.ov 19 ?_
   refine JP.ov 20 ?_
   refine JP.ov 21 ?_
   refine JP.ov 22 ?_
   refine JP.ov 23 ?_
   refine JP.ov 24 ?_
   refine JP.ov 25 ?_
   refine Xab 26 ?_
   exact JP.nil (by kernel_rfl) ⟨rfl,(),iI⟩
  refine JP.reslot 26 (.bool false) (by rw [decide_eq_false h3]) ?_
  refine Xab 16 ?_
  refine Xab 17 ?_
  refine Xab 18 ?_
  refine Xab 19 ?_
  refine Xab 20 ?_
  refine Xab 21 ?_
  refine JP.tv 22 [.st (ro br 0 [.int .i64 no, .slice ad disk.length kd, .int .i64 room, .slice al l.length kl, .slice aw wait.length kw, .int .i64 seq, .bool up, .slice ap peers.length kp, .int .i64 next, .int .i64 miss])] ?_
  refine JP.tv 23 [.st (ro bc 0 [.int .i64 c.ev.node, .int .i64 c.ev.seq, .int .i64 c.gen, .slice a c.parents.length k, .int .i64 c.op.kind, .string c.op.key, .string c.op.elem, .int .i64 c.op.n])] ?_
  refine Xai 24 rfl rfl (JR.callV rfl (fun w1 hw=>Xja w1 _ ⟨no,disk,room,l,wait,seq,up,peers,next,miss⟩ ⟨ad,kd,al,kl,aw,kw,ap,kp⟩ c a k) (Wd (nO ?_)))
  have hfr:Xcn no seq (idsP l) c=Xiv no seq c:=by unfold Xcn idC; rw [h1,h2,decide_eq_false h3]; rfl
  rw [hfr]
  dsimp only
  refine Xab 25 ?_
  refine Xab 26 ?_
  exact JP.nil (by kernel_rfl) ⟨rfl,(),iI⟩
 rintro ⟨⟩
 cases hfr:Xcn no seq (idsP l) c with
 | false =>
  have e1:Xd7 ⟨no,disk,room,l,wait,seq,up,peers,next,miss⟩ c=⟨no,disk,room,l,wait,seq,up,peers,next,miss⟩:=if_neg (by show ¬ Xcn no seq (idsP l) c=true; rw [hfr]; exact Bool.false_ne_true)
  rw [e1]
  dsimp only
  refine wz8 ?_
  exact Xac (Y:=Na) ⟨ad,kd,al,kl,aw,kw,ap,kp⟩ rfl
 | true =>
  have e1:Xd7 ⟨no,disk,room,l,wait,seq,up,peers,next,miss⟩ c=Xd4 ⟨no,disk,room,l,Xbt wait c,seq,up,peers,next,miss⟩:=if_pos hfr
  rw [e1]
  have hok2:=X8z hok hc
  refine wz7 ?_
  refine JC.drawP mixed ?_
  refine Xab 0 ?_
  refine Xab 1 ?_
  refine Xab 2 ?_
  refine Xab 3 ?_
  refine Xab 4 ?_
  refine Xab 5 ?_
  refine JP.tv 6 [.own br 119 [.int .i64 no, .slice ad disk.length kd, .int .i64 room, .slice al l.length kl, .slice aw wait.length kw, .int .i64 seq, .bool up, .slice ap peers.length kp, .int .i64 next, .int .i64 miss]] ?_
  refine JP.tv 7 [.own bc 31 [.int .i64 c.ev.node, .int .i64 c.ev.seq, .int .i64 c.gen, .slice a c.parents.length k, .int .i64 c.op.kind, .string c.op.key, .string c.op.elem, .int .i64 c.op.n]] ?_
  refine Xai 8 rfl rfl (JR.callSl rfl (fun w1 hw=>X6d w1 _ aw a kw k wait c hw.get hw.get (by omega) hfw hc) (fun a3 k3=>Wd (nO ?_)))
  refine Xab 9 ?_
  refine Xab 10 ?_
  refine Xab 11 ?_
  refine Xab 12 ?_
  refine JP.reslot 50 (.pointer (some ⟨br,4,none⟩)) rfl ?_
  refine Xai 13 rfl rfl (Wi (Wd (nO ?_)))
  refine JP.nil (by kernel_rfl) ?_
  refine wz14 ?_
  refine JR.more (Γ':=repF br ⟨no,disk,room,l,Xbt wait c,seq,up,peers,next,miss⟩ ⟨ad,kd,al,kl,a3,k3,ap,kp⟩++Γ) (fun w1 ho=>(ho.ent:Hold _ _ (.own br 119 [.int .i64 no, .slice ad disk.length kd, .int .i64 room, .slice al l.length kl, .slice a3 (Xbt wait c).length k3, .int .i64 seq, .bool up, .slice ap peers.length kp, .int .i64 next, .int .i64 miss]::.res (buf al kl 31 l)::.st (sl ad kd disk)::.st (sl a3 k3 (Xbt wait c))::.st (sl ap kp peers)::Γ) w1)) ?_
  refine Xal (v:=fun y:Na=>.tuple ⟨[]⟩) (B:=fun y'=>repF br (Xd4 ⟨no,disk,room,l,Xbt wait c,seq,up,peers,next,miss⟩) y'++Γ) rfl (fun w1 hw=>Xx3 _ _ hok2 hw) ?_
  intro y2
  refine wz10 ?_
  exact Xd0 y2 rfl (fun w ho=>ho)
end
structure NdFew (n:Nd):Prop where
 fl:∀ x∈n.l,fine x
 fw:∀ x∈n.wait,fine x
 disk:n.disk.length≤1048576
 len:n.l.length+n.wait.length≤800
 peers:n.peers.length≤1000
theorem Xks (n:Nd) (y:Na) (h1:(sl y.d y.dk n.disk).holds F w) (h2:(sl y.l y.lk n.l).holds F w) (h3:(sl y.w y.wk n.wait).holds F w) (h4:(sl y.p y.pk n.peers).holds F w) (hn:NdFew n) :
  Gives prog 68 [ndV n y] w F (fun z:Nat × Na=>.pointer (some ⟨z.1,0,none⟩)) (fun z=>repF z.1 n z.2):=by
 rcases n with ⟨no,disk,room,l,wait,seq,up,peers,next,miss⟩
 rcases y with ⟨ad,kd,al,kl,aw,kw,ap,kp⟩
 obtain ⟨hfl,hfw,hdk,hln,hpl⟩:=hn
 dsimp only [ndV,ndC] at *
 refine Xaa func68 rfl ntmps68 rfl rfl [.st (sl ad kd disk), .st (sl al kl l), .st (sl aw kw wait), .st (sl ap kp peers)] (.start4 h1 h2 h3 h4) ?_
 (repeat (refine wE ?_; intro _)); refine wA ?_
 rename_i bn
 refine JC.drawP mixed ?_
 refine Xab 0 ?_
 refine JP.tv 1 [.own bn 50 [.int .i64 no, .slice ad disk.length kd, .int .i64 room, .slice al l.length kl, .slice aw wait.length kw, .int .i64 seq, .bool up, .slice ap peers.length kp, .int .i64 next, .int .i64 miss]] ?_
 refine Xab 3 ?_
 refine JP.tv 4 [.own bn 50 [.int .i64 no, .slice ad disk.length kd, .int .i64 room, .slice al l.length kl, .slice aw wait.length kw, .int .i64 seq, .bool up, .slice ap peers.length kp, .int .i64 next, .int .i64 miss]] ?_
 refine Xai 2 rfl rfl (JR.callBuf rfl (fun w1 hw=>X46 w1 _ ad kd disk hw.get (by omega)) (fun a1 k1=>Wd (nO ?_)))
 refine JP.more (fun w1 ho=>ho.pub) ?_
 refine Xab 6 ?_
 refine Xai 5 rfl rfl (JR.callBuf rfl (fun w1 hw=>X1i w1 _ ap kp peers hw.get (by omega)) (fun a2 k2=>Wd (nO ?_)))
 refine JP.more (fun w1 ho=>ho.pub) ?_
 refine JP.reslot 9 (.pointer (some ⟨bn,1,none⟩)) rfl ?_
 refine Xai 7 rfl rfl (Wi (Wd (nO ?_)))
 refine Xab 8 ?_
 refine JP.reslot 10 (.pointer (some ⟨bn,7,none⟩)) rfl ?_
 refine Xai 9 rfl rfl (Wi (Wd (nO ?_)))
 refine JP.nil (by kernel_rfl) ?_
 refine wz14 ?_
 refine JC.drawP mixed ?_
 refine Xab 0 ?_
 refine JP.tv 1 [.own bn 50 [.int .i64 no, .slice a1 disk.length k1, .int .i64 room, .slice al l.length kl, .slice aw wait.length kw, .int .i64 seq, .bool up, .slice a2 peers.length k2, .int .i64 next, .int .i64 miss]] ?_
 refine Xab 3 ?_
 refine JP.tv 4 [.own bn 50 [.int .i64 no, .slice a1 disk.length k1, .int .i64 room, .slice al l.length kl, .slice aw wait.length kw, .int .i64 seq, .bool up, .slice a2 peers.length k2, .int .i64 next, .int .i64 miss]] ?_
 refine Xai 2 rfl rfl (JR.callBuf rfl (fun w1 hw=>Xls w1 _ al kl l hw.get (by omega) hfl) (fun a3 k3=>Wd (nO ?_)))
 refine Xab 6 ?_
 refine Xai 5 rfl rfl (JR.callBuf rfl (fun w1 hw=>Xls w1 _ aw kw wait hw.get (by omega) hfw) (fun a4 k4=>Wd (nO ?_)))
 refine JP.more (fun w1 ho=>ho.pub) ?_
 refine JP.reslot 17 (.pointer (some ⟨bn,3,none⟩)) rfl ?_
 refine Xai 7 rfl rfl (Wi (Wd (nO ?_)))
 refine Xab 8 ?_
 refine JP.reslot 18 (.pointer (some ⟨bn,4,none⟩)) rfl ?_
 refine Xai 9 rfl rfl (Wi (Wd (nO ?_)))
 refine JP.nil (by kernel_rfl) ?_
 refine wz9 ?_
 refine Wf (OpV.build [.int .i64 no, .slice a1 disk.length k1, .int .i64 room, .slice a3 l.length k3, .slice a4 wait.length k4, .int .i64 seq, .bool up, .slice a2 peers.length k2, .int .i64 next, .int .i64 miss] (by kernel_rfl)) rfl ?_
 refine wz13 ?_
 refine Wf (OpV.build [.int .i64 no, .slice a1 disk.length k1, .int .i64 room, .slice a3 l.length k3, .slice a4 wait.length k4, .int .i64 seq, .bool up, .slice a2 peers.length k2, .int .i64 next, .int .i64 miss] (by kernel_rfl)) rfl ?_
 (repeat (refine wE ?_; intro _)); refine wA ?_
 rename_i br
 exact Xac (br,⟨a1,k1,a3,k3,a4,k4,a2,k2⟩) rfl
theorem X1l (no room:Int):Gives prog 31 [.int .i64 no, .int .i64 room] w F (fun _:Unit=>.tuple ⟨[ndV (newN no room).1 na0, .bool (newN no room).2]⟩) (fun _=>[]):=by
 refine Xaa func31 rfl ntmps31 rfl rfl [] (.start w F) ?_
 (repeat (refine wE ?_; intro _)); refine wA ?_
 refine JR.callV rfl (fun w1 hw=>Xpi w1 _ no room) ?_
 cases hfit:Xgi no room with
 | false =>
  have e1:newN no room=(nd0,false):=if_neg (by rw [hfit]; exact Bool.false_ne_true)
  rw [e1]
  refine wz8 ?_
  refine Wf (OpV.build [.int .i64 0, .slice none 0 0, .int .i64 0, .slice none 0 0, .slice none 0 0, .int .i64 0, .bool false, .slice none 0 0, .int .i64 0, .int .i64 0] (by kernel_rfl)) rfl ?_
  refine wz9 ?_
  exact Xac () rfl
 | true =>
  have e1:newN no room=({ nd0 with no:=no,room:=room,up:=true },true):=if_pos hfit
  rw [e1]
  refine wz7 ?_
  refine Wf (OpV.build [.int .i64 no, .slice none 0 0, .int .i64 room, .slice none 0 0, .slice none 0 0, .int .i64 0, .bool true, .slice none 0 0, .int .i64 0, .int .i64 0] (by kernel_rfl)) rfl ?_
  refine wz9 ?_
  exact Xac () rfl
theorem Xrc {N:Nat}:∀ (f:Nat) {n:Nd},NdOk N n→NdOk N (Xgk f n)
 | 0,n,h=>h
 | f+1,n,h=>by
  unfold Xgk
  split
  ·rename_i hr
   exact Xrc f (Xrb h (by rw [← hr]))
  ·exact h
theorem X7v {N:Nat} {n:Nd} {c:Commit} (h:NdOk N n) (hc:fine c):NdOk (N+1) (Xd7 n c):=by
 unfold Xd7
 split
 ·exact Xrc _ (X8z h hc)
 ·exact ⟨h.fl,h.fw,h.disk,h.room,by have:=h.len; omega⟩
theorem X7w {N:Nat} {n:Nd} (h:NdOk N n):∀ (l:List Commit),(∀ c∈l,fine c)→NdOk (N+l.length) (l.foldl Xd7 n):=by
 intro l
 induction l generalizing n N with
 | nil=>intro _; exact h
 | cons c l ih =>
  intro hl
  have:=ih (X7v h (hl c (by simp))) (fun x hx=>hl x (by simp [hx]))
  rw [List.foldl_cons,List.length_cons]
  exact (by rw [show N+(l.length+1)=N+1+l.length by omega]; exact this)
theorem Xc2 {n:Nd} (h:Xbb n=true):n.room≤1048576∧(n.disk.length:Int)≤n.room∧Xgi n.no n.room=true:=by
 have h1:Xgi n.no n.room=true:=by
  cases hf:Xgi n.no n.room with
  | true=>rfl
  | false=>unfold Xbb at h; rw [hf] at h; cases h
 have h2:¬ n.room < (n.disk.length:Int):=by
  intro h2
  unfold Xbb at h
  rw [decide_eq_true h2,h1] at h
  cases h
 exact ⟨(Xvu h1).2.2.2,by omega,h1⟩
theorem X1m {w0 w:World} {F:Nat→Prop} {Γ:List Fact} {br:Nat} (n:Nd) (y:Na) (c:Commit) (a:Option Addr) (k:Nat) (hc:fine c) (hok:NdOk 899 n) (ho:Hold w0 F (.own br 119 (ndC n y)::.res (buf y.l y.lk 31 n.l)::.st (sl y.d y.dk n.disk)::.st (sl y.w y.wk n.wait)::.st (sl y.p y.pk n.peers)::.st (sl a k c.parents)::Γ) w) :
  Calls prog 70 ⟨[.pointer (some ⟨br,0,none⟩),Xap c a k]⟩ w fun x w'=>∃ y':Na,x = .returned (.tuple ⟨[]⟩)∧Hold w0 F (.own br 119 (ndC (Xd7 n c) y')::.res (buf y'.l y'.lk 31 (Xd7 n c).l)::.st (sl y'.d y'.dk (Xd7 n c).disk)::.st (sl y'.w y'.wk (Xd7 n c).wait)::.st (sl y'.p y'.pk (Xd7 n c).peers)::Γ) w':=by
 have h:=X47 n y c a k hc hok ho
 simp only [repF,List.cons_append,List.nil_append] at h
 exact h
theorem Xjq (n:Nd) (y:Na) (L:List Commit) (a:Option Addr) (k:Nat) (h1:(sl y.d y.dk n.disk).holds F w) (h2:(sl y.l y.lk n.l).holds F w) (h3:(sl y.w y.wk n.wait).holds F w) (h4:(sl y.p y.pk n.peers).holds F w) (h5:(sl a k L).holds F w) (hn:NdFew n)
  (hL:L.length≤90) (hf:∀ c∈L,fine c) :
  Gives prog 22 [ndV n y, .slice a L.length k] w F (fun z:Na=>ndV (Xgl n L) z) (fun z=>ndB (Xgl n L) z):=by
 refine Xaa func22 rfl ntmps22 rfl rfl (.st (sl a k L)::ndB n y) ((Hold.start4 h1 h2 h3 h4).add (Asn.mono _ _ _ _ (fun k hk=>⟨.inl hk,by simp [free,Fact.owns]⟩) h5)) ?_
 have hn':=hn
 obtain ⟨no,disk,room,l,wait,seq,up,peers,next,miss⟩:=n
 obtain ⟨ad,kd,al,kl,aw,kw,ap,kp⟩:=y
 dsimp only [ndV,ndC,ndB] at *
 (repeat (refine wE ?_; intro _)); refine wA ?_
 rename_i bn b4
 refine JR.call (v:=fun z:Nat × Na=>.pointer (some ⟨z.1,0,none⟩)) (B:=fun z=>repF z.1 ⟨no,disk,room,l,wait,seq,up,peers,next,miss⟩ z.2) rfl (fun w1 hw=>Xks w1 _ ⟨no,disk,room,l,wait,seq,up,peers,next,miss⟩ ⟨ad,kd,al,kl,aw,kw,ap,kp⟩ hw.get hw.get hw.get hw.get hn) ?_
 rintro ⟨br,⟨ad2,kd2,al2,kl2,aw2,kw2,ap2,kp2⟩⟩
 dsimp only [repF,ndC,List.cons_append,List.nil_append]
 refine wz9 ?_
 refine JR.callV rfl (fun w1 hw=>Xb0 w1 _ ⟨no,disk,room,l,wait,seq,up,peers,next,miss⟩ ⟨ad,kd,al,kl,aw,kw,ap,kp⟩ hw.get hw.get hw.get hn.fw) ?_
 cases hm:Xbb ⟨no,disk,room,l,wait,seq,up,peers,next,miss⟩ with
 | false =>
  have e1:Xgl ⟨no,disk,room,l,wait,seq,up,peers,next,miss⟩ L=⟨no,disk,room,l,wait,seq,up,peers,next,miss⟩:=if_neg (by rw [hm]; exact Bool.false_ne_true)
  rw [e1]
  dsimp only
  refine wX ?_
  refine Wf OpV.nilCheck rfl ?_
  refine wz9 ?_
  exact CT.done (Y:=Na) ⟨ad2,kd2,al2,kl2,aw2,kw2,ap2,kp2⟩ rfl (fun w ho=>(ho.pubAt (L:=l) al2 kl2).ent)
 | true =>
 cases up with
 | false =>
  have e1:Xgl ⟨no,disk,room,l,wait,seq,false,peers,next,miss⟩ L=⟨no,disk,room,l,wait,seq,false,peers,next,miss⟩:=if_neg (by rw [hm]; exact Bool.false_ne_true)
  rw [e1]
  dsimp only
  refine wX ?_
  refine Wf OpV.nilCheck rfl ?_
  refine wz9 ?_
  exact CT.done (Y:=Na) ⟨ad2,kd2,al2,kl2,aw2,kw2,ap2,kp2⟩ rfl (fun w ho=>(ho.pubAt (L:=l) al2 kl2).ent)
 | true =>
 have e1:Xgl ⟨no,disk,room,l,wait,seq,true,peers,next,miss⟩ L=L.foldl Xd7 ⟨no,disk,room,l,wait,seq,true,peers,next,miss⟩:=if_pos (by rw [hm]; rfl)
 rw [e1]
 have hrm:=(Xc2 hm).1
 have hok0:NdOk 800 ⟨no,disk,room,l,wait,seq,true,peers,next,miss⟩:=⟨hn.fl,hn.fw,hn.disk,hrm,hn.len⟩
 generalize hn0:(⟨no,disk,room,l,wait,seq,true,peers,next,miss⟩:Nd)=n0 at hok0
 refine wz1 ?_
 refine JR.callBuf rfl (fun w1 hw=>Xls w1 _ a k L hw.get (by omega) hf) ?_
 intro a3 k3
 refine JO.more (fun w1 ho=>ho.pub) ?_
 refine wz4 ?_
 refine Xcc (fun (j:Nat) (m:Nd) (z:Na)=>[(4, .pointer (some ⟨b4,0,none⟩)),(5, .pointer (some ⟨br,0,none⟩)),(17, .slice a3 L.length k3),(18, .int .i64 (L.length:Int)),(19, .int .i64 (j:Int))])
  (fun j m z=>.own br 119 (ndC m z)::.res (buf z.l z.lk 31 m.l)::.st (sl z.d z.dk m.disk)::.st (sl z.w z.wk m.wait)::.st (sl z.p z.pk m.peers)::[.own b4 50 [.int .i64 0, .slice none 0 0, .int .i64 0, .slice none 0 0, .slice none 0 0, .int .i64 0, .bool false, .slice none 0 0, .int .i64 0, .int .i64 0], .st (sl a3 k3 L)])
  (fun j m z=>j≤L.length∧m=(L.take j).foldl Xd7 n0) (fun j _ _=>L.length - j) 0 n0 ⟨ad2,kd2,al2,kl2,aw2,kw2,ap2,kp2⟩ ⟨Nat.zero_le _,rfl⟩ (by subst hn0; infer_instance) ?_
 rintro j m z ⟨hj,hmj⟩
 have hokm:NdOk (800+(L.take j).length) m:=by rw [hmj]; exact X7w hok0 _ (fun c hc=>hf c (List.mem_of_mem_take hc))
 have htl:(L.take j).length≤90:=by rw [List.length_take]; omega
 have hok9:NdOk 899 m:=⟨hokm.fl,hokm.fw,hokm.disk,hokm.room,by have:=hokm.len; omega⟩
 refine wz11 ?_
 refine JC.test (fun hlt=>?_) (fun hge=>?_)
 ·have hlt':j < L.length:=by omega
  refine wz14 ?_
  refine Xaq rfl hlt' ?_
  intro b5 o5 p5 q5
  (repeat (refine wE ?_; intro _)); refine wA ?_
  refine JR.more (Γ':=.own br 119 (ndC m z)::.res (buf z.l z.lk 31 m.l)::.st (sl z.d z.dk m.disk)::.st (sl z.w z.wk m.wait)::.st (sl z.p z.pk m.peers)::.st (sl p5 q5 L[j].parents)::[.own b4 50 [.int .i64 0, .slice none 0 0, .int .i64 0, .slice none 0 0, .slice none 0 0, .int .i64 0, .bool false, .slice none 0 0, .int .i64 0, .int .i64 0], .st (sl a3 k3 L)]) (fun w1 ho=>ho.ent) ?_
  have hfj:=hf _ (List.getElem_mem hlt')
  generalize hcj:L[j]=cj at hfj
  have hcall:=fun (w1:World) hw=>X1m (w0:=w) (F:=F) (w:=w1) (br:=br) (Γ:=[.own b4 50 [.int .i64 0, .slice none 0 0, .int .i64 0, .slice none 0 0, .slice none 0 0, .int .i64 0, .bool false, .slice none 0 0, .int .i64 0, .int .i64 0], .st (sl a3 k3 L)]) m z cj p5 q5 hfj hok9 hw
  refine Xal rfl hcall ?_
  subst hcj
  intro z2
  have hnext:Xd7 m L[j]=(L.take (j+1)).foldl Xd7 n0:=by rw [List.take_succ_eq_append_getElem hlt',List.foldl_append,← hmj]; rfl
  generalize Xd7 m L[j]=m2 at hnext
  refine wz2 ?_
  exact ⟨j+1,m2,z2,⟨by omega,hnext⟩,by omega,iI⟩
 ·obtain rfl:j=L.length:=by omega
  rw [List.take_length] at hmj
  rw [← hmj]
  refine wz3 ?_
  refine Wf OpV.nilCheck rfl ?_
  refine wz9 ?_
  exact CT.done (Y:=Na) z rfl (fun w ho=>(ho.pubAt (L:=m.l) z.l z.lk).ent)
end
def Xf8 (L:List Ctr_) (key:ByteArray):Int:=match L.find? (fun c=>decide (c.key=key)) with | some c=>c.n | none=>0
def Yb2 (P:Program) (w:World) (L:List Ctr_) (fid:FuncId) (caps:List Value) (p:Ctr_→Bool):Prop :=
 ∀ (w':World) (G:Nat→Prop) (x:Ctr_),x∈L→Bel w.heap.size w w'→GivesV P fid (.agg ⟨ctrC x⟩::caps) w' G (.bool (p x))
theorem Xp4 (a:Option Addr) (c:Nat) (L:List Ctr_) (h:(sl a c L).holds F w) (fid:FuncId) (caps:List Value) [Body prog fid] (p:Ctr_→Bool) (hp:Yb2 prog w L fid caps p) :
  GivesV prog 126 [.slice a L.length c, .func (.func fid) ⟨[]⟩ ⟨caps⟩] w F (.int .i64 (idxV (L.findIdx? p))):=by
 have hL:L.length < 9223372036854775807:=by have:=h.2.2.1; simp only [lim] at this; omega
 refine Xaa func126 rfl ntmps126 rfl rfl [.st (sl a c L)] (.start1 h) ?_
 refine wz4 ?_
 refine Xao (fun k:Nat=>[(0, .slice a L.length c),(1, .func (.func fid) ⟨[]⟩ ⟨caps⟩),(7, .int .i64 (L.length:Int)),(8, .int .i64 (k:Int))]) (fun _=>[.st (sl a c L)])
  (fun k=>k≤L.length∧(L.take k).findIdx? p=none) (fun k=>L.length - k) 0 ⟨Nat.zero_le _,by simp⟩ iI ?_
 intro k ⟨hk,hno⟩
 refine wz11 ?_
 refine JC.test (fun hlt=>?_) (fun hge=>?_)
 ·have hlt':k < L.length:=by omega
  have hft:=Xf2 p L k hlt' hno
  have hmem:=List.getElem_mem hlt'
  obtain ⟨u,hu⟩:∃ u,u=L[k]:=⟨_,rfl⟩
  rw [← hu] at hft hmem
  refine wz7 ?_
  refine Xg9 rfl hlt' ?_
  intro b o
  rw [← hu]
  refine wz6 ?_
  refine JR.callV rfl (fun w1 hw=>hp w1 _ u hmem hw.below) ?_
  cases hy:p u with
  | true =>
   refine wz8 ?_
   refine Xac () ?_
   rw [hft.1 hy]; rfl
  | false =>
   refine wz2 ?_
   exact ⟨k+1,⟨by omega,hft.2 hy⟩,by omega,iI⟩
 ·have hk0:k=L.length:=by omega
  refine wz3 ?_
  refine Xac () ?_
  rw [List.take_of_length_le (by omega)] at hno
  rw [hno]; rfl
theorem X7x (bk:Nat) (key:ByteArray) (x:Ctr_) (h:(ro bk 0 [.string key]).holds F w) :
  GivesV prog 127 [.agg ⟨ctrC x⟩, .pointer (some ⟨bk,0,none⟩)] w F (.bool (decide (x.key=key))):=by
 refine Xaa func127 rfl ntmps127 rfl rfl [.st (ro bk 0 [.string key])] (.start1 h) ?_
 (repeat (refine wF ?_; intro _)); refine wX ?_
 exact Xac () rfl
theorem X7y {w0 w:World} {F:Nat→Prop} {Γ:List Fact} {bk:Nat} {key:ByteArray} (L:List Ctr_) (ho:Hold w0 F (.own bk 9 [.string key]::Γ) w):Yb2 prog w L 127 [.pointer (some ⟨bk,0,none⟩)] (fun c=>decide (c.key=key)):=by
 intro w' G x _ hb
 have h1:(ro bk 0 [.string key]).holds (fun _=>True) w:=Lend.ok (f:=.own bk 9 [.string key]) w0 F _ w ho (by simp)
 have k1:(ro bk 0 [.string key]).holds (fun _=>True) w':=Asn.mono _ _ _ _ (fun k hk=>trivial) (Asn.frame _ _ _ _ (fun k hk=>hb.block k hk.2) ((ro bk 0 [.string key]).within _ _ h1))
 exact (X7x w' (fun _=>True) bk key x k1).any
theorem X48 (a:Option Addr) (k:Nat) (L:List Ctr_) (key:ByteArray) (h:(sl a k L).holds F w) :
  GivesV prog 67 [.slice a L.length k, .string key] w F (.int .i64 (Xf8 L key)):=by
 have hL:L.length < 9223372036854775807:=by have:=h.2.2.1; simp only [lim] at this; omega
 refine Xaa func67 rfl ntmps67 rfl rfl [.st (sl a k L)] (.start1 h) ?_
 (repeat (refine wE ?_; intro _)); refine wA ?_
 rename_i bk
 refine JR.callV (v:=.int .i64 (idxV (L.findIdx? fun c=>decide (c.key=key)))) rfl (fun w1 hw=>Xp4 w1 _ a k L hw.get 127 [.pointer (some ⟨bk,0,none⟩)] (fun c=>decide (c.key=key)) (X7y (key:=key) (Γ:=[]) L hw.ent)) ?_
 cases hi:L.findIdx? (fun c=>decide (c.key=key)) with
 | none =>
  have e1:Xf8 L key=0:=by
   unfold Xf8
   rw [List.find?_eq_none.2 (fun x hx=>by have:=List.findIdx?_eq_none_iff.1 hi x hx; simpa using this)]
  rw [e1]
  dsimp only [idxV]
  refine wA ?_
  exact Xac () rfl
 | some i =>
  obtain ⟨h1,h2,h3⟩:=List.findIdx?_eq_some_iff_getElem.1 hi
  have e1:Xf8 L key=L[i].n:=by
   unfold Xf8
   have:L.find? (fun c=>decide (c.key=key))=some L[i]:=by
    rw [List.find?_eq_some_iff_getElem]
    exact ⟨h2,i,h1,rfl,fun j hj=>by simpa using h3 j hj⟩
   rw [this]
  rw [e1]
  obtain ⟨u,hu⟩:∃ u,u=L[i]:=⟨_,rfl⟩
  rw [← hu]
  dsimp only [idxV]
  refine wz2 ?_
  refine Xg9 rfl h1 ?_
  intro b o
  rw [← hu]
  refine wz9 ?_
  exact Xac () rfl
end
section
variable [Dr]
def JCL (P:Program) (n:Nn) (w2 w0:World) (F:Nat→Prop) (c:Code) (Q:Cont) (e:E) (Δ:List Fact):Prop :=
 ∀ (a:Act) (w:World),Fr n e a→Hold w2 (fun _=>True) Δ w→c.wp P (fun x a' w'=>∃ e' Γ',Q x e' Γ'∧Fr n e' a'∧Hold w0 F Γ' w') a w
variable {P:Program} {n:Nn} {w0 w2:World} {F:Nat→Prop} {Q:Cont} {e:E} {Γ Δ:List Fact}
theorem X7z {c:Code} [hl:Lends Γ Δ] (h:∀ w2,Hold w0 F Γ w2→JCL P n w2 w0 F c Q e Δ):JC P n w0 F c Q e Γ :=
 fun a w fr ho=>h w ho a w fr ho.lend
theorem JCL.back {c:Code} (hb:Hold w0 F Γ w2) (h:JC P n w0 F c Q e Γ):JCL P n w2 w0 F c Q e Δ :=
 fun a w fr ho=>h a w fr (hb.of_below ho.below)
theorem JCL.seq {x y:Code} (hb:Hold w0 F Γ w2) (h:JC P n w2 (fun _=>True) x (andThen (fun e' Δ'=>JCL P n w2 w0 F y Q e' Δ') (fun ex e' _=>Q ex e' Γ)) e Δ):JCL P n w2 w0 F (.seq x y) Q e Δ:=by
 intro a w fr ho
 refine wp_seq (wp_mono (h a w fr ho) ?_)
 rintro x a' w' ⟨e',Δ',hq,fr',ho'⟩
 cases x <;> first | exact hq a' w' fr' ho' | exact ⟨e',Γ,hq,fr',hb.of_below ho'.below⟩
end
def NewA (w:World) (a:Option Addr):Prop:=∀ b o,a=some ⟨b,o,none⟩→w.heap.size≤b
abbrev NewY (w:World):={ y:Option Addr × Nat // NewA w y.1 }
theorem Yb3 {w0 w:World} {G:Nat→Prop} {a:Option Addr} {k:Nat} {L:List ID} (hn:NewA w0 a) (h:(sl a k L).holds G w):(sl a k L).holds (fun b=>G b∧w0.heap.size≤b) w:=by
 obtain ⟨h1,h2,h3,h4⟩:=h
 refine ⟨h1,h2,h3,fun hne=>?_⟩
 obtain ⟨b,off,rfl,hb,hlt,hr⟩:=h4 hne
 refine ⟨b,off,rfl,⟨hb,hn b off rfl⟩,hlt,fun i hi=>?_⟩
 obtain ⟨y,hy,_⟩:=hr i hi
 exact ⟨y,hy,fun A hA=>by cases hA⟩
theorem Gives.slNew [Dr] {P:Program} {f:FuncId} {args:List Value} {w:World} {G F:Nat→Prop} {v:Option Addr × Nat→Value} {L:List ID}
  (h:Gives P f args w G (fun y:NewY w=>v y.1) (fun y=>[.st (sl y.1.1 y.1.2 L)])):Gives P f args w F v (fun y=>[.st (sl y.1 y.2 L)]):=by
 refine Calls.mono h ?_
 rintro x w' ⟨y,hx,hb,hf⟩
 refine ⟨y.1,hx,hb,⟨fun g hg=>?_,by simp,fun g hg j hj=>?_⟩⟩
 ·rw [List.mem_singleton] at hg
  subst hg
  have h0:=hf.sat (.st (sl y.1.1 y.1.2 L)) (by simp)
  exact Asn.mono _ _ _ _ (fun k hk=>⟨.inr hk.2,hk.1.2⟩) (Yb3 y.2 h0)
 ·rw [List.mem_singleton] at hg
  subst hg
  cases hj
section
attribute [local irreducible] JC JO JR JQ andThen inBlock OpV Gives Xah JM JS
section
attribute [local irreducible] Xas idA l0 l1 ents
theorem Xvw (a:Option Addr) (k:Nat) (L:List Commit) (h:(sl a k L).holds F w) (hl:L.length≤1000) (hf:∀ x∈L,fine x) :
  GivesBuf prog 40 [.slice a L.length k] w F 72 (frontF L):=by
 refine Xaa func40 rfl ntmps40 rfl rfl [.st (sl a k L)] (.start1 h) ?_
 refine wz10 ?_
 refine JR.callV rfl (fun w1 hw=>Xdj w1 _ a k L (closedB L) hw.get (by omega) hf Xbj) ?_
 cases hb:closedB L with
 | false =>
  refine wz8 ?_
  rw [Xu2 (fun hc=>by rw [Xbk hc] at hb; cases hb)]
  exact CT.done (none,0) rfl (fun w ho=>ho.bufNil)
 | true =>
 have hc:=Xbj.1 hb
 have hpl:=Xjn hc.may
 refine wA ?_
 refine JC.buf_nil (α:=ID) 72 ?_
 refine Xcc (fun (i:Nat) p q=>[(0, .slice a L.length k),(3, .slice p (Xbo (L.take i)).length q),(9, .slice a L.length k),(10, .int .i64 (L.length:Int)),(11, .int .i64 (i:Int))])
  (fun i p q=>[.res (buf p q 72 (Xbo (L.take i))), .st (sl a k L)]) (fun i _ _=>i≤L.length) (fun i _ _=>L.length - i) 0 none 0 (Nat.zero_le _) (by rw [List.take_zero,show Xbo []=[] from rfl]; infer_instance) ?_
 intro i p q hi
 refine wz11 ?_
 refine JC.test (fun hlt=>?_) (fun hge=>?_)
 ·have hlt':i < L.length:=by omega
  have h2:=Xon L (i+1)
  rw [Xe8 L i hlt',List.length_append] at h2
  refine wz14 ?_
  refine Xaq rfl hlt' ?_
  intro b1 o1 p1 q1
  (repeat (refine wE ?_; intro _)); refine wA ?_
  refine Xbc rfl (by exact ⟨rfl,rfl,by decide⟩) (by omega) ?_
  intro r s
  refine wz2 ?_
  exact ⟨i+1,r,s,by omega,by omega,by rw [Xe8 L i hlt']; infer_instance⟩
 ·obtain rfl:i=L.length:=by omega
  rw [List.take_length]
  refine JC.more (fun w1 ho=>ho.pub) ?_
  refine wz3 ?_
  refine JR.callSl (L:=cids L) rfl (fun w1 hw=>by have:=Xxb w1 _ a k L hw.get (by omega) hf; rwa [Xhj hc.may] at this) ?_
  intro a1 k1
  refine wz6 ?_
  refine JR.callBuf rfl (fun w1 hw=>Xjh w1 _ a1 p k1 q (cids L) (Xbo L) hw.get hw.get (by rw [Xcx]; omega)) ?_
  intro a2 k2
  refine wz10 ?_
  have e1:frontF L=Xb3 (cids L) (Xbo L) false:=by rw [frontF,hb]; rfl
  rw [e1]
  exact Xac (a2,k2) rfl
theorem Ya1 (a:Option Addr) (k:Nat) (L:List Commit) (ev:Ev_) (o:Op_) (h:(sl a k L).holds F w) (hl:L.length≤900) (hf:∀ x∈L,fine x) (hot:o.key.size < 4611686018427387904∧o.elem.size < 4611686018427387904) :
  Gives prog 13 [.slice a L.length k, .agg ⟨[.int .i64 ev.node, .int .i64 ev.seq]⟩,opV o] w F (fun y:NewY w=>.tuple ⟨[Xap (nextF L ev o).1 y.1.1 y.1.2, .bool (nextF L ev o).2]⟩) (fun y=>[.st (sl y.1.1 y.1.2 (nextF L ev o).1.parents)]):=by
 obtain ⟨g,hg⟩:∃ g,g=IntKind.i64.wrap (topL L+1):=⟨_,rfl⟩
 refine Xaa func13 rfl ntmps13 rfl rfl [.st (sl a k L)] (.start1 h) ?_
 (repeat (refine wE ?_; intro _)); refine wA ?_
 rename_i b4 b5 b6
 refine Xdz (fun y:(Option Addr × Nat) × Nat=>[(0, .slice a L.length k),(6, .pointer (some ⟨b6,0,none⟩)),(7, .bool false),(8, .pointer (some ⟨y.2,0,none⟩))])
  (fun y=>[.res (buf y.1.1 y.1.2 72 (frontF L)), .own y.2 31 [.int .i64 ev.node, .int .i64 ev.seq, .int .i64 g, .slice y.1.1 (frontF L).length y.1.2, .int .i64 o.kind, .string o.key, .string o.elem, .int .i64 o.n], .own b6 31 [.int .i64 0, .int .i64 0, .int .i64 0, .slice none 0 0, .int .i64 0, .string .empty, .string .empty, .int .i64 0], .st (sl a k L)]) ?_ ?_
 ·refine Xb1 9 mixed ?_
  refine JM.tv 0 ?_
  refine JM.tv 1 ?_
  refine JM.takeCall 2 rfl (by kernel_rfl) rfl (fun w1 hw=>X4i w1 _ a k L hw.get) rfl rfl ?_
  refine JM.take 3 rfl (by kernel_rfl) rfl Xcs rfl rfl ?_
  refine JM.reslot 12 (.int .i64 g) (by rw [hg]) ?_
  refine JM.tv 4 ?_
  refine JM.tv 6 ?_
  refine Xx8 5 8 (by kernel_rfl) rfl rfl rfl rfl rfl rfl rfl rfl (JS.callBuf rfl (fun w1 hw=>Xvw w1 _ a k L hw.get (by omega) hf) fun af kf=>?_) (JS.alloc rfl fun b8=>?_)
  ·refine JM.take 7 rfl (by kernel_rfl) rfl (OpV.build [.int .i64 ev.node, .int .i64 ev.seq, .int .i64 g, .slice af (frontF L).length kf, .int .i64 o.kind, .string o.key, .string o.elem, .int .i64 o.n] (by kernel_rfl)) rfl rfl ?_
   refine JM.one 8 (by kernel_rfl) rfl rfl rfl rfl (JS.alloc rfl fun b8=>?_)
   refine Xam 9 (by kernel_rfl) rfl rfl rfl (Wi (Wd ⟨rfl,?_⟩))
   exact JM.nil (by kernel_rfl) ⟨rfl,((af,kf),b8),iI⟩
  ·refine JM.one 5 (by kernel_rfl) rfl rfl rfl rfl (JS.callBuf rfl (fun w1 hw=>Xvw w1 _ a k L hw.get (by omega) hf) fun af kf=>?_)
   refine JM.take 7 rfl (by kernel_rfl) rfl (OpV.build [.int .i64 ev.node, .int .i64 ev.seq, .int .i64 g, .slice af (frontF L).length kf, .int .i64 o.kind, .string o.key, .string o.elem, .int .i64 o.n] (by kernel_rfl)) rfl rfl ?_
   refine Xam 9 (by kernel_rfl) rfl rfl rfl (Wi (Wd ⟨rfl,?_⟩))
   exact JM.nil (by kernel_rfl) ⟨rfl,((af,kf),b8),iI⟩
 rintro ⟨⟨af,kf⟩,b8⟩
 dsimp only
 refine JC.pure (fun w1 ho=>(fun b o e=>ho.new (.res (buf af kf 72 (frontF L))) (by simp) b ⟨⟨b,o,none⟩,e,rfl⟩:NewA w af)) ?_
 intro hnew
 refine JC.more (fun w1 ho=>ho.pub) ?_
 refine wz14 ?_
 by_cases hc:Closed L
 case neg =>
  rw [X4j hc]
  refine Xb1 17 mixed ?_
  refine JM.tv 0 ?_
  refine JM.takeCall 1 rfl (by kernel_rfl) rfl (fun w1 hw=>Xuz w1 _ a k L hw.get (by omega) hf hc) rfl rfl ?_
  refine JM.tv 2 ?_
  refine JM.tv 3 ?_
  refine JM.ov 4 ?_
  refine JM.ov 5 ?_
  refine JM.ov 6 ?_
  refine JM.tv 7 ?_
  refine JM.tv 8 ?_
  refine JM.ov 9 ?_
  refine JM.ov 10 ?_
  refine JM.ov 11 ?_
  refine JM.ov 12 ?_
  refine JM.ov 13 ?_
  refine JM.ov 14 ?_
  refine JM.ov 15 ?_
  refine JM.tv 16 ?_
  refine JM.nil (by kernel_rfl) ?_
  refine wz8 ?_
  refine Wf (OpV.build [.int .i64 0, .int .i64 0, .int .i64 0, .slice none 0 0, .int .i64 0, .string .empty, .string .empty, .int .i64 0] (by kernel_rfl)) rfl ?_
  refine wz9 ?_
  exact CT.done ⟨(none,0),fun b o h=>by cases h⟩ rfl (fun w ho=>(ho.ent:Hold _ _ [] w).add Xan)
 case pos =>
 have hgt:g=topL L+1:=by
  have h1:=Xyv hc
  have h2:=X62 L
  rw [hg,Xc3 (by omega)]
 subst hgt
 have hfc:fine (nextC L ev o):=⟨hot,by have:=Xou hc; show (frontF L).length≤_; omega⟩
 have hfn:∀ x∈L++[nextC L ev o],fine x:=fun x hx=>by
  rcases List.mem_append.1 hx with hx | hx
  ·exact hf x hx
  ·rw [List.mem_singleton] at hx; subst hx; exact hfc
 cases hm:may (nextC L ev o) with
 | false =>
  rw [X4k hm]
  refine Xb1 17 mixed ?_
  refine JM.tv 0 ?_
  refine JM.takeCall 1 rfl (by kernel_rfl) rfl (fun w1 hw=>Xlh w1 _ a k L hw.get (by omega) hf hc) rfl rfl ?_
  refine JM.tv 2 ?_
  refine JM.tv 3 ?_
  refine JM.tv 4 ?_
  refine JM.takeCall 5 rfl (by kernel_rfl) rfl (fun w1 hw=>Xeh w1 _ (nextC L ev o) af kf (hw.get (A:=sl af kf (frontF L))) hfc.1) rfl rfl ?_
  rw [hm]
  refine JM.tv 6 ?_
  refine JM.tv 7 ?_
  refine JM.tv 8 ?_
  refine JM.ov 9 ?_
  refine JM.ov 10 ?_
  refine JM.ov 11 ?_
  refine JM.ov 12 ?_
  refine JM.ov 13 ?_
  refine JM.ov 14 ?_
  refine JM.ov 15 ?_
  refine JM.tv 16 ?_
  refine JM.nil (by kernel_rfl) ?_
  refine wz8 ?_
  refine Wf (OpV.build [.int .i64 0, .int .i64 0, .int .i64 0, .slice none 0 0, .int .i64 0, .string .empty, .string .empty, .int .i64 0] (by kernel_rfl)) rfl ?_
  refine wz9 ?_
  exact CT.done ⟨(none,0),fun b o h=>by cases h⟩ rfl (fun w ho=>(ho.ent:Hold _ _ [] w).add Xan)
 | true =>
  refine Xb1 13 mixed ?_
  refine JM.tv 0 ?_
  refine JM.takeCall 1 rfl (by kernel_rfl) rfl (fun w1 hw=>Xlh w1 _ a k L hw.get (by omega) hf hc) rfl rfl ?_
  refine JM.tv 2 ?_
  refine JM.tv 3 ?_
  refine JM.tv 4 ?_
  refine JM.takeCall 5 rfl (by kernel_rfl) rfl (fun w1 hw=>Xeh w1 _ (nextC L ev o) af kf (hw.get (A:=sl af kf (frontF L))) hfc.1) rfl rfl ?_
  rw [hm]
  refine JM.tv 6 ?_
  refine JM.tv 7 ?_
  refine JM.tv 8 ?_
  refine JM.tv 9 ?_
  refine JM.tv 11 ?_
  refine Xx8 10 12 (by kernel_rfl) rfl rfl rfl rfl rfl rfl rfl rfl (JS.callBuf rfl (fun w1 hw=>Xfa w1 _ a k L hw.get (by omega)) fun a9 k9=>?_) (Xtr rfl ⟨rfl,by decide,by decide,by decide⟩ fun lb=>?_)
  ·refine JM.one 12 (by kernel_rfl) rfl rfl rfl rfl (Xtr rfl ⟨rfl,by decide,by decide,by decide⟩ fun lb=>?_)
   refine Xam 13 (by kernel_rfl) rfl rfl rfl (Xay (L:=L) (u:=nextC L ev o) rfl (by exact ⟨rfl,rfl,by decide⟩) (by omega) (fun r s=>Wd ⟨rfl,?_⟩))
   refine JM.more (Γ':=.st (sl r s (L++[nextC L ev o]))::[.own b8 31 [.int .i64 ev.node, .int .i64 ev.seq, .int .i64 (topL L+1), .slice af (frontF L).length kf, .int .i64 o.kind, .string o.key, .string o.elem, .int .i64 o.n], .st (sl af kf (frontF L)), .own b6 31 [.int .i64 0, .int .i64 0, .int .i64 0, .slice none 0 0, .int .i64 0, .string .empty, .string .empty, .int .i64 0], .st (sl a k L)]) (fun w1 ho=>(ho.ent:Hold _ _ (.res (buf r s 31 (L++[nextC L ev o]))::[.own b8 31 [.int .i64 ev.node, .int .i64 ev.seq, .int .i64 (topL L+1), .slice af (frontF L).length kf, .int .i64 o.kind, .string o.key, .string o.elem, .int .i64 o.n], .st (sl af kf (frontF L)), .own b6 31 [.int .i64 0, .int .i64 0, .int .i64 0, .slice none 0 0, .int .i64 0, .string .empty, .string .empty, .int .i64 0], .st (sl a k L)]) w1).pub) ?_
   refine Xam 14 (by kernel_rfl) rfl rfl rfl (JR.callV rfl (fun w1 hw=>Xdj w1 _ r s (L++[nextC L ev o]) (closedB (L++[nextC L ev o])) hw.get (by simp; omega) hfn Xbj) (Wd ⟨rfl,?_⟩))
   refine Xam 15 (by kernel_rfl) rfl rfl rfl (Wf Vh rfl (Wd ⟨rfl,?_⟩))
   refine Xam 16 (by kernel_rfl) rfl rfl rfl (Wf Vj rfl (Wd ⟨rfl,?_⟩))
   refine JM.nil (by kernel_rfl) ?_
   cases hcn:closedB (L++[nextC L ev o]) with
   | false =>
    rw [Xy1 (fun h=>by rw [Xbk h] at hcn; cases hcn)]
    refine wz8 ?_
    refine Wf (OpV.build [.int .i64 0, .int .i64 0, .int .i64 0, .slice none 0 0, .int .i64 0, .string .empty, .string .empty, .int .i64 0] (by kernel_rfl)) rfl ?_
    refine wz9 ?_
    exact CT.done ⟨(none,0),fun b o h=>by cases h⟩ rfl (fun w ho=>(ho.ent:Hold _ _ [] w).add Xan)
   | true =>
    rw [Xo5 hc hm (Xbj.1 hcn)]
    refine wA ?_
    exact CT.done ⟨(af,kf),hnew⟩ rfl (fun w ho=>(ho.ent:Hold _ _ [.st (sl af kf (frontF L))] w))
  ·refine JM.one 10 (by kernel_rfl) rfl rfl rfl rfl (JS.callBuf rfl (fun w1 hw=>Xfa w1 _ a k L hw.get (by omega)) fun a9 k9=>?_)
   refine Xam 13 (by kernel_rfl) rfl rfl rfl (Xay (L:=L) (u:=nextC L ev o) rfl (by exact ⟨rfl,rfl,by decide⟩) (by omega) (fun r s=>Wd ⟨rfl,?_⟩))
   refine JM.more (Γ':=.st (sl r s (L++[nextC L ev o]))::[.own b8 31 [.int .i64 ev.node, .int .i64 ev.seq, .int .i64 (topL L+1), .slice af (frontF L).length kf, .int .i64 o.kind, .string o.key, .string o.elem, .int .i64 o.n], .st (sl af kf (frontF L)), .own b6 31 [.int .i64 0, .int .i64 0, .int .i64 0, .slice none 0 0, .int .i64 0, .string .empty, .string .empty, .int .i64 0], .st (sl a k L)]) (fun w1 ho=>(ho.ent:Hold _ _ (.res (buf r s 31 (L++[nextC L ev o]))::[.own b8 31 [.int .i64 ev.node, .int .i64 ev.seq, .int .i64 (topL L+1), .slice af (frontF L).length kf, .int .i64 o.kind, .string o.key, .string o.elem, .int .i64 o.n], .st (sl af kf (frontF L)), .own b6 31 [.int .i64 0, .int .i64 0, .int .i64 0, .slice none 0 0, .int .i64 0, .string .empty, .string .empty, .int .i64 0], .st (sl a k L)]) w1).pub) ?_
   refine Xam 14 (by kernel_rfl) rfl rfl rfl (JR.callV rfl (fun w1 hw=>Xdj w1 _ r s (L++[nextC L ev o]) (closedB (L++[nextC L ev o])) hw.get (by simp; omega) hfn Xbj) (Wd ⟨rfl,?_⟩))
   refine Xam 15 (by kernel_rfl) rfl rfl rfl (Wf Vh rfl (Wd ⟨rfl,?_⟩))
   refine Xam 16 (by kernel_rfl) rfl rfl rfl (Wf Vj rfl (Wd ⟨rfl,?_⟩))
   refine JM.nil (by kernel_rfl) ?_
   cases hcn:closedB (L++[nextC L ev o]) with
   | false =>
    rw [Xy1 (fun h=>by rw [Xbk h] at hcn; cases hcn)]
    refine wz8 ?_
    refine Wf (OpV.build [.int .i64 0, .int .i64 0, .int .i64 0, .slice none 0 0, .int .i64 0, .string .empty, .string .empty, .int .i64 0] (by kernel_rfl)) rfl ?_
    refine wz9 ?_
    exact CT.done ⟨(none,0),fun b o h=>by cases h⟩ rfl (fun w ho=>(ho.ent:Hold _ _ [] w).add Xan)
   | true =>
    rw [Xo5 hc hm (Xbj.1 hcn)]
    refine wA ?_
    exact CT.done ⟨(af,kf),hnew⟩ rfl (fun w ho=>(ho.ent:Hold _ _ [.st (sl af kf (frontF L))] w))
theorem Ya2 (w:World) (G F:Nat→Prop) (a:Option Addr) (k:Nat) (L:List Commit) (ev:Ev_) (o:Op_) (h:(sl a k L).holds G w) (hl:L.length≤900) (hf:∀ x∈L,fine x) (hot:o.key.size < 4611686018427387904∧o.elem.size < 4611686018427387904) :
  Gives prog 13 [.slice a L.length k, .agg ⟨[.int .i64 ev.node, .int .i64 ev.seq]⟩,opV o] w F (fun y:Option Addr × Nat=>.tuple ⟨[Xap (nextF L ev o).1 y.1 y.2, .bool (nextF L ev o).2]⟩) (fun y=>[.st (sl y.1 y.2 (nextF L ev o).1.parents)]) :=
 (Ya1 w G a k L ev o h hl hf hot).slNew (v:=fun y:Option Addr × Nat=>.tuple ⟨[Xap (nextF L ev o).1 y.1 y.2, .bool (nextF L ev o).2]⟩)
end
section
attribute [local irreducible] Xas
noncomputable def sumU (n:Nd) (o:Op_):Int:=IntKind.i64.wrap (Xf8 (evalF n.l).1.c o.key+o.n)
noncomputable def nextU (n:Nd) (o:Op_):Commit × Bool:=nextF n.l ⟨n.no,IntKind.i64.wrap (n.seq+1)⟩ o
noncomputable def updN (n:Nd) (o:Op_):Nd × Int :=
 if (evalF n.l).2≠0 then (n,(evalF n.l).2) else
 if o.kind=0∧(sumU n o < -1073741824∨1073741824 < sumU n o) then (n,5) else
 if (nextU n o).2=false then (n,5) else
 if (storeT n.disk n.room (nextU n o).1).2≠0 then (n,(storeT n.disk n.room (nextU n o).1).2) else
 ({ Xho n (nextU n o).1 with seq:=IntKind.i64.wrap (n.seq+1) },0)
def Xpk (kind sum:Int):Prop:=kind=0∧(sum < -1073741824∨1073741824 < sum)
theorem X80 {n:Nd} {o:Op_} {s:State_} {er:Int} (hE:evalF n.l=(s,er)) (h:er≠0):updN n o=(n,er):=by
 unfold updN
 rw [if_pos (by rw [hE]; exact h),hE]
theorem X81 {n:Nd} {o:Op_} {s:State_} {er:Int} (hE:evalF n.l=(s,er)) (h:er=0) (h2:Xpk o.kind (IntKind.i64.wrap (Xf8 s.c o.key+o.n))):updN n o=(n,5):=by
 unfold updN
 rw [if_neg (by rw [hE]; simpa using h),if_pos (by unfold sumU; rw [hE]; exact h2)]
theorem X82 {n:Nd} {o:Op_} {s:State_} {er:Int} {c:Commit} (hE:evalF n.l=(s,er)) (h:er=0) (h2:¬ Xpk o.kind (IntKind.i64.wrap (Xf8 s.c o.key+o.n))) (h3:nextF n.l ⟨n.no,IntKind.i64.wrap (n.seq+1)⟩ o=(c,false)):updN n o=(n,5):=by
 unfold updN
 rw [if_neg (by rw [hE]; simpa using h),if_neg (by unfold sumU; rw [hE]; exact h2),if_pos (by unfold nextU; rw [h3])]
theorem X83 {n:Nd} {o:Op_} {s:State_} {er:Int} {c:Commit} (hE:evalF n.l=(s,er)) (h:er=0) (h2:¬ Xpk o.kind (IntKind.i64.wrap (Xf8 s.c o.key+o.n))) (h3:nextF n.l ⟨n.no,IntKind.i64.wrap (n.seq+1)⟩ o=(c,true)) (h4:(storeT n.disk n.room c).2≠0):updN n o=(n,(storeT n.disk n.room c).2):=by
 unfold updN
 rw [if_neg (by rw [hE]; simpa using h),if_neg (by unfold sumU; rw [hE]; exact h2),if_neg (by unfold nextU; rw [h3]; simp),if_pos (by unfold nextU; rw [h3]; exact h4)]
 unfold nextU; rw [h3]
theorem X49 {n:Nd} {o:Op_} {s:State_} {er:Int} {c:Commit} (hE:evalF n.l=(s,er)) (h:er=0) (h2:¬ Xpk o.kind (IntKind.i64.wrap (Xf8 s.c o.key+o.n))) (h3:nextF n.l ⟨n.no,IntKind.i64.wrap (n.seq+1)⟩ o=(c,true)) (h4:(storeT n.disk n.room c).2=0):updN n o=(⟨n.no,(storeT n.disk n.room c).1,n.room,n.l++[c],n.wait,IntKind.i64.wrap (n.seq+1),n.up,n.peers,n.next,n.miss⟩,0):=by
 unfold updN
 rw [if_neg (by rw [hE]; simpa using h),if_neg (by unfold sumU; rw [hE]; exact h2),if_neg (by unfold nextU; rw [h3]; simp),if_neg (by unfold nextU; rw [h3]; simpa using h4)]
 have e:nextU n o=(c,true):=h3
 rw [e]
 unfold Xho
 rw [if_pos h4]
theorem Xx4 {w0 w:World} {F:Nat→Prop} {Γ:List Fact} {br:Nat} (n:Nd) (y:Na) (o:Op_) (hl:n.l.length≤10) (hfl:∀ x∈n.l,fine x) (hot:o.key.size < 4611686018427387904∧o.elem.size < 4611686018427387904) (hdk:n.disk.length≤1048576)
  (ho:Hold w0 F (repF br n y++Γ) w) :
  Calls prog 88 ⟨[.pointer (some ⟨br,0,none⟩), .agg ⟨[.int .i64 o.kind, .string o.key, .string o.elem, .int .i64 o.n]⟩]⟩ w fun x w'=>∃ y':Na,x = .returned (.int .i64 (updN n o).2)∧Hold w0 F (repF br (updN n o).1 y'++Γ) w':=by
 refine Xa4 (v:=fun y:Na=>.int .i64 (updN n o).2) (B:=fun y'=>repF br (updN n o).1 y'++Γ) func88 rfl ntmps88 rfl rfl _ ho ?_
 clear ho
 obtain ⟨⟨s,er⟩,hE⟩:∃ E,E=evalF n.l:=⟨_,rfl⟩
 have hE:=hE.symm
 rcases n with ⟨no,disk,room,l,wait,seq,up,peers,next,miss⟩
 rcases y with ⟨ad,kd,al,kl,aw,kw,ap,kp⟩
 obtain ⟨kind,key,elem,m⟩:=o
 dsimp only [repF,ndC,List.cons_append,List.nil_append] at *
 have hev:=fun (w1:World) (G:Nat→Prop) (h:(sl al kl l).holds G w1)=>Xvg w1 G al kl l h (by omega) hfl
 rw [hE] at hev
 dsimp only at hev
 refine Wb ?_
 refine Wc ?_
 repeat (first|refine Wd ?_|refine We rfl ?_|refine Wf (by first|exact Va|exact Vb|exact Vc|exact Vd|exact Ve|exact Vf|exact Vg|exact Vh|exact Vi|exact Vj|exact Vk (by omega)|exact Vl|exact Vm|exact Vn|exact Vo|exact Vp|exact Vq|exact Vr|exact Vs (by omega)|exact Vt (by omega)|exact Vu (by omega)|exact Vv (by omega)|exact Vw|exact Vx|exact Vy|exact Vz|exact VA|exact VB|exact VC|exact VD|exact VE|exact VF) rfl ?_|(refine Wg rfl ?_; intro _)|(refine Wh rfl ?_; intro _)|refine Wi ?_|refine Wv rfl rfl ?_)
 refine Wa ?_
 rename_i bo
 refine X7z (fun w2 hb=>?_)
 refine JCL.seq hb ?_
 refine wz14 ?_
 refine Wf OpV.nilCheck rfl ?_
 refine wz6 ?_
 refine JR.call (v:=fun y:Sa=>.tuple ⟨[.agg ⟨stC s y⟩, .int .i64 er]⟩) rfl (fun w1 hw=>hev w1 _ hw.get) ?_
 rintro ⟨⟨ac,kc⟩,⟨ar,kr⟩,⟨ap2,kp2⟩⟩
 dsimp only [stC,stF,List.cons_append,List.nil_append]
 (repeat (refine wE ?_; intro _)); refine wA ?_
 rename_i bs
 refine JCL.seq hb ?_
 refine wA ?_
 refine JC.test (fun h1=>?_) (fun h1=>?_)
 ·rw [X80 (n:=⟨no,disk,room,l,wait,seq,up,peers,next,miss⟩) hE h1]
  dsimp only
  refine wz9 ?_
  exact Xac ⟨ad,kd,al,kl,aw,kw,ap,kp⟩ rfl
 have her:er=0:=Decidable.not_not.1 h1
 refine wz14 ?_
 refine JCL.seq hb ?_
 refine wz14 ?_
 refine JC.drawP mixed ?_
 refine Xab 0 ?_
 refine JP.tv 1 [.own bs 38 [.slice ac s.c.length kc, .slice ar s.r.length kr, .slice ap2 s.p.length kp2]] ?_
 refine Xab 2 ?_
 refine JP.tv 3 [.st (ro bo 0 [.int .i64 kind, .string key, .string elem, .int .i64 m])] ?_
 refine Xab 5 ?_
 refine JP.tv 6 [.st (ro bo 0 [.int .i64 kind, .string key, .string elem, .int .i64 m])] ?_
 refine Xai 4 rfl rfl (JR.callV rfl (fun w1 hw=>X48 w1 _ ac kc s.c key hw.get) (Wd (nO ?_)))
 refine JP.pure 7 rfl (by kernel_rfl) rfl (fun _=>Xcs) rfl rfl ?_
 refine Xab 8 ?_
 refine JP.nil (by kernel_rfl) ?_
 have hU2:=fun h2=>X81 (n:=⟨no,disk,room,l,wait,seq,up,peers,next,miss⟩) (o:=⟨kind,key,elem,m⟩) hE her h2
 have hU3:=fun c h2 h3=>X82 (n:=⟨no,disk,room,l,wait,seq,up,peers,next,miss⟩) (o:=⟨kind,key,elem,m⟩) (c:=c) hE her h2 h3
 have hU4:=fun c h2 h3 h4=>X83 (n:=⟨no,disk,room,l,wait,seq,up,peers,next,miss⟩) (o:=⟨kind,key,elem,m⟩) (c:=c) hE her h2 h3 h4
 have hU5:=fun c h2 h3 h4=>X49 (n:=⟨no,disk,room,l,wait,seq,up,peers,next,miss⟩) (o:=⟨kind,key,elem,m⟩) (c:=c) hE her h2 h3 h4
 dsimp only at hU2 hU3 hU4 hU5
 generalize IntKind.i64.wrap (Xf8 s.c key+m)=sm at hU2 hU3 hU4 hU5
 refine Wa ?_
 refine Wb ?_
 refine Xdz (fun y:{ b:Bool // b=true↔Xpk kind sm }=>[(0, .pointer (some ⟨br,0,none⟩)),(3, .pointer (some ⟨bo,0,none⟩)),(42, .bool y.1)]) (fun _=>[]) ?_ ?_
 ·by_cases h3:kind=0
  ·by_cases h4:sm < -1073741824
   ·refine wz11 ?_
    refine JO.reslot 35 (.bool true) (by congr 1; exact decide_eq_true h3) ?_
    refine wz11 ?_
    refine JO.reslot 38 (.bool true) (by congr 1; exact decide_eq_true h4) ?_
    refine wz8 ?_
    exact ⟨rfl,⟨true,by simp [Xpk,h3,h4]⟩,iI⟩
   ·refine wz11 ?_
    refine JO.reslot 35 (.bool true) (by congr 1; exact decide_eq_true h3) ?_
    refine wz11 ?_
    refine JO.reslot 38 (.bool false) (by congr 1; exact decide_eq_false h4) ?_
    refine wX ?_
    exact ⟨rfl,⟨decide (1073741824 < sm),by simp [Xpk,h3,h4]⟩,iI⟩
  ·refine wz11 ?_
   refine JO.reslot 35 (.bool false) (by congr 1; exact decide_eq_false h3) ?_
   refine wX ?_
   exact ⟨rfl,⟨false,by simp [Xpk,h3]⟩,iI⟩
 rintro ⟨b,hov⟩
 dsimp only
 cases b with
 | true =>
  rw [hU2 (hov.1 rfl)]
  dsimp only
  refine wz8 ?_
  exact Xac ⟨ad,kd,al,kl,aw,kw,ap,kp⟩ rfl
 | false =>
 have hno:¬ Xpk kind sm:=fun h=>by have:=hov.2 h; cases this
 refine wz7 ?_
 refine JCL.back hb ?_
 have hnx:=fun (w1:World) (G:Nat→Prop) (h:(sl al kl l).holds (fun _=>True) w1)=>Ya2 w1 (fun _=>True) G al kl l ⟨no,IntKind.i64.wrap (seq+1)⟩ ⟨kind,key,elem,m⟩ h (by omega) hfl hot
 have hU3:=fun c=>hU3 c hno
 have hU4:=fun c=>hU4 c hno
 have hU5:=fun c=>hU5 c hno
 have hctx:∀ c,nextF l ⟨no,IntKind.i64.wrap (seq+1)⟩ ⟨kind,key,elem,m⟩=(c,true)→Xmq c:=fun c h=>by
  obtain ⟨h1,_⟩:=Xsr h
  rw [h1]; exact hot
 generalize nextF l ⟨no,IntKind.i64.wrap (seq+1)⟩ ⟨kind,key,elem,m⟩=N at hnx hU3 hU4 hU5 hctx
 obtain ⟨c,fl⟩:=N
 dsimp only at hnx
 refine Wb ?_
 refine Xdz (fun y:Nat × Option Addr × Nat=>[(0, .pointer (some ⟨br,0,none⟩)),(8, .pointer (some ⟨y.1,0,none⟩)),(9, .bool fl)]) (fun y=>.own y.1 31 [.int .i64 c.ev.node, .int .i64 c.ev.seq, .int .i64 c.gen, .slice y.2.1 c.parents.length y.2.2, .int .i64 c.op.kind, .string c.op.key, .string c.op.elem, .int .i64 c.op.n]::.st (sl y.2.1 y.2.2 c.parents)::.own br 119 [.int .i64 no, .slice ad disk.length kd, .int .i64 room, .slice al l.length kl, .slice aw wait.length kw, .int .i64 seq, .bool up, .slice ap peers.length kp, .int .i64 next, .int .i64 miss]::.res (buf al kl 31 l)::.st (sl ad kd disk)::.st (sl aw kw wait)::.st (sl ap kp peers)::Γ) ?_ ?_
 ·skip
  refine JC.drawP mixed ?_
  refine Xab 0 ?_
  refine Xab 1 ?_
  refine Xab 2 ?_
  refine Xab 3 ?_
  refine Xab 4 ?_
  refine JP.tv 5 [.own br 119 [.int .i64 no, .slice ad disk.length kd, .int .i64 room, .slice al l.length kl, .slice aw wait.length kw, .int .i64 seq, .bool up, .slice ap peers.length kp, .int .i64 next, .int .i64 miss]] ?_
  refine Xab 6 ?_
  refine Xab 7 ?_
  refine Xab 8 ?_
  refine Xab 9 ?_
  refine Xab 10 ?_
  refine JP.tv 11 [.own br 119 [.int .i64 no, .slice ad disk.length kd, .int .i64 room, .slice al l.length kl, .slice aw wait.length kw, .int .i64 seq, .bool up, .slice ap peers.length kp, .int .i64 next, .int .i64 miss]] ?_
  refine Xab 12 ?_
  refine Xab 13 ?_
  refine Xab 14 ?_
  refine Xab 15 ?_
  refine Xab 16 ?_
  refine JP.tv 17 [.own br 119 [.int .i64 no, .slice ad disk.length kd, .int .i64 room, .slice al l.length kl, .slice aw wait.length kw, .int .i64 seq, .bool up, .slice ap peers.length kp, .int .i64 next, .int .i64 miss]] ?_
  refine JP.pure 18 rfl (by kernel_rfl) rfl (fun _=>Xcs) rfl rfl ?_
  refine JP.pure 19 rfl (by kernel_rfl) rfl (fun _=>OpV.build [.int .i64 no, .int .i64 (IntKind.i64.wrap (seq+1))] (by kernel_rfl)) rfl rfl ?_
  refine JP.tv 20 [.own bo 26 [.int .i64 kind, .string key, .string elem, .int .i64 m]] ?_
  refine JP.both 21 25 (by kernel_rfl) rfl rfl rfl rfl (JR.call (v:=fun y:Option Addr × Nat=>.tuple ⟨[Xap c y.1 y.2, .bool fl]⟩) rfl (fun w1 hw=>hnx w1 _ (Hold.bufSlOf (a:=al) (c:=kl) (L:=l) hw)) (fun y=>Wd (nO ?_))) (Wg rfl (fun bc=>Wd (nO ?_)))
  ·obtain ⟨pn,qn⟩:=y
   dsimp only [List.cons_append,List.nil_append]
   refine Xab 22 ?_
   refine Xab 23 ?_
   refine Xab 24 ?_
   refine Xai 25 rfl rfl (Wg rfl (fun bc=>Wd (nO ?_)))
   refine JP.reslot 8 (.pointer (some ⟨bc,0,none⟩)) rfl ?_
   refine Xai 26 rfl rfl (Wi (Wd (nO ?_)))
   refine Xab 27 ?_
   refine JP.nil (by kernel_rfl) ?_
   exact ⟨rfl,(bc,pn,qn),iI⟩
  ·refine Xai 21 rfl rfl (JR.call (v:=fun y:Option Addr × Nat=>.tuple ⟨[Xap c y.1 y.2, .bool fl]⟩) rfl (fun w1 hw=>hnx w1 _ (Hold.bufSlOf (a:=al) (c:=kl) (L:=l) hw)) (fun y=>Wd (nO ?_)))
   obtain ⟨pn,qn⟩:=y
   dsimp only [List.cons_append,List.nil_append]
   refine Xab 22 ?_
   refine Xab 23 ?_
   refine Xab 24 ?_
   refine JP.reslot 8 (.pointer (some ⟨bc,0,none⟩)) rfl ?_
   refine Xai 26 rfl rfl (Wi (Wd (nO ?_)))
   refine Xab 27 ?_
   refine JP.nil (by kernel_rfl) ?_
   exact ⟨rfl,(bc,pn,qn),iI⟩
 rintro ⟨bc,pn,qn⟩
 dsimp only
 cases fl with
 | false =>
  rw [hU3 c rfl]
  dsimp only
  refine wz8 ?_
  exact Xac ⟨ad,kd,al,kl,aw,kw,ap,kp⟩ rfl
 | true =>
 have hct:=hctx c rfl
 refine wz7 ?_
 refine JC.drawP mixed ?_
 refine Xab 0 ?_
 refine Xab 1 ?_
 refine Xab 2 ?_
 refine JP.tv 3 [.own bc 31 [.int .i64 c.ev.node, .int .i64 c.ev.seq, .int .i64 c.gen, .slice pn c.parents.length qn, .int .i64 c.op.kind, .string c.op.key, .string c.op.elem, .int .i64 c.op.n]] ?_
 refine JP.reslot 72 (.pointer (some ⟨br,0,none⟩)) rfl ?_
 refine JP.more (Γ':=.own br 119 [.int .i64 no, .slice ad disk.length kd, .int .i64 room, .slice al l.length kl, .slice aw wait.length kw, .int .i64 seq, .bool up, .slice ap peers.length kp, .int .i64 next, .int .i64 miss]::.res (buf al kl 31 l)::.st (sl ad kd disk)::.st (sl aw kw wait)::.st (sl ap kp peers)::.st (sl pn qn c.parents)::Γ) (fun w1 ho=>ho.ent) ?_
 refine Xai 4 rfl rfl (Xal (v:=fun y:Na=>.int .i64 (storeT disk room c).2) (B:=fun y'=>repF br (Xho ⟨no,disk,room,l,wait,seq,up,peers,next,miss⟩ c) y'++Γ) rfl (fun w1 hw=>Xy7 ⟨no,disk,room,l,wait,seq,up,peers,next,miss⟩ ⟨ad,kd,al,kl,aw,kw,ap,kp⟩ c pn qn hct hdk (by show l.length < _; omega) hw) (fun y2=>Wd (nO ?_)))
 obtain ⟨ad2,kd2,al2,kl2,aw2,kw2,ap3,kp3⟩:=y2
 refine Xab 5 ?_
 refine JP.nil (by kernel_rfl) ?_
 refine wX ?_
 refine JC.test (fun h6=>?_) (fun h6=>?_)
 ·rw [hU4 c rfl h6,show Xho ⟨no,disk,room,l,wait,seq,up,peers,next,miss⟩ c=⟨no,disk,room,l,wait,seq,up,peers,next,miss⟩ from if_neg h6]
  dsimp only [repF,ndC,List.cons_append,List.nil_append]
  refine wz9 ?_
  exact CT.done ⟨ad2,kd2,al2,kl2,aw2,kw2,ap3,kp3⟩ rfl (fun w ho=>ho)
 ·have h7:(storeT disk room c).2=0:=Decidable.not_not.1 h6
  rw [hU5 c rfl h7,show Xho ⟨no,disk,room,l,wait,seq,up,peers,next,miss⟩ c=⟨no,(storeT disk room c).1,room,l++[c],wait,seq,up,peers,next,miss⟩ from if_pos h7]
  dsimp only [repF,ndC,List.cons_append,List.nil_append]
  refine wz14 ?_
  refine Wf OpV.nilCheck rfl ?_
  refine wz6 ?_
  refine Wf Xcs rfl ?_
  refine wz13 ?_
  refine Wf OpV.nilCheck rfl ?_
  refine wz9 ?_
  exact CT.done ⟨ad2,kd2,al2,kl2,aw2,kw2,ap3,kp3⟩ rfl (fun w ho=>ho)
noncomputable def updT (n:Nd) (o:Op_):Nd × Int :=
 if (!Xbb n || !Xc0 o)=true then (nd0,1) else if n.up=false then (nd0,6) else if (updN n o).2≠0 then (nd0,(updN n o).2) else ((updN n o).1,0)
noncomputable def stateT (n:Nd):State_ × Int:=if Xbb n=false then (st0,1) else if n.up=false then (st0,6) else evalF n.l
theorem X1n {w0 w:World} {F:Nat→Prop} (h:Hold w0 F [] w):Hold w0 F (ndB nd0 na0) w :=
 (((h.add (A:=sl (α:=Int) none 0 []) Xan).add (A:=sl (α:=Commit) none 0 []) Xan).add (A:=sl (α:=Commit) none 0 []) Xan).add (A:=sl (α:=UInt8) none 0 []) Xan
theorem Xd5 (n:Nd) (y:Na) (o:Op_) (h1:(sl y.d y.dk n.disk).holds F w) (h2:(sl y.l y.lk n.l).holds F w) (h3:(sl y.w y.wk n.wait).holds F w) (h4:(sl y.p y.pk n.peers).holds F w) (hn:NdFew n) (hl:n.l.length≤10) (hot:o.key.size < 4611686018427387904∧o.elem.size < 4611686018427387904) :
  Gives prog 28 [ndV n y, .agg ⟨[.int .i64 o.kind, .string o.key, .string o.elem, .int .i64 o.n]⟩] w F (fun z:Na=>.tuple ⟨[ndV (updT n o).1 z, .int .i64 (updT n o).2]⟩) (fun z=>ndB (updT n o).1 z):=by
 have hup:=fun (w0 w:World) (F:Nat→Prop) (Γ:List Fact) (br:Nat) (y:Na)=>@Xx4 w0 w F Γ br n y o hl hn.fl hot hn.disk
 have hof:=fun (w:World) (F:Nat→Prop) (y:Na) (h1:(sl y.d y.dk n.disk).holds F w) (h2:(sl y.l y.lk n.l).holds F w) (h3:(sl y.w y.wk n.wait).holds F w) (h4:(sl y.p y.pk n.peers).holds F w)=>Xks w F n y h1 h2 h3 h4 hn
 have hfw:=hn.fw
 have eT1:Xbb n=false→updT n o=(nd0,1):=fun h=>by unfold updT; rw [h]; rfl
 have eT2:Xc0 o=false→updT n o=(nd0,1):=fun h=>by unfold updT; rw [h]; simp
 have eT3:Xbb n=true→Xc0 o=true→n.up=false→updT n o=(nd0,6):=fun a b c=>by unfold updT; rw [a,b,if_neg (by simp),if_pos c]
 have eT4:Xbb n=true→Xc0 o=true→n.up=true→(updN n o).2≠0→updT n o=(nd0,(updN n o).2):=fun a b c d=>by unfold updT; rw [a,b,if_neg (by simp),if_neg (by simp [c]),if_pos d]
 have eT5:Xbb n=true→Xc0 o=true→n.up=true→(updN n o).2=0→updT n o=((updN n o).1,0):=fun a b c d=>by unfold updT; rw [a,b,if_neg (by simp),if_neg (by simp [c]),if_neg (by simp [d])]
 generalize updN n o=U at hup eT4 eT5
 generalize updT n o=T at eT1 eT2 eT3 eT4 eT5
 rcases n with ⟨no,disk,room,l,wait,seq,up,peers,next,miss⟩
 rcases y with ⟨ad,kd,al,kl,aw,kw,ap,kp⟩
 obtain ⟨kind,key,elem,m⟩:=o
 obtain ⟨⟨no2,disk2,room2,l2,wait2,seq2,up2,peers2,next2,miss2⟩,er⟩:=U
 dsimp only [ndV,ndC] at *
 refine Xaa func28 rfl ntmps28 rfl rfl [.st (sl ad kd disk), .st (sl al kl l), .st (sl aw kw wait), .st (sl ap kp peers)] (.start4 h1 h2 h3 h4) ?_
 (repeat (refine wE ?_; intro _)); refine wA ?_
 rename_i bn bo br
 refine JR.callV rfl (fun w1 hw=>Xb0 w1 _ ⟨no,disk,room,l,wait,seq,up,peers,next,miss⟩ ⟨ad,kd,al,kl,aw,kw,ap,kp⟩ hw.get hw.get hw.get hfw) ?_
 cases m1:Xbb ⟨no,disk,room,l,wait,seq,up,peers,next,miss⟩ with
 | false =>
  rw [eT1 m1]
  refine wz8 ?_
  refine Wf (OpV.build [.int .i64 0, .slice none 0 0, .int .i64 0, .slice none 0 0, .slice none 0 0, .int .i64 0, .bool false, .slice none 0 0, .int .i64 0, .int .i64 0] (by kernel_rfl)) rfl ?_
  refine wX ?_
  exact CT.done na0 rfl (fun w ho=>X1n ho.ent)
 | true =>
 refine wz1 ?_
 refine JR.callV rfl (fun w1 hw=>Xoj w1 _ ⟨kind,key,elem,m⟩ hot.1 hot.2) ?_
 cases m2:Xc0 ⟨kind,key,elem,m⟩ with
 | false =>
  rw [eT2 m2]
  refine wz8 ?_
  refine Wf (OpV.build [.int .i64 0, .slice none 0 0, .int .i64 0, .slice none 0 0, .slice none 0 0, .int .i64 0, .bool false, .slice none 0 0, .int .i64 0, .int .i64 0] (by kernel_rfl)) rfl ?_
  refine wX ?_
  exact CT.done na0 rfl (fun w ho=>X1n ho.ent)
 | true =>
 cases up with
 | false =>
  rw [eT3 m1 m2 rfl]
  refine wX ?_
  refine Wf (OpV.build [.int .i64 0, .slice none 0 0, .int .i64 0, .slice none 0 0, .slice none 0 0, .int .i64 0, .bool false, .slice none 0 0, .int .i64 0, .int .i64 0] (by kernel_rfl)) rfl ?_
  refine wX ?_
  exact CT.done na0 rfl (fun w ho=>X1n ho.ent)
 | true =>
 refine wX ?_
 refine JR.call (v:=fun z:Nat × Na=>.pointer (some ⟨z.1,0,none⟩)) rfl (fun w1 hw=>hof w1 _ ⟨ad,kd,al,kl,aw,kw,ap,kp⟩ hw.get hw.get hw.get hw.get) ?_
 rintro ⟨bq,⟨ad2,kd2,al2,kl2,aw2,kw2,ap2,kp2⟩⟩
 dsimp only [repF,ndC,List.cons_append,List.nil_append]
 refine wz9 ?_
 refine JR.more (Γ':=.own bq 119 [.int .i64 no, .slice ad2 disk.length kd2, .int .i64 room, .slice al2 l.length kl2, .slice aw2 wait.length kw2, .int .i64 seq, .bool true, .slice ap2 peers.length kp2, .int .i64 next, .int .i64 miss]::.res (buf al2 kl2 31 l)::.st (sl ad2 kd2 disk)::.st (sl aw2 kw2 wait)::.st (sl ap2 kp2 peers)::.own br 50 [.int .i64 0, .slice none 0 0, .int .i64 0, .slice none 0 0, .slice none 0 0, .int .i64 0, .bool false, .slice none 0 0, .int .i64 0, .int .i64 0]::[]) (fun w1 ho=>ho.ent) ?_
 refine Xal (v:=fun y:Na=>.int .i64 er) (B:=fun z=>.own bq 119 [.int .i64 no2, .slice z.d disk2.length z.dk, .int .i64 room2, .slice z.l l2.length z.lk, .slice z.w wait2.length z.wk, .int .i64 seq2, .bool up2, .slice z.p peers2.length z.pk, .int .i64 next2, .int .i64 miss2]::.res (buf z.l z.lk 31 l2)::.st (sl z.d z.dk disk2)::.st (sl z.w z.wk wait2)::.st (sl z.p z.pk peers2)::.own br 50 [.int .i64 0, .slice none 0 0, .int .i64 0, .slice none 0 0, .slice none 0 0, .int .i64 0, .bool false, .slice none 0 0, .int .i64 0, .int .i64 0]::[]) rfl (fun w1 hw=>hup _ _ _ (.own br 50 [.int .i64 0, .slice none 0 0, .int .i64 0, .slice none 0 0, .slice none 0 0, .int .i64 0, .bool false, .slice none 0 0, .int .i64 0, .int .i64 0]::[]) bq ⟨ad2,kd2,al2,kl2,aw2,kw2,ap2,kp2⟩ hw) ?_
 rintro ⟨ad3,kd3,al3,kl3,aw3,kw3,ap3,kp3⟩
 dsimp only
 refine wX ?_
 refine JC.test (fun h5=>?_) (fun h5=>?_)
 ·rw [eT4 m1 m2 rfl h5]
  refine wz14 ?_
  refine Wf (OpV.build [.int .i64 0, .slice none 0 0, .int .i64 0, .slice none 0 0, .slice none 0 0, .int .i64 0, .bool false, .slice none 0 0, .int .i64 0, .int .i64 0] (by kernel_rfl)) rfl ?_
  refine wz9 ?_
  exact CT.done na0 rfl (fun w ho=>X1n ho.ent)
 ·rw [eT5 m1 m2 rfl (Decidable.not_not.1 h5)]
  refine JC.more (Γ':=.res (buf al3 kl3 31 l2)::.own bq 119 [.int .i64 no2, .slice ad3 disk2.length kd3, .int .i64 room2, .slice al3 l2.length kl3, .slice aw3 wait2.length kw3, .int .i64 seq2, .bool up2, .slice ap3 peers2.length kp3, .int .i64 next2, .int .i64 miss2]::.st (sl ad3 kd3 disk2)::.st (sl aw3 kw3 wait2)::.st (sl ap3 kp3 peers2)::.own br 50 [.int .i64 0, .slice none 0 0, .int .i64 0, .slice none 0 0, .slice none 0 0, .int .i64 0, .bool false, .slice none 0 0, .int .i64 0, .int .i64 0]::[]) (fun w1 ho=>ho.ent) ?_
  refine JC.more (fun w1 ho=>ho.pub) ?_
  refine wz14 ?_
  refine Wf OpV.nilCheck rfl ?_
  refine wz9 ?_
  exact Xac ⟨ad3,kd3,al3,kl3,aw3,kw3,ap3,kp3⟩ rfl
theorem Xme (n:Nd) (y:Na) (h1:(sl y.d y.dk n.disk).holds F w) (h2:(sl y.l y.lk n.l).holds F w) (h3:(sl y.w y.wk n.wait).holds F w) (hfl:∀ x∈n.l,fine x) (hfw:∀ x∈n.wait,fine x) (hl:n.l.length≤11) :
  Gives prog 30 [ndV n y] w F (fun z:Sa=>.tuple ⟨[.agg ⟨stC (stateT n).1 z⟩, .int .i64 (stateT n).2]⟩) (fun z=>stF (stateT n).1 z):=by
 have hev:=fun (w1:World) (G:Nat→Prop) (h:(sl y.l y.lk n.l).holds G w1)=>Xvg w1 G y.l y.lk n.l h hl hfl
 have eT1:Xbb n=false→stateT n=(st0,1):=fun h=>by unfold stateT; rw [if_pos h]
 have eT2:Xbb n=true→n.up=false→stateT n=(st0,6):=fun h g=>by unfold stateT; rw [if_neg (by simp [h]),if_pos g]
 have eT3:Xbb n=true→n.up=true→stateT n=evalF n.l:=fun h g=>by unfold stateT; rw [if_neg (by simp [h]),if_neg (by simp [g])]
 generalize stateT n=T at eT1 eT2 eT3
 generalize evalF n.l=E at hev eT3
 obtain ⟨s,er⟩:=E
 rcases n with ⟨no,disk,room,l,wait,seq,up,peers,next,miss⟩
 rcases y with ⟨ad,kd,al,kl,aw,kw,ap,kp⟩
 dsimp only [ndV,ndC] at *
 refine Xaa func30 rfl ntmps30 rfl rfl [.st (sl ad kd disk), .st (sl al kl l), .st (sl aw kw wait)] (.start3 h1 h2 h3) ?_
 (repeat (refine wE ?_; intro _)); refine wA ?_
 rename_i bn br
 refine JR.callV rfl (fun w1 hw=>Xb0 w1 _ ⟨no,disk,room,l,wait,seq,up,peers,next,miss⟩ ⟨ad,kd,al,kl,aw,kw,ap,kp⟩ hw.get hw.get hw.get hfw) ?_
 cases m1:Xbb ⟨no,disk,room,l,wait,seq,up,peers,next,miss⟩ with
 | false =>
  rw [eT1 m1]
  refine wz8 ?_
  refine Wf (OpV.build [.slice none 0 0, .slice none 0 0, .slice none 0 0] (by kernel_rfl)) rfl ?_
  refine wX ?_
  refine CT.done ((none,0),(none,0),(none,0)) rfl (fun w ho=>?_)
  have h9:=((ho.add (A:=sl (α:=Pair_) none 0 []) Xan).add (A:=sl (α:=Reg_) none 0 []) Xan).add (A:=sl (α:=Ctr_) none 0 []) Xan
  exact (show Hold _ _ [.st (sl (α:=Ctr_) none 0 []), .st (sl (α:=Reg_) none 0 []), .st (sl (α:=Pair_) none 0 [])] w from h9.ent)
 | true =>
 cases up with
 | false =>
  rw [eT2 m1 rfl]
  refine wX ?_
  refine Wf (OpV.build [.slice none 0 0, .slice none 0 0, .slice none 0 0] (by kernel_rfl)) rfl ?_
  refine wX ?_
  refine CT.done ((none,0),(none,0),(none,0)) rfl (fun w ho=>?_)
  have h9:=((ho.add (A:=sl (α:=Pair_) none 0 []) Xan).add (A:=sl (α:=Reg_) none 0 []) Xan).add (A:=sl (α:=Ctr_) none 0 []) Xan
  exact (show Hold _ _ [.st (sl (α:=Ctr_) none 0 []), .st (sl (α:=Reg_) none 0 []), .st (sl (α:=Pair_) none 0 [])] w from h9.ent)
 | true =>
 rw [eT3 m1 rfl]
 refine wX ?_
 refine JR.call (v:=fun y:Sa=>.tuple ⟨[.agg ⟨stC s y⟩, .int .i64 er]⟩) rfl (fun w1 hw=>hev w1 _ hw.get) ?_
 rintro ⟨⟨ac,kc⟩,⟨ar,kr⟩,⟨ap2,kp2⟩⟩
 dsimp only [stC,stF,List.cons_append,List.nil_append]
 refine wX ?_
 exact Xac ((ac,kc),(ar,kr),(ap2,kp2)) rfl
noncomputable def openL (b:List UInt8):List UInt8:=b.take (Xau b)
noncomputable def openT (n:Nd):Nd × Int :=
 if Xbb n=false then (nd0,1) else if n.up=true then (nd0,7) else
 (⟨n.no,openL n.disk,n.room,Xa3 (openL n.disk),n.wait,Xfb (Xa3 (openL n.disk)) n.no,true,n.peers,n.next,n.miss⟩,0)
theorem Xhp (n:Nd) (y:Na) (h1:(sl y.d y.dk n.disk).holds F w) (h2:(sl y.l y.lk n.l).holds F w) (h3:(sl y.w y.wk n.wait).holds F w) (h4:(sl y.p y.pk n.peers).holds F w) (hn:NdFew n) :
  Gives prog 26 [ndV n y] w F (fun z:Na=>.tuple ⟨[ndV (openT n).1 z, .int .i64 (openT n).2]⟩) (fun z=>ndB (openT n).1 z):=by
 have hof:=fun (w:World) (F:Nat→Prop) (y:Na) (h1:(sl y.d y.dk n.disk).holds F w) (h2:(sl y.l y.lk n.l).holds F w) (h3:(sl y.w y.wk n.wait).holds F w) (h4:(sl y.p y.pk n.peers).holds F w)=>Xks w F n y h1 h2 h3 h4 hn
 have hfw:=hn.fw
 have hdk:=hn.disk
 have eT1:Xbb n=false→openT n=(nd0,1):=fun h=>by unfold openT; rw [if_pos h]
 have eT2:Xbb n=true→n.up=true→openT n=(nd0,7):=fun h g=>by unfold openT; rw [if_neg (by simp [h]),if_pos g]
 have eT3:Xbb n=true→n.up=false→openT n=(⟨n.no,openL n.disk,n.room,Xa3 (openL n.disk),n.wait,Xfb (Xa3 (openL n.disk)) n.no,true,n.peers,n.next,n.miss⟩,0):=fun h g=>by unfold openT; rw [if_neg (by simp [h]),if_neg (by simp [g])]
 generalize openT n=T at eT1 eT2 eT3
 rcases n with ⟨no,disk,room,l,wait,seq,up,peers,next,miss⟩
 rcases y with ⟨ad,kd,al,kl,aw,kw,ap,kp⟩
 dsimp only [ndV,ndC] at *
 have hol:(openL disk).length≤1048576:=by unfold openL; rw [List.length_take]; omega
 refine Xaa func26 rfl ntmps26 rfl rfl [.st (sl ad kd disk), .st (sl al kl l), .st (sl aw kw wait), .st (sl ap kp peers)] (.start4 h1 h2 h3 h4) ?_
 (repeat (refine wE ?_; intro _)); refine wA ?_
 rename_i bn br
 refine JR.callV rfl (fun w1 hw=>Xb0 w1 _ ⟨no,disk,room,l,wait,seq,up,peers,next,miss⟩ ⟨ad,kd,al,kl,aw,kw,ap,kp⟩ hw.get hw.get hw.get hfw) ?_
 cases m1:Xbb ⟨no,disk,room,l,wait,seq,up,peers,next,miss⟩ with
 | false =>
  rw [eT1 m1]
  refine wz8 ?_
  refine Wf (OpV.build [.int .i64 0, .slice none 0 0, .int .i64 0, .slice none 0 0, .slice none 0 0, .int .i64 0, .bool false, .slice none 0 0, .int .i64 0, .int .i64 0] (by kernel_rfl)) rfl ?_
  refine wX ?_
  exact CT.done na0 rfl (fun w ho=>X1n ho.ent)
 | true =>
 cases up with
 | true =>
  rw [eT2 m1 rfl]
  refine wX ?_
  refine Wf (OpV.build [.int .i64 0, .slice none 0 0, .int .i64 0, .slice none 0 0, .slice none 0 0, .int .i64 0, .bool false, .slice none 0 0, .int .i64 0, .int .i64 0] (by kernel_rfl)) rfl ?_
  refine wX ?_
  exact CT.done na0 rfl (fun w ho=>X1n ho.ent)
 | false =>
 rw [eT3 m1 rfl]
 dsimp only
 refine wX ?_
 refine JR.call (v:=fun z:Nat × Na=>.pointer (some ⟨z.1,0,none⟩)) rfl (fun w1 hw=>hof w1 _ ⟨ad,kd,al,kl,aw,kw,ap,kp⟩ hw.get hw.get hw.get hw.get) ?_
 rintro ⟨bq,⟨ad2,kd2,al2,kl2,aw2,kw2,ap2,kp2⟩⟩
 dsimp only [repF,ndC,List.cons_append,List.nil_append]
 refine wz9 ?_
 refine JR.callSl (L:=openL disk) rfl (fun w1 hw=>(X1g w1 _ ad kd disk hw.get hdk).sl) ?_
 intro a5 k5
 refine wz13 ?_
 refine Wf OpV.nilCheck rfl ?_
 refine wz9 ?_
 refine Wf OpV.nilCheck rfl ?_
 refine wz9 ?_
 refine Wf OpV.nilCheck rfl ?_
 refine wz6 ?_
 refine Xcy rfl (fun w1 hw=>Xlp w1 _ a5 k5 (openL disk) hw.get hol) ?_
 intro a6 k6
 refine wz4 ?_
 refine Wf OpV.nilCheck rfl ?_
 refine wz9 ?_
 refine JC.drawP mixed ?_
 refine Xab 0 ?_
 refine Xab 1 ?_
 refine Xab 2 ?_
 refine Xab 3 ?_
 refine Xab 4 ?_
 refine Xab 5 ?_
 refine JP.tv 6 [.own bq 119 [.int .i64 no, .slice a5 (openL disk).length k5, .int .i64 room, .slice a6 (Xa3 (openL disk)).length k6, .slice aw2 wait.length kw2, .int .i64 seq, .bool true, .slice ap2 peers.length kp2, .int .i64 next, .int .i64 miss]] ?_
 refine Xab 7 ?_
 refine Xab 8 ?_
 refine Xab 9 ?_
 refine Xab 10 ?_
 refine Xab 11 ?_
 refine JP.tv 12 [.own bq 119 [.int .i64 no, .slice a5 (openL disk).length k5, .int .i64 room, .slice a6 (Xa3 (openL disk)).length k6, .slice aw2 wait.length kw2, .int .i64 seq, .bool true, .slice ap2 peers.length kp2, .int .i64 next, .int .i64 miss]] ?_
 refine Xai 13 rfl rfl (JR.callV rfl (fun w1 hw=>Xq9 w1 _ a6 k6 (Xa3 (openL disk)) no hw.get) (Wd (nO ?_)))
 refine Xab 14 ?_
 refine Xab 15 ?_
 refine Xab 16 ?_
 refine Xab 17 ?_
 refine JP.reslot 61 (.pointer (some ⟨bq,5,none⟩)) rfl ?_
 refine Xai 18 rfl rfl (Wi (Wd (nO ?_)))
 refine JP.nil (by kernel_rfl) ?_
 refine wz14 ?_
 refine Wf OpV.nilCheck rfl ?_
 refine wz9 ?_
 exact Xac ⟨a5,k5,a6,k6,aw2,kw2,ap2,kp2⟩ rfl
theorem Xpl {w0 w:World} {F:Nat→Prop} {Γ:List Fact} {br:Nat} {no room seq next miss:Int} {up:Bool} {v1 v3 v4 v7:Value} (ho:Hold w0 F (.own br 119 [.int .i64 no,v1, .int .i64 room,v3,v4, .int .i64 seq, .bool up,v7, .int .i64 next, .int .i64 miss]::Γ) w) :
  Calls prog 87 ⟨[.pointer (some ⟨br,0,none⟩)]⟩ w fun x w'=>∃ _:Unit,x = .returned (.tuple ⟨[]⟩) ∧
   Hold w0 F (.own br 119 [.int .i64 no,v1, .int .i64 room, .slice none 0 0, .slice none 0 0, .int .i64 0, .bool false,v7, .int .i64 next, .int .i64 miss]::Γ) w':=by
 refine Xa4 (v:=fun _:Unit=>.tuple ⟨[]⟩) (B:=fun _=>.own br 119 [.int .i64 no,v1, .int .i64 room, .slice none 0 0, .slice none 0 0, .int .i64 0, .bool false,v7, .int .i64 next, .int .i64 miss]::Γ) func87 rfl ntmps87 rfl rfl _ ho ?_
 refine wz14 ?_
 refine Wf OpV.nilCheck rfl ?_
 refine wz9 ?_
 refine Wf OpV.nilCheck rfl ?_
 refine wz9 ?_
 refine Wf OpV.nilCheck rfl ?_
 refine wz9 ?_
 refine Wf OpV.nilCheck rfl ?_
 refine wz9 ?_
 exact Xd0 () rfl (fun w ho=>ho)
theorem Xs7 {n:Nd} {o:Op_} (h:(updN n o).2=0):∃ c,nextU n o=(c,true)∧(evalF n.l).2=0∧(storeT n.disk n.room c).2=0∧updN n o=(⟨n.no,(storeT n.disk n.room c).1,n.room,n.l++[c],n.wait,IntKind.i64.wrap (n.seq+1),n.up,n.peers,n.next,n.miss⟩,0):=by
 obtain ⟨⟨s,er⟩,hE⟩:∃ E,evalF n.l=E:=⟨_,rfl⟩
 obtain ⟨⟨c,fl⟩,hN⟩:∃ N,nextF n.l ⟨n.no,IntKind.i64.wrap (n.seq+1)⟩ o=N:=⟨_,rfl⟩
 by_cases h1:er=0
 ·by_cases h2:Xpk o.kind (IntKind.i64.wrap (Xf8 s.c o.key+o.n))
  ·rw [X81 hE h1 h2] at h; cases h
  ·cases fl with
   | false=>rw [X82 hE h1 h2 hN] at h; cases h
   | true =>
    by_cases h4:(storeT n.disk n.room c).2=0
    ·exact ⟨c,hN,by rw [hE]; exact h1,h4,X49 hE h1 h2 hN h4⟩
    ·rw [X83 hE h1 h2 hN h4] at h; exact absurd h h4
 ·rw [X80 hE h1] at h; exact absurd h h1
theorem Xs8 {n:Nd} {o:Op_} (h:(updT n o).2=0):Xbb n=true∧Xc0 o=true∧n.up=true∧(updN n o).2=0∧updT n o=((updN n o).1,0):=by
 cases m1:Xbb n with
 | false=>unfold updT at h; rw [m1] at h; cases h
 | true =>
  cases m2:Xc0 o with
  | false=>unfold updT at h; rw [m1,m2] at h; cases h
  | true =>
   cases m3:n.up with
   | false=>unfold updT at h; rw [m1,m2,m3] at h; cases h
   | true =>
    unfold updT at h ⊢
    rw [m1,m2,m3] at h ⊢
    simp only [Bool.not_true,Bool.or_self,Bool.false_eq_true,if_false] at h ⊢
    by_cases h4:(updN n o).2=0
    ·exact ⟨trivial,trivial,trivial,h4,if_neg (show ¬ ((updN n o).2≠0) from fun g=>g h4)⟩
    ·rw [if_pos h4] at h; exact absurd h h4
theorem X70 {n:Nd} {o:Op_} (h:(updT n o).2=0):n.disk.length≤(updT n o).1.disk.length:=by
 obtain ⟨_,_,_,h2,h3⟩:=Xs8 h
 obtain ⟨c,_,_,h4,h5⟩:=Xs7 h2
 rw [h3,h5]
 dsimp only
 rw [(Xfx h4).2.1,List.length_append]
 omega
theorem Xy8 {n:Nd} {o:Op_} (h:(updT n o).2=0):(updT n o).1.disk.length≤1048576:=by
 obtain ⟨hm,_,_,h2,h3⟩:=Xs8 h
 obtain ⟨c,_,_,h4,h5⟩:=Xs7 h2
 have h6:=(Xfx h4).1
 have h7:=(Xc2 hm).1
 rw [h3,h5]
 dsimp only
 omega
noncomputable def cutU (n:Nd) (o:Op_) (k:Int):List UInt8 :=
 if (updT n o).2=0∧0 < k then (updT n o).1.disk.take (n.disk.length+(min k (((updT n o).1.disk.length:Int) - n.disk.length)).toNat) else n.disk
noncomputable def crashT (n:Nd) (o:Op_) (k:Int):Nd:=if (!Xbb n || !n.up)=true then n else ⟨n.no,cutU n o k,n.room,[],[],0,false,n.peers,n.next,n.miss⟩
theorem Xlu {w0 w:World} {F:Nat→Prop} {a:Option Addr} {k:Nat} {L:List UInt8} {p:Option Addr} {q:Nat} {M:List Int} (h:Hold w0 F [.st (sl a k L), .st (sl p q M)] w):Hold w0 F [.st (sl a k L), .st (sl (α:=Commit) none 0 []), .st (sl (α:=Commit) none 0 []), .st (sl p q M)] w:=by
 have h1:=((h.tail).add (A:=sl (α:=Commit) none 0 []) Xan).add (A:=sl (α:=Commit) none 0 []) Xan
 exact h1.add (Asn.mono _ _ _ _ (fun j hj=>⟨hj.1,by simp [free,Fact.owns]⟩) (h.sat (.st (sl a k L)) (by simp)))
theorem Xf9 (n:Nd) (y:Na) (o:Op_) (k:Int) (h1:(sl y.d y.dk n.disk).holds F w) (h2:(sl y.l y.lk n.l).holds F w) (h3:(sl y.w y.wk n.wait).holds F w) (h4:(sl y.p y.pk n.peers).holds F w) (hn:NdFew n) (hl:n.l.length≤10) (hot:o.key.size < 4611686018427387904∧o.elem.size < 4611686018427387904) :
  Gives prog 27 [ndV n y, .agg ⟨[.int .i64 o.kind, .string o.key, .string o.elem, .int .i64 o.n]⟩, .int .i64 k] w F (fun z:Na=>ndV (crashT n o k) z) (fun z=>ndB (crashT n o k) z):=by
 have hup:=fun (w:World) (F:Nat→Prop) (y:Na) (h1:(sl y.d y.dk n.disk).holds F w) (h2:(sl y.l y.lk n.l).holds F w) (h3:(sl y.w y.wk n.wait).holds F w) (h4:(sl y.p y.pk n.peers).holds F w)=>Xd5 w F n y o h1 h2 h3 h4 hn hl hot
 have hof:=fun (w:World) (F:Nat→Prop) (y:Na) (h1:(sl y.d y.dk n.disk).holds F w) (h2:(sl y.l y.lk n.l).holds F w) (h3:(sl y.w y.wk n.wait).holds F w) (h4:(sl y.p y.pk n.peers).holds F w)=>Xks w F n y h1 h2 h3 h4 hn
 have hfw:=hn.fw
 have hdk:=hn.disk
 have hpre:=@X70 n o
 have eT1:Xbb n=false→crashT n o k=n:=fun h=>by unfold crashT; rw [h]; rfl
 have eT2:n.up=false→crashT n o k=n:=fun h=>by unfold crashT; rw [h]; simp
 have eT3:Xbb n=true→n.up=true→crashT n o k=⟨n.no,cutU n o k,n.room,[],[],0,false,n.peers,n.next,n.miss⟩:=fun h g=>by unfold crashT; rw [h,g]; rfl
 have eC1:¬ ((updT n o).2=0∧0 < k)→cutU n o k=n.disk:=fun h=>if_neg h
 have eC2:(updT n o).2=0→0 < k→cutU n o k=(updT n o).1.disk.take (n.disk.length+(min k (((updT n o).1.disk.length:Int) - n.disk.length)).toNat):=fun h g=>if_pos ⟨h,g⟩
 have hdl:=@Xy8 n o
 generalize updT n o=U at hup hpre eC1 eC2 hdl
 generalize cutU n o k=CUT at eT3 eC1 eC2
 generalize crashT n o k=T at eT1 eT2 eT3
 rcases n with ⟨no,disk,room,l,wait,seq,up,peers,next,miss⟩
 rcases y with ⟨ad,kd,al,kl,aw,kw,ap,kp⟩
 obtain ⟨kind,key,elem,m⟩:=o
 obtain ⟨⟨no2,disk2,room2,l2,wait2,seq2,up2,peers2,next2,miss2⟩,er⟩:=U
 dsimp only [ndV,ndC] at *
 refine Xaa func27 rfl ntmps27 rfl rfl [.st (sl ad kd disk), .st (sl al kl l), .st (sl aw kw wait), .st (sl ap kp peers)] (.start4 h1 h2 h3 h4) ?_
 (repeat (refine wE ?_; intro _)); refine wA ?_
 rename_i bn bo br
 refine JR.call (v:=fun z:Nat × Na=>.pointer (some ⟨z.1,0,none⟩)) rfl (fun w1 hw=>hof w1 _ ⟨ad,kd,al,kl,aw,kw,ap,kp⟩ hw.get hw.get hw.get hw.get) ?_
 rintro ⟨bq,⟨ad2,kd2,al2,kl2,aw2,kw2,ap2,kp2⟩⟩
 dsimp only [repF,ndC,List.cons_append,List.nil_append]
 refine wz9 ?_
 refine JR.callV rfl (fun w1 hw=>Xb0 w1 _ ⟨no,disk,room,l,wait,seq,up,peers,next,miss⟩ ⟨ad,kd,al,kl,aw,kw,ap,kp⟩ hw.get hw.get hw.get hfw) ?_
 cases m1:Xbb ⟨no,disk,room,l,wait,seq,up,peers,next,miss⟩ with
 | false =>
  rw [eT1 m1]
  dsimp only
  refine wz8 ?_
  refine JR.more (Γ':=.res (buf al2 kl2 31 l)::.own bq 119 [.int .i64 no, .slice ad2 disk.length kd2, .int .i64 room, .slice al2 l.length kl2, .slice aw2 wait.length kw2, .int .i64 seq, .bool up, .slice ap2 peers.length kp2, .int .i64 next, .int .i64 miss]::.st (sl ad2 kd2 disk)::.st (sl aw2 kw2 wait)::.st (sl ap2 kp2 peers)::.own br 50 [.int .i64 0, .slice none 0 0, .int .i64 0, .slice none 0 0, .slice none 0 0, .int .i64 0, .bool false, .slice none 0 0, .int .i64 0, .int .i64 0]::[]) (fun w1 ho=>ho.ent) ?_
  refine JR.more (fun w1 ho=>ho.pub) ?_
  refine Wf OpV.nilCheck rfl ?_
  refine wz9 ?_
  exact Xac ⟨ad2,kd2,al2,kl2,aw2,kw2,ap2,kp2⟩ rfl
 | true =>
 cases up with
 | false =>
  rw [eT2 rfl]
  dsimp only
  refine wz1 ?_
  refine JR.more (Γ':=.res (buf al2 kl2 31 l)::.own bq 119 [.int .i64 no, .slice ad2 disk.length kd2, .int .i64 room, .slice al2 l.length kl2, .slice aw2 wait.length kw2, .int .i64 seq, .bool false, .slice ap2 peers.length kp2, .int .i64 next, .int .i64 miss]::.st (sl ad2 kd2 disk)::.st (sl aw2 kw2 wait)::.st (sl ap2 kp2 peers)::.own br 50 [.int .i64 0, .slice none 0 0, .int .i64 0, .slice none 0 0, .slice none 0 0, .int .i64 0, .bool false, .slice none 0 0, .int .i64 0, .int .i64 0]::[]) (fun w1 ho=>ho.ent) ?_
  refine JR.more (fun w1 ho=>ho.pub) ?_
  refine Wf OpV.nilCheck rfl ?_
  refine wz9 ?_
  exact Xac ⟨ad2,kd2,al2,kl2,aw2,kw2,ap2,kp2⟩ rfl
 | true =>
 rw [eT3 m1 rfl]
 dsimp only
 refine wX ?_
 refine JR.call (v:=fun z:Na=>.tuple ⟨[.agg ⟨[.int .i64 no2, .slice z.d disk2.length z.dk, .int .i64 room2, .slice z.l l2.length z.lk, .slice z.w wait2.length z.wk, .int .i64 seq2, .bool up2, .slice z.p peers2.length z.pk, .int .i64 next2, .int .i64 miss2]⟩, .int .i64 er]⟩) rfl (fun w1 hw=>hup w1 _ ⟨ad,kd,al,kl,aw,kw,ap,kp⟩ hw.get hw.get hw.get hw.get) ?_
 rintro ⟨ad3,kd3,al3,kl3,aw3,kw3,ap3,kp3⟩
 dsimp only [List.cons_append,List.nil_append]
 (repeat (refine wF ?_; intro _)); refine wX ?_
 by_cases he:er=0
 ·subst he
  refine JO.reslot 33 (.bool true) rfl ?_
  refine wX ?_
  refine JC.test (fun hk=>?_) (fun hk=>?_)
  ·have hk':0 < k:=hk
   have hp:=hpre rfl
   have hq:=hdl rfl
   rw [eC2 rfl hk']
   obtain ⟨j,hj⟩:∃ j:Nat,j=(min k ((disk2.length:Int) - disk.length)).toNat:=⟨_,rfl⟩
   rw [← hj]
   refine wX ?_
   refine Wf OpV.min rfl ?_
   refine wX ?_
   refine JR.reslot 52 (.int .i64 ((disk.length+j:Nat):Int)) (by congr 1; omega) ?_
   refine Xky (L:=disk2) (k:=disk.length+j) rfl rfl (by omega) ?_
   intro a9 k9
   refine wz13 ?_
   refine Wf OpV.nilCheck rfl ?_
   refine wz9 ?_
   refine JR.more (Γ':=.own bq 119 [.int .i64 no, .slice a9 (disk2.take (disk.length+j)).length k9, .int .i64 room, .slice al2 l.length kl2, .slice aw2 wait.length kw2, .int .i64 seq, .bool true, .slice ap2 peers.length kp2, .int .i64 next, .int .i64 miss]::.st (sl a9 k9 (disk2.take (disk.length+j)))::.st (sl ap2 kp2 peers)::.own br 50 [.int .i64 0, .slice none 0 0, .int .i64 0, .slice none 0 0, .slice none 0 0, .int .i64 0, .bool false, .slice none 0 0, .int .i64 0, .int .i64 0]::[]) (fun w1 ho=>ho.ent) ?_
   refine Xal (v:=fun _:Unit=>.tuple ⟨[]⟩) (B:=fun _=>.own bq 119 [.int .i64 no, .slice a9 (disk2.take (disk.length+j)).length k9, .int .i64 room, .slice none 0 0, .slice none 0 0, .int .i64 0, .bool false, .slice ap2 peers.length kp2, .int .i64 next, .int .i64 miss]::.st (sl a9 k9 (disk2.take (disk.length+j)))::.st (sl ap2 kp2 peers)::.own br 50 [.int .i64 0, .slice none 0 0, .int .i64 0, .slice none 0 0, .slice none 0 0, .int .i64 0, .bool false, .slice none 0 0, .int .i64 0, .int .i64 0]::[]) rfl (fun w1 hw=>Xpl hw) ?_
   rintro ⟨⟩
   refine wz10 ?_
   refine Wf OpV.nilCheck rfl ?_
   refine wz9 ?_
   refine CT.done ⟨a9,k9,none,0,none,0,ap2,kp2⟩ rfl (fun w ho=>?_)
   have h9:Hold _ _ [.st (sl a9 k9 (disk2.take (disk.length+j))), .st (sl ap2 kp2 peers)] w:=ho.ent
   exact Xlu h9
  ·rw [eC1 (fun h=>hk h.2)]
   refine wz14 ?_
   refine JR.more (Γ':=.own bq 119 [.int .i64 no, .slice ad2 disk.length kd2, .int .i64 room, .slice al2 l.length kl2, .slice aw2 wait.length kw2, .int .i64 seq, .bool true, .slice ap2 peers.length kp2, .int .i64 next, .int .i64 miss]::.st (sl ad2 kd2 disk)::.st (sl ap2 kp2 peers)::.own br 50 [.int .i64 0, .slice none 0 0, .int .i64 0, .slice none 0 0, .slice none 0 0, .int .i64 0, .bool false, .slice none 0 0, .int .i64 0, .int .i64 0]::[]) (fun w1 ho=>ho.ent) ?_
   refine Xal (v:=fun _:Unit=>.tuple ⟨[]⟩) (B:=fun _=>.own bq 119 [.int .i64 no, .slice ad2 disk.length kd2, .int .i64 room, .slice none 0 0, .slice none 0 0, .int .i64 0, .bool false, .slice ap2 peers.length kp2, .int .i64 next, .int .i64 miss]::.st (sl ad2 kd2 disk)::.st (sl ap2 kp2 peers)::.own br 50 [.int .i64 0, .slice none 0 0, .int .i64 0, .slice none 0 0, .slice none 0 0, .int .i64 0, .bool false, .slice none 0 0, .int .i64 0, .int .i64 0]::[]) rfl (fun w1 hw=>Xpl hw) ?_
   rintro ⟨⟩
   refine wz10 ?_
   refine Wf OpV.nilCheck rfl ?_
   refine wz9 ?_
   refine CT.done ⟨ad2,kd2,none,0,none,0,ap2,kp2⟩ rfl (fun w ho=>?_)
   have h9:Hold _ _ [.st (sl ad2 kd2 disk), .st (sl ap2 kp2 peers)] w:=ho.ent
   exact Xlu h9
 ·refine JO.reslot 33 (.bool false) (by congr 1; exact decide_eq_false he) ?_
  rw [eC1 (fun h=>he h.1)]
  refine wX ?_
  refine JR.more (Γ':=.own bq 119 [.int .i64 no, .slice ad2 disk.length kd2, .int .i64 room, .slice al2 l.length kl2, .slice aw2 wait.length kw2, .int .i64 seq, .bool true, .slice ap2 peers.length kp2, .int .i64 next, .int .i64 miss]::.st (sl ad2 kd2 disk)::.st (sl ap2 kp2 peers)::.own br 50 [.int .i64 0, .slice none 0 0, .int .i64 0, .slice none 0 0, .slice none 0 0, .int .i64 0, .bool false, .slice none 0 0, .int .i64 0, .int .i64 0]::[]) (fun w1 ho=>ho.ent) ?_
  refine Xal (v:=fun _:Unit=>.tuple ⟨[]⟩) (B:=fun _=>.own bq 119 [.int .i64 no, .slice ad2 disk.length kd2, .int .i64 room, .slice none 0 0, .slice none 0 0, .int .i64 0, .bool false, .slice ap2 peers.length kp2, .int .i64 next, .int .i64 miss]::.st (sl ad2 kd2 disk)::.st (sl ap2 kp2 peers)::.own br 50 [.int .i64 0, .slice none 0 0, .int .i64 0, .slice none 0 0, .slice none 0 0, .int .i64 0, .bool false, .slice none 0 0, .int .i64 0, .int .i64 0]::[]) rfl (fun w1 hw=>Xpl hw) ?_
  rintro ⟨⟩
  refine wz10 ?_
  refine Wf OpV.nilCheck rfl ?_
  refine wz9 ?_
  refine CT.done ⟨ad2,kd2,none,0,none,0,ap2,kp2⟩ rfl (fun w ho=>?_)
  have h9:Hold _ _ [.st (sl ad2 kd2 disk), .st (sl ap2 kp2 peers)] w:=ho.ent
  exact Xlu h9
def Xg1 (l:List Commit):List UInt8:=Xaf (l.map Xae)
theorem Xdt:∀ (xs:List (List UInt8)),(∀ x∈xs,x.length≤4000)→∀ r,readL (Xaf xs++r)=xs++readL r
 | [],_,r=>rfl
 | x::xs,h,r=>by
  have h1:readStep (Xaf (x::xs)++r)=some (x,Xaf xs++r):=by
   rw [Xf7,List.append_assoc]; exact Xgg (h x (by simp)) _
  rw [Xq4 h1,Xdt xs (fun y hy=>h y (by simp [hy])) r]
  rfl
theorem Xkt:readL []=[]:=rfl
theorem Xmw {x t:List UInt8} (hx:x.length≤4000) (hp:t <+: Xbn x) (hl:t.length < (Xbn x).length):readStep t=none:=by
 cases h:readStep t with
 | none=>rfl
 | some q =>
  obtain ⟨y,r⟩:=q
  obtain ⟨hy,ht⟩:=Xd3 h
  obtain ⟨u,hu⟩:=hp
  have h1:=Xgg hx []
  rw [List.append_nil,← hu,ht,List.append_assoc,Xgg hy] at h1
  injection h1 with h1
  injection h1 with h2 h3
  subst h2
  have h4:=congrArg List.length h3
  have h5:=congrArg List.length ht
  rw [List.length_append] at h4 h5
  simp at h4
  omega
theorem Xs9:∀ (l:List Commit),(∀ c∈l,may c=true)→∀ m,decL (l.map Xae++m)=l++decL m
 | [],_,m=>rfl
 | c::l,h,m=>by
  have h1:=X7q (h c (by simp)) []
  rw [List.append_nil] at h1
  show decL (Xae c::(l.map Xae++m))=_
  rcases Xew (Xae c) (l.map Xae++m) with ⟨d,hd,he⟩ | ⟨hn,_⟩
  ·rw [h1] at hd
   cases hd
   rw [he,Xs9 l (fun d hd=>h d (by simp [hd])) m]
   rfl
  ·exact (hn ⟨c,h1⟩).elim
theorem Xiw:∀ (l acc:List Commit),(∀ j,j < l.length→Closed (acc++l.take (j+1)))→∀ m,Xa9 acc (l++m)=Xa9 (acc++l) m
 | [],acc,_,m=>by simp
 | c::l,acc,h,m=>by
  have h0:=h 0 (by simp)
  show Xa9 acc (c::(l++m))=_
  rw [Xa9,if_pos (by simpa using h0),Xiw l (acc++[c]) (fun j hj=>by simpa using h (j+1) (by simpa using hj)) m]
  simp
theorem Xga:∀ (l acc:List Commit),∃ k,k≤l.length∧Xa9 acc l=acc++l.take k∧∀ j,j < k→Closed (acc++l.take (j+1))
 | [],acc=>⟨0,Nat.le_refl _,by simp [Xa9],fun j hj=>absurd hj (by omega)⟩
 | c::l,acc=>by
  rw [Xa9]
  split
  ·rename_i h0
   obtain ⟨k,hk,h1,h2⟩:=Xga l (acc++[c])
   refine ⟨k+1,by simpa using hk,by rw [h1]; simp,fun j hj=>?_⟩
   cases j with
   | zero=>simpa using h0
   | succ j=>simpa using h2 j (by omega)
  ·exact ⟨0,Nat.zero_le _,by simp,fun j hj=>absurd hj (by omega)⟩
theorem X5a (L:List Commit):∀ (ps:List ID) (g:Int),g≤ps.foldl (fun g p=>max g (Xca L p)) g∧∀ p∈ps,Xca L p≤ps.foldl (fun g p=>max g (Xca L p)) g
 | [],g=>⟨Int.le_refl _,by simp⟩
 | q::ps,g=>by
  obtain ⟨h1,h2⟩:=X5a L ps (max g (Xca L q))
  refine ⟨by simp only [List.foldl_cons]; omega,fun p hp=>?_⟩
  simp only [List.foldl_cons]
  rcases List.mem_cons.1 hp with rfl | hp
  ·omega
  ·exact h2 p hp
theorem X5b {L:List Commit} {p:ID} {ps:List ID} (h:p∈ps):Xca L p≤Xc7 L ps:=(X5a L ps 0).2 p h
theorem Closed.take {s:List Commit} (h:Closed s) (hs:s.Pairwise leS) (k:Nat):Closed (s.take k):=by
 refine h.sub (fun c hc=>List.mem_of_mem_take hc) (Xus h.nodup (List.take_sublist k s)) fun c hc p hp=>?_
 obtain ⟨i,hi,rfl⟩:=List.getElem_of_mem hc
 rw [List.length_take] at hi
 rw [List.getElem_take] at hp
 have hm:s[i]∈s:=List.getElem_mem _
 have hf:=h.fine s[i] hm
 obtain ⟨d,hd,rfl⟩:=Xa1.1 (hf.here p hp)
 obtain ⟨j,hj,rfl⟩:=List.getElem_of_mem hd
 have hg:Xca s (idC s[j])≤Xc7 s s[i].parents:=X5b hp
 rw [Xck h.nodup hd] at hg
 have hg2:=hf.gen
 have hji:j < i:=by
  rcases Nat.lt_trichotomy j i with h1 | h1 | h1
  ·exact h1
  ·subst h1; omega
  ·have:=List.pairwise_iff_getElem.1 hs i j (by omega) hj h1
   rcases this with h2 | ⟨h2,_⟩ <;> omega
 exact Xa1.2 ⟨s[j],List.mem_of_getElem? (i:=j) (by rw [List.getElem?_take_of_lt (by omega),List.getElem?_eq_getElem hj]),rfl⟩
theorem Xrd {l:List Commit} (h:∀ c∈l,may c=true):∀ x∈l.map Xae,x.length≤4000:=by
 intro x hx
 obtain ⟨c,hc,rfl⟩:=List.mem_map.1 hx
 have:=Xhr (h c hc)
 omega
theorem X1o {l:List Commit} (h:∀ c∈l,may c=true) {r:List UInt8} (hr:readL r=[]):readL (Xg1 l++r)=l.map Xae∧Xa3 (Xg1 l++r)=Xa9 [] l:=by
 have h1:readL (Xg1 l++r)=l.map Xae:=by unfold Xg1; rw [Xdt _ (Xrd h),hr,List.append_nil]
 refine ⟨h1,?_⟩
 unfold Xa3
 rw [h1]
 have:=Xs9 l h []
 rw [List.append_nil] at this
 rw [this]
 have e:decL []=[]:=rfl
 rw [e,List.append_nil]
theorem Xvx {l:List Commit} (h:∀ c∈l,may c=true) (hc:∀ j,j < l.length→Closed (l.take (j+1))) {r:List UInt8} (hr:readL r=[]):Xa3 (Xg1 l++r)=l∧Xau (Xg1 l++r)=(Xg1 l).length:=by
 obtain ⟨h1,h2⟩:=X1o h hr
 have h3:Xa9 [] l=l:=by
  have:=Xiw l [] (fun j hj=>by simpa using hc j hj) []
  simpa [Xa9] using this
 rw [h3] at h2
 refine ⟨h2,?_⟩
 unfold Xau
 rw [h1,h2,← List.map_take,List.take_length]
 rfl
theorem closed_l0:Closed [l0]:=closed_two.sub (by simp) (by simp [cids]) (by simp [l0])
theorem Xta:∀ c∈[l0],may c=true:=fun c hc=>closed_l0.may c hc
theorem X5c:Xg1 [l0]=Xbn (Xae l0):=by simp [Xg1,Xaf]
theorem X5d:Xa3 (Xg1 [l0])=[l0]∧Xau (Xg1 [l0])=(Xg1 [l0]).length:=by
 have:=Xvx Xta (fun j hj=>by
  have:j=0:=by simpa using hj
  subst this
  exact closed_l0) (r:=[]) Xkt
 rwa [List.append_nil] at this
theorem Xy9:Xa3 []=[]∧Xau []=0:=⟨rfl,rfl⟩
theorem Xvy:∀ (l:List (List UInt8)) (k:Nat),k≤(decL l).length→decL (l.take k)=(decL l).take k
 | [],k,h=>by simp [decL]
 | b::l,0,h=>by simp [decL]
 | b::l,k+1,h=>by
  show decL (b::l.take k)=_
  rcases Xew b l with ⟨c,hc,hd⟩ | ⟨_,hd⟩
  ·rw [hd] at h ⊢
   rcases Xew b (l.take k) with ⟨c',hc',hd'⟩ | ⟨hn,_⟩
   ·rw [hc] at hc'
    cases hc'
    rw [hd',Xvy l k (by simpa using h)]
    rfl
   ·exact (hn ⟨c,hc⟩).elim
  ·rw [hd] at h; simp at h
theorem X84 (b:List UInt8):Xa3 (b.take (Xau b))=Xa3 b∧Xau (b.take (Xau b))=Xau b∧(b.take (Xau b)).length=Xau b:=by
 obtain ⟨k,hk,h1,h2⟩:=Xga (decL (readL b)) []
 rw [List.nil_append] at h1
 have hL:Xa3 b=(decL (readL b)).take k:=h1
 have hlen:(Xa3 b).length=k:=by rw [hL,List.length_take]; omega
 have hpre:Xaf (readL b) <+: b:=Xfw _ _
 have hE:Xau b=(Xaf ((readL b).take k)).length:=by unfold Xau; rw [hlen]
 have ho:b.take (Xau b)=Xaf ((readL b).take k):=by
  obtain ⟨t,ht⟩:=hpre
  have hb2:Xaf (readL b)++t=Xaf ((readL b).take k)++(Xaf ((readL b).drop k)++t):=by rw [← List.append_assoc,← Xcr,List.take_append_drop]
  have h3:(Xaf (readL b)++t).take (Xau b)=Xaf ((readL b).take k):=by rw [hb2,hE]; exact List.take_left' rfl
  rw [ht] at h3
  exact h3
 have hR:readL (b.take (Xau b))=(readL b).take k:=by
  rw [ho]
  have:=Xdt ((readL b).take k) (fun x hx=>Xhn _ _ x (List.mem_of_mem_take hx)) []
  rwa [List.append_nil,Xkt,List.append_nil] at this
 have hL2:Xa3 (b.take (Xau b))=Xa3 b:=by
  rw [hL]
  unfold Xa3
  rw [hR,Xvy _ _ hk]
  have hj:∀ j,j < ((decL (readL b)).take k).length→Closed ([]++((decL (readL b)).take k).take (j+1)):=fun j hj=>by
   rw [List.length_take] at hj
   rw [List.take_take,Nat.min_eq_left (by omega)]
   exact h2 j (by omega)
  have h3:=Xiw ((decL (readL b)).take k) [] hj []
  rw [List.append_nil,List.nil_append] at h3
  exact h3
 refine ⟨hL2,?_,by rw [ho]; exact hE.symm⟩
 show (Xaf ((readL (b.take (Xau b))).take (Xa3 (b.take (Xau b))).length)).length=_
 rw [hL2,hR,hlen,List.take_take,Nat.min_self]
 exact hE.symm
theorem Xp5 (b:List UInt8):Closed (Xa3 b):=Xko _ _ Xgs
theorem Xza:∀ (xs m:List (List UInt8)),(decL xs).length=xs.length→decL (xs++m)=decL xs++decL m
 | [],m,_=>rfl
 | b::xs,m,h=>by
  show decL (b::(xs++m))=_
  rcases Xew b xs with ⟨c,hc,hd⟩ | ⟨_,hd⟩
  ·rw [hd] at h ⊢
   rcases Xew b (xs++m) with ⟨c',hc',hd'⟩ | ⟨hn,_⟩
   ·rw [hc] at hc'
    cases hc'
    rw [hd',Xza xs m (by simpa using h)]
    rfl
   ·exact (hn ⟨c,hc⟩).elim
  ·rw [hd] at h; simp at h
theorem X5e {D:List UInt8} (hE:Xau D=D.length) (r:List UInt8) :
  Xa3 (D++r)=Xa9 (Xa3 D) (decL (readL r))∧Xau (D++r)=D.length+(Xaf ((readL r).take ((Xa3 (D++r)).length - (Xa3 D).length))).length:=by
 obtain ⟨k,hk,h1,h2⟩:=Xga (decL (readL D)) []
 rw [List.nil_append] at h1
 have hL:Xa3 D=(decL (readL D)).take k:=h1
 have hlen:(Xa3 D).length=k:=by rw [hL,List.length_take]; omega
 have hpre:Xaf (readL D) <+: D:=Xfw _ _
 have hE2:Xau D=(Xaf ((readL D).take k)).length:=by unfold Xau; rw [hlen]
 have ho:D=Xaf ((readL D).take k):=by
  obtain ⟨t,ht⟩:=hpre
  have hb2:Xaf (readL D)++t=Xaf ((readL D).take k)++(Xaf ((readL D).drop k)++t):=by rw [← List.append_assoc,← Xcr,List.take_append_drop]
  have h3:(Xaf (readL D)++t).take (Xau D)=Xaf ((readL D).take k):=by rw [hb2,hE2]; exact List.take_left' rfl
  rw [ht,hE,List.take_length] at h3
  exact h3
 have hsm:∀ x∈(readL D).take k,x.length≤4000:=fun x hx=>Xhn _ _ x (List.mem_of_mem_take hx)
 have hR:readL D=(readL D).take k:=by
  have:=Xdt ((readL D).take k) hsm []
  rw [List.append_nil,← ho,Xkt,List.append_nil] at this
  exact this
 have hkl:(readL D).length=k:=by
  have h3:=Xik (readL D)
  have h4:=congrArg List.length hR
  rw [List.length_take] at h4
  omega
 have hdl:(decL (readL D)).length=(readL D).length:=by
  have h3:=Xik (readL D)
  omega
 have hL2:Xa3 D=decL (readL D):=by rw [hL,List.take_of_length_le (by omega)]
 have hread:readL (D++r)=readL D++readL r:=by
  have h3:=Xdt ((readL D).take k) hsm r
  rw [← ho,← hR] at h3
  exact h3
 have hj:∀ j,j < (decL (readL D)).length→Closed ([]++(decL (readL D)).take (j+1)):=fun j hj=>h2 j (by omega)
 have hload:Xa3 (D++r)=Xa9 (Xa3 D) (decL (readL r)):=by
  show Xa9 [] (decL (readL (D++r)))=_
  rw [hread,Xza _ _ hdl,Xiw _ [] hj,List.nil_append,hL2]
 refine ⟨hload,?_⟩
 have hge:(Xa3 D).length≤(Xa3 (D++r)).length:=by
  rw [hload]
  obtain ⟨k2,_,h5,_⟩:=Xga (decL (readL r)) (Xa3 D)
  rw [h5,List.length_append]; omega
 show (Xaf ((readL (D++r)).take (Xa3 (D++r)).length)).length=_
 rw [hread,List.take_append,Xcr,List.length_append,List.take_of_length_le (by omega),hkl,hlen]
 have:(Xaf (readL D)).length=D.length:=by rw [hR,← hE2,hE]
 rw [this]
theorem X71 {D:List UInt8} {c:Commit} (hE:Xau D=D.length) (hm:may c=true) (hc:Closed (Xa3 D++[c])) (t:Nat) (ht:t≤(Xbn (Xae c)).length) :
  (t < (Xbn (Xae c)).length→Xa3 (D++(Xbn (Xae c)).take t)=Xa3 D) ∧
  (t=(Xbn (Xae c)).length→Xa3 (D++(Xbn (Xae c)).take t)=Xa3 D++[c]):=by
 obtain ⟨h1,_⟩:=X5e hE ((Xbn (Xae c)).take t)
 have hs:(Xae c).length≤4000:=Xrd (l:=[c]) (by intro x hx; rw [List.mem_singleton.1 hx]; exact hm) _ (by simp)
 constructor
 ·intro hlt
  have hn:readStep ((Xbn (Xae c)).take t)=none:=Xmw hs (List.take_prefix _ _) (by rw [List.length_take]; omega)
  rw [h1,Xg0 hn]
  rfl
 ·intro he
  rw [h1,he,List.take_length]
  have h2:=Xdt [Xae c] (by intro x hx; rw [List.mem_singleton.1 hx]; exact hs) []
  rw [List.append_nil,Xjp,Xkt,List.append_nil] at h2
  have h3:=Xs9 [c] (by intro x hx; rw [List.mem_singleton.1 hx]; exact hm) []
  rw [List.append_nil] at h3
  rw [h2]
  have h4:decL [Xae c]=[c]:=by simpa [decL] using h3
  rw [h4]
  unfold Xa9
  rw [if_pos hc]
  rfl
structure UpOk (n:Nd):Prop where
 load:Xa3 n.disk=n.l
 full:Xau n.disk=n.disk.length
 seq:n.seq=Xfb n.l n.no
 wait:n.wait.length≤8
 fits:Xgi n.no n.room=true
 room:(n.disk.length:Int)≤n.room
theorem Xx5 {n:Nd} (h:Xbb n=true) (hu:n.up=true):UpOk n:=by
 obtain ⟨_,h2,h3⟩:=Xc2 h
 unfold Xbb at h
 split at h
 ·cases h
 ·split at h
  ·rename_i h4; rw [hu] at h4; cases h4
  ·simp only [Bool.and_eq_true,decide_eq_true_eq] at h
   exact ⟨h.1.1.1.1,h.1.1.1.2,h.1.1.2,h.1.2,h3,h2⟩
theorem Xix {no room next miss:Int} {D:List UInt8} {peers:List Int} (hf:Xgi no room=true) (hr:(D.length:Int)≤room) (hE:Xau D=D.length):Xbb ⟨no,D,room,Xa3 D,[],Xfb (Xa3 D) no,true,peers,next,miss⟩=true:=by
 unfold Xbb
 rw [if_neg (by rw [hf]; simp; omega),if_neg (by simp)]
 simp [hE]
theorem Xzb {no room next miss:Int} {D:List UInt8} {peers:List Int} (hf:Xgi no room=true) (hr:(D.length:Int)≤room):Xbb ⟨no,D,room,[],[],0,false,peers,next,miss⟩=true:=by
 unfold Xbb
 rw [if_neg (by rw [hf]; simp; omega),if_pos (by simp)]
 simp
theorem X1p (l:List Commit) (c:Commit) (node:Int):Xfb (l++[c]) node=if c.ev.node=node then max (Xfb l node) c.ev.seq else Xfb l node:=by
 unfold Xfb
 rw [List.foldl_append]
 rfl
theorem Xx6 {l:List Commit} (h:∀ c∈l,c.ev.seq≤1048576) (node:Int):0≤Xfb l node∧Xfb l node≤1048576:=by
 have:∀ (l:List Commit) (g:Int),(∀ c∈l,c.ev.seq≤1048576)→0≤g→g≤1048576→0≤l.foldl (fun n c=>if c.ev.node=node then max n c.ev.seq else n) g∧l.foldl (fun n c=>if c.ev.node=node then max n c.ev.seq else n) g≤1048576:=by
  intro l
  induction l with
  | nil=>exact fun g _ h1 h2=>⟨h1,h2⟩
  | cons c l ih =>
   intro g hl h1 h2
   rw [List.foldl_cons]
   have hc:=hl c (by simp)
   refine ih _ (fun d hd=>hl d (List.mem_cons_of_mem _ hd)) ?_ ?_
   ·split <;> omega
   ·split <;> omega
 exact this l 0 h (Int.le_refl _) (by decide)
theorem X72 {c:Commit} (h:may c=true):c.ev.seq≤1048576:=by
 unfold may at h
 split at h
 ·cases h
 ·split at h
  ·simp only [Bool.and_eq_true,decide_eq_true_eq] at h
   omega
  ·simp only [inB,Bool.and_eq_true,decide_eq_true_eq] at h
   omega
theorem Xvz {n:Nd} (h:UpOk n):0≤n.seq∧n.seq≤1048576:=by
 rw [h.seq,← h.load]
 exact Xx6 (fun c hc=>X72 ((Xp5 n.disk).may c hc)) _
theorem Xtb {n:Nd} {o:Op_} (hm:Xbb n=true) (hu:n.up=true) (h:(updT n o).2=0):∃ c,Closed (n.l++[c])∧may c=true∧c.ev=⟨n.no,n.seq+1⟩∧c.op=o∧nextF n.l ⟨n.no,n.seq+1⟩ o=(c,true) ∧
  (updT n o).1=⟨n.no,n.disk++Xbn (Xae c),n.room,n.l++[c],n.wait,n.seq+1,true,n.peers,n.next,n.miss⟩∧((n.disk++Xbn (Xae c)).length:Int)≤n.room:=by
 have hk:=Xx5 hm hu
 have hb:=Xvz hk
 have hw:IntKind.i64.wrap (n.seq+1)=n.seq+1:=Xc3 (by omega)
 obtain ⟨_,_,_,h2,h3⟩:=Xs8 h
 obtain ⟨c,h4,_,h5,h6⟩:=Xs7 h2
 unfold nextU at h4
 rw [hw] at h4 h6
 obtain ⟨g1,g2,g3,g4⟩:=Xsr h4
 obtain ⟨r1,r2,r3⟩:=Xfx h5
 refine ⟨c,g4,g3,by rw [g1]; rfl,by rw [g1]; rfl,h4,?_,by rw [← r2]; exact r1⟩
 rw [h3,h6,r2,hu]
theorem Xv0 (L:List UInt8):0 < (Xbn L).length:=by rw [Xbz]; omega
theorem X5f {n:Nd} {o:Op_} {k:Int} (hm:Xbb n=true) (hu:n.up=true) :
  (openT (crashT n o k)).2=0∧Xbb (openT (crashT n o k)).1=true∧(openT (crashT n o k)).1.wait=[]∧(openT (crashT n o k)).1.up=true∧(crashT n o k).up=false ∧
  (((openT (crashT n o k)).1.l=n.l∧(openT (crashT n o k)).1.seq=n.seq∧((updT n o).2≠0∨k < ((updT n o).1.disk.length:Int) - n.disk.length)) ∨
  ((updT n o).2=0∧(openT (crashT n o k)).1.l=(updT n o).1.l∧(updT n o).1.l≠n.l∧(openT (crashT n o k)).1.seq=n.seq+1∧((updT n o).1.disk.length:Int) - n.disk.length≤k)):=by
 have hk:=Xx5 hm hu
 have hB:crashT n o k=⟨n.no,cutU n o k,n.room,[],[],0,false,n.peers,n.next,n.miss⟩:=by unfold crashT; rw [hm,hu]; rfl
 have key:((cutU n o k).length:Int)≤n.room∧((Xa3 (cutU n o k)=n.l∧((updT n o).2≠0∨k < ((updT n o).1.disk.length:Int) - n.disk.length)) ∨
   ((updT n o).2=0∧Xa3 (cutU n o k)=(updT n o).1.l∧(updT n o).1.l≠n.l∧Xfb (updT n o).1.l n.no=n.seq+1∧((updT n o).1.disk.length:Int) - n.disk.length≤k)):=by
  by_cases h0:(updT n o).2=0
  ·obtain ⟨c,g1,g2,g3,g4,g5,g6,g7⟩:=Xtb hm hu h0
   have hfp:=Xv0 (Xae c)
   rw [← hk.load] at g1
   have hlast:Xfb (n.l++[c]) n.no=n.seq+1:=by
    rw [X1p,g3,if_pos rfl,← hk.seq]
    show max n.seq (n.seq+1)=_
    omega
   rw [List.length_append] at g7
   by_cases hkp:0 < k
   ·have hcut:cutU n o k=n.disk++(Xbn (Xae c)).take (min k ((Xbn (Xae c)).length:Int)).toNat:=by
     unfold cutU
     rw [if_pos ⟨h0,hkp⟩,g6]
     dsimp only
     rw [List.length_append,List.take_append,List.take_of_length_le (by omega)]
     congr 2
     omega
    obtain ⟨d1,d2⟩:=X71 hk.full g2 g1 (min k ((Xbn (Xae c)).length:Int)).toNat (by omega)
    rw [← hcut] at d1 d2
    refine ⟨by rw [hcut,List.length_append,List.length_take]; omega,?_⟩
    rw [g6]
    dsimp only
    rw [List.length_append]
    by_cases hlt:k < ((Xbn (Xae c)).length:Int)
    ·left
     exact ⟨(d1 (by omega)).trans hk.load, .inr (by omega)⟩
    ·right
     exact ⟨h0,by rw [d2 (by omega),hk.load],by simp,hlast,by omega⟩
   ·have hcut:cutU n o k=n.disk:=by unfold cutU; rw [if_neg (fun h=>hkp h.2)]
    rw [hcut]
    refine ⟨hk.room, .inl ⟨hk.load, .inr ?_⟩⟩
    rw [g6]
    dsimp only
    rw [List.length_append]
    omega
  ·have hcut:cutU n o k=n.disk:=by unfold cutU; rw [if_neg (fun h=>h0 h.1)]
   rw [hcut]
   exact ⟨hk.room, .inl ⟨hk.load, .inl h0⟩⟩
 obtain ⟨hroom,hcase⟩:=key
 have hBm:Xbb (crashT n o k)=true:=by rw [hB]; exact Xzb hk.fits hroom
 have hO:openT (crashT n o k)=(⟨n.no,openL (cutU n o k),n.room,Xa3 (openL (cutU n o k)),[],Xfb (Xa3 (openL (cutU n o k))) n.no,true,n.peers,n.next,n.miss⟩,0):=by
  unfold openT
  rw [hBm,hB,if_neg (by simp),if_neg (by simp)]
 obtain ⟨r1,r2,r3⟩:=X84 (cutU n o k)
 have hoL:openL (cutU n o k)=(cutU n o k).take (Xau (cutU n o k)):=rfl
 rw [← hoL] at r1 r2 r3
 have hle:=Xlr (cutU n o k)
 rw [hO]
 dsimp only
 refine ⟨rfl,Xix hk.fits (by rw [r3]; omega) (by rw [r2,r3]),rfl,rfl,by rw [hB],?_⟩
 rw [r1]
 rcases hcase with ⟨c1,c2⟩ | ⟨c1,c2,c3,c4,c5⟩
 ·left
  exact ⟨c1,by rw [c1,← hk.seq],c2⟩
 ·right
  exact ⟨c1,c2,c3,by rw [c2]; exact c4,c5⟩
def nB0:Nd:=⟨0,[],1000,[],[],0,true,[],0,0⟩
def incA (n:Int):Op_:=⟨0,keyA, .empty,n⟩
noncomputable def nB1:Nd:=⟨0,Xg1 [l0],1000,[l0],[],1,true,[],0,0⟩
noncomputable def nB2:Nd:=crashT nB1 (incA 2) 5
noncomputable def nB3:Nd:=(openT nB2).1
theorem Ya3:Xbb nB0=true:=by
 have h:=Xix (no:=0) (room:=1000) (next:=0) (miss:=0) (D:=[]) (peers:=[]) (by decide) (by simp) Xy9.2
 rw [Xy9.1] at h
 exact h
theorem Ya4:newN 0 1000=(nB0,true):=by unfold newN; rw [if_pos (by decide)]; rfl
theorem Xzc:(Xg1 [l0]).length≤1000∧5 < (Xg1 [l0]).length:=by
 have hl:(Xae l0).length≤60:=by decide +kernel
 have h0:5≤(Xae l0).length:=by decide +kernel
 have hn:=Xa8 (Xae l0).length
 rw [X5c,Xbz]; omega
theorem X5g:storeT [] 1000 l0=(Xg1 [l0],0):=by
 have hp:Xaw l0=(Xae l0,0):=by unfold Xaw; rw [Xta l0 (by simp)]; rfl
 have hl:(Xae l0).length≤60:=by decide +kernel
 have hn:=Xa8 (Xae l0).length
 unfold storeT
 rw [hp]
 dsimp only
 rw [if_pos rfl]
 unfold Xgz
 rw [if_neg (by omega),if_neg (by rw [Xbz]; simp; omega),X5c]
 rfl
theorem Xzd:evalS []=st0:=by
 have h1:frontF []=[]:=(Xu5 Xgs).2 rfl
 unfold evalS evalN
 rw [h1]
 rfl
theorem X5h:evalF []=(st0,0):=by rw [Xo6 (Xbk Xgs),Xzd]
theorem X5i:nextF [] ⟨0,1⟩ (incA 1)=(l0,true):=by
 have h1:frontF []=[]:=(Xu5 Xgs).2 rfl
 have h2:nextC [] ⟨0,1⟩ (incA 1)=l0:=by unfold nextC; rw [h1]; rfl
 have h3:=Xo5 (L:=[]) (ev:=⟨0,1⟩) (o:=incA 1) Xgs (by rw [h2]; exact Xta l0 (by simp)) (by rw [h2]; exact closed_l0)
 rw [h3,h2]
theorem Ya5:updT nB0 (incA 1)=(nB1,0):=by
 have h0:updN nB0 (incA 1)=(nB1,0):=by
  have h:=X49 (n:=nB0) (o:=incA 1) (c:=l0) X5h rfl (by unfold Xpk; decide) X5i (by rw [show nB0.disk=[] from rfl,show nB0.room=1000 from rfl,X5g])
  rw [h,show nB0.disk=[] from rfl,show nB0.room=1000 from rfl,X5g]
  rfl
 unfold updT
 rw [Ya3,if_neg (by decide),if_neg (by decide),h0,if_neg (by simp)]
theorem Xpm:Xbb nB1=true:=by
 have h:=Xix (no:=0) (room:=1000) (next:=0) (miss:=0) (D:=Xg1 [l0]) (peers:=[]) (by decide) (by have:=Xzc; omega) X5d.2
 rw [X5d.1] at h
 exact h
theorem Ya6:NdFew nB0:=⟨by simp [nB0],by simp [nB0],by simp [nB0],by simp [nB0],by simp [nB0]⟩
theorem Xtc:∀ x∈[l0],fine x:=fun x hx=>by rw [List.mem_singleton.1 hx]; exact ⟨⟨by decide,by decide⟩,by decide⟩
theorem Ya7:NdFew nB1:=⟨Xtc,by simp [nB1],by show (Xg1 [l0]).length≤_; have:=Xzc; omega,by simp [nB1],by simp [nB1]⟩
theorem Xtd:(openT nB2)=(nB3,0)∧Xbb nB3=true∧nB3.wait=[]∧nB3.up=true∧nB2.up=false∧nB3.l=[l0]:=by
 obtain ⟨h1,h2,h3,h4,h5,h6⟩:=X5f (n:=nB1) (o:=incA 2) (k:=5) Xpm rfl
 refine ⟨Prod.ext rfl h1,h2,h3,h4,h5,?_⟩
 rcases h6 with ⟨h6,_⟩ | ⟨h6,h7,h8,h9,h10⟩
 ·exact h6
 ·exfalso
  obtain ⟨c,g1,g2,g3,g4,g5,g6,g7⟩:=Xtb Xpm rfl h6
  rw [g6] at h10
  dsimp only at h10
  have hp:5≤(Xae c).length:=by
   have a1:=Xcl (Xfo c.ev.node)
   have a2:=Xcl c.ev.seq.toNat
   have a3:=Xcl c.gen.toNat
   have a4:=Xcl c.parents.length
   have hh:(Xgr c).length≤(Xae c).length:=by unfold Xae; split <;> simp only [List.length_append] <;> omega
   have hd:4≤(Xgr c).length:=by unfold Xgr; simp only [List.length_append]; omega
   have hop:c.ev.node≠-1:=by rw [g3]; decide
   unfold Xae
   rw [if_neg hop]
   have:1≤(Xc4 c.op).length:=by
    have a5:=Xcl c.op.kind.toNat
    unfold Xc4
    simp only [List.length_append,List.length_cons]
    omega
   simp only [List.length_append]
   omega
  have hb:=Xcl (Xae c).length
  have hfl:=Xbz (Xae c)
  rw [List.length_append] at h10
  omega
theorem Ya8:NdFew nB2:=by
 have h:nB2=⟨0,cutU nB1 (incA 2) 5,1000,[],[],0,false,[],0,0⟩:=by unfold nB2 crashT; rw [Xpm]; rfl
 have hm:((cutU nB1 (incA 2) 5).length:Int)≤1000:=by
  by_cases h0:(updT nB1 (incA 2)).2=0
  ·obtain ⟨c,g1,g2,g3,g4,g5,g6,g7⟩:=Xtb Xpm rfl h0
   unfold cutU
   split
   ·have:(updT nB1 (incA 2)).1.disk.length≤1000:=by
     rw [g6]; have:nB1.room=1000:=rfl; dsimp only; omega
    rw [List.length_take]; omega
   ·have:=Xzc; show ((Xg1 [l0]).length:Int)≤_; omega
  ·have hc:cutU nB1 (incA 2) 5=nB1.disk:=by unfold cutU; rw [if_neg (fun h=>h0 h.1)]
   rw [hc]; have:=Xzc; show ((Xg1 [l0]).length:Int)≤_; omega
 rw [h]
 exact ⟨by simp,by simp,by show (cutU nB1 (incA 2) 5).length≤_; omega,by simp,by simp⟩
theorem few_nB3:NdFew nB3:=by
 obtain ⟨h1,h2,h3,h4,h5,h6⟩:=Xtd
 have hr:=Xc2 h2
 refine ⟨by rw [h6]; exact Xtc,by rw [h3]; simp,by omega,by rw [h6,h3]; simp,?_⟩
 have h7:nB3.peers=[]:=by
  have e:nB2=⟨0,cutU nB1 (incA 2) 5,1000,[],[],0,false,[],0,0⟩:=by unfold nB2 crashT; rw [Xpm]; rfl
  have h8:(openT nB2).2=0:=by rw [h1]
  unfold nB3
  unfold openT at h8 ⊢
  split at h8
  ·cases h8
  ·split at h8
   ·cases h8
   ·rename_i a b
    rw [if_neg a,if_neg b]
    show nB2.peers=[]
    rw [e]
 rw [h7]; simp
theorem X73:Xgl nB3 [l0]=nB3:=by
 obtain ⟨h1,h2,h3,h4,h5,h6⟩:=Xtd
 unfold Xgl
 rw [h2,h4]
 show Xd7 nB3 l0=nB3
 have hf:Xcn nB3.no nB3.seq (idsP nB3.l) l0=false:=by
  unfold Xcn
  rw [h6,Xhj Xta,decide_eq_true (show idC l0∈cids [l0] by simp [cids])]
  simp
 unfold Xd7
 rw [hf]; rfl
theorem X5j:∃ s,stateT nB3=(s,0)∧Xf8 s.c keyA=1:=by
 obtain ⟨h1,h2,h3,h4,h5,h6⟩:=Xtd
 have h7:=(X0w X5i).1
 rw [List.nil_append,Xzd] at h7
 have h8:stateT nB3=(evalS [l0],0):=by
  unfold stateT
  rw [if_neg (by simp [h2]),if_neg (by simp [h4]),h6,Xo6 (Xbk closed_l0)]
 refine ⟨_,h8,?_⟩
 rw [h7]
 have h9:doOk st0 (incA 1) ⟨0,1⟩ l0.gen=true:=by decide
 unfold stDo
 rw [if_pos h9]
 show Xf8 (incT [] keyA 1) keyA=1
 have h10:incT [] keyA 1=ctsL [(keyA,1)]:=by
  unfold incT
  rw [if_pos (by decide)]
  rfl
 have h11:sortK [keyA]=[keyA]:=List.perm_singleton.1 (Xfg [keyA])
 rw [h10]
 unfold ctsL
 rw [show ([(keyA,1)]:Cts).map (·.1)=[keyA] from rfl,h11]
 decide
instance:NatI (13:Int) 13:=⟨rfl⟩
instance nat17:NatI (17:Int) 17:=⟨rfl⟩
def Xp6 (n:Nd):Bool:=fewL n.l 8 && fewL n.wait 10 && decide (n.disk.length≤1200) && decide (n.peers.length≤20)
structure NdSmall (n:Nd):Prop where
 few:NdFew n
 l:n.l.length≤8
 wait:n.wait.length≤10
 disk:n.disk.length≤1200
 peers:n.peers.length≤20
 ql:∀ x∈n.l,x.parents.length≤1000
 qw:∀ x∈n.wait,x.parents.length≤1000
theorem Xmf {L:List Commit} {m:Nat} (h:fewL L m=true):∀ x∈L,x.parents.length≤1000:=by
 simp only [fewL,Bool.and_eq_true,decide_eq_true_eq,List.all_eq_true] at h
 intro x hx
 have:=h.2 x hx
 simp only [fewC,Bool.and_eq_true,decide_eq_true_eq] at this
 omega
theorem Xjr {n:Nd} (h:Xp6 n=true):NdSmall n:=by
 simp only [Xp6,Bool.and_eq_true,decide_eq_true_eq] at h
 obtain ⟨⟨⟨h1,h2⟩,h3⟩,h4⟩:=h
 obtain ⟨a1,a2⟩:=Xhk h1
 obtain ⟨b1,b2⟩:=Xhk h2
 exact ⟨⟨a2,b2,by omega,by omega,by omega⟩,a1,b1,h3,h4,Xmf h1,Xmf h2⟩
theorem Xte (n:Nd) (y:Na) (h2:(sl y.l y.lk n.l).holds F w) (h3:(sl y.w y.wk n.wait).holds F w) (hd:n.disk.length < 9223372036854775807) (hp:n.peers.length < 9223372036854775807) :
  GivesV prog 20 [ndV n y] w F (.bool (Xp6 n)):=by
 obtain ⟨no,disk,room,l,wait,seq,up,peers,next,miss⟩:=n
 obtain ⟨ad,kd,al,kl,aw,kw,ap,kp⟩:=y
 dsimp only [ndV,ndC] at *
 refine Xaa func20 rfl ntmps20 rfl rfl [.st (sl al kl l), .st (sl aw kw wait)] (.start2 h2 h3) ?_
 repeat (first|refine Wa ?_|refine Wb ?_|refine Wc ?_|refine Wd ?_|refine We rfl ?_|refine Wf (by first|exact Va|exact Vb|exact Vc|exact Vd|exact Ve|exact Vf|exact Vg|exact Vh|exact Vi|exact Vj|exact Vk (by omega)|exact Vl|exact Vm|exact Vn|exact Vo|exact Vp|exact Vq|exact Vr|exact Vs (by omega)|exact Vt (by omega)|exact Vu (by omega)|exact Vv (by omega)|exact Vw|exact Vx|exact Vy|exact Vz|exact VA|exact VB|exact VC|exact VD|exact VE|exact VF) rfl ?_|(refine Wg rfl ?_; intro _)|(refine Wh rfl ?_; intro _)|refine Wi ?_|refine Wj ?_|refine Wk ?_|refine Wl ?_|refine Wm ?_|refine Wn ?_|refine Wo ?_|refine Wp ?_|refine Wq rfl ?_|refine Wr ?_|refine Ws ?_|refine Wt ?_|refine Wu ?_|refine Wv rfl rfl ?_|(refine Ww rfl ⟨rfl,by decide,by decide,by decide⟩ ?_; intro _))
 refine JR.callV rfl (fun w1 hw=>Xsj w1 _ al kl l 8 hw.get) ?_
 repeat (first|refine Wa ?_|refine Wb ?_|refine Wc ?_|refine Wd ?_|refine We rfl ?_|refine Wf (by first|exact Va|exact Vb|exact Vc|exact Vd|exact Ve|exact Vf|exact Vg|exact Vh|exact Vi|exact Vj|exact Vk (by omega)|exact Vl|exact Vm|exact Vn|exact Vo|exact Vp|exact Vq|exact Vr|exact Vs (by omega)|exact Vt (by omega)|exact Vu (by omega)|exact Vv (by omega)|exact Vw|exact Vx|exact Vy|exact Vz|exact VA|exact VB|exact VC|exact VD|exact VE|exact VF) rfl ?_|(refine Wg rfl ?_; intro _)|(refine Wh rfl ?_; intro _)|refine Wi ?_|refine Wj ?_|refine Wk ?_|refine Wl ?_|refine Wm ?_|refine Wn ?_|refine Wo ?_|refine Wp ?_|refine Wq rfl ?_|refine Wr ?_|refine Ws ?_|refine Wt ?_|refine Wu ?_|refine Wv rfl rfl ?_|(refine Ww rfl ⟨rfl,by decide,by decide,by decide⟩ ?_; intro _))
 refine JR.callV rfl (fun w1 hw=>Xsj w1 _ aw kw wait 10 hw.get) ?_
 cases hf1:fewL l 8 with
 | false =>
  repeat (first|refine Wa ?_|refine Wb ?_|refine Wc ?_|refine Wd ?_|refine We rfl ?_|refine Wf (by first|exact Va|exact Vb|exact Vc|exact Vd|exact Ve|exact Vf|exact Vg|exact Vh|exact Vi|exact Vj|exact Vk (by omega)|exact Vl|exact Vm|exact Vn|exact Vo|exact Vp|exact Vq|exact Vr|exact Vs (by omega)|exact Vt (by omega)|exact Vu (by omega)|exact Vv (by omega)|exact Vw|exact Vx|exact Vy|exact Vz|exact VA|exact VB|exact VC|exact VD|exact VE|exact VF) rfl ?_|(refine Wg rfl ?_; intro _)|(refine Wh rfl ?_; intro _)|refine Wi ?_|refine Wj ?_|refine Wk ?_|refine Wl ?_|refine Wm ?_|refine Wn ?_|refine Wo ?_|refine Wp ?_|refine Wq rfl ?_|refine Wr ?_|refine Ws ?_|refine Wt ?_|refine Wu ?_|refine Wv rfl rfl ?_|(refine Ww rfl ⟨rfl,by decide,by decide,by decide⟩ ?_; intro _)|refine Wx rfl rfl ?_)
  refine Xac () ?_
  simp only [Xad]
  unfold Xp6; rw [hf1]; rfl
 | true =>
 cases hf2:fewL wait 10 with
 | false =>
  repeat (first|refine Wa ?_|refine Wb ?_|refine Wc ?_|refine Wd ?_|refine We rfl ?_|refine Wf (by first|exact Va|exact Vb|exact Vc|exact Vd|exact Ve|exact Vf|exact Vg|exact Vh|exact Vi|exact Vj|exact Vk (by omega)|exact Vl|exact Vm|exact Vn|exact Vo|exact Vp|exact Vq|exact Vr|exact Vs (by omega)|exact Vt (by omega)|exact Vu (by omega)|exact Vv (by omega)|exact Vw|exact Vx|exact Vy|exact Vz|exact VA|exact VB|exact VC|exact VD|exact VE|exact VF) rfl ?_|(refine Wg rfl ?_; intro _)|(refine Wh rfl ?_; intro _)|refine Wi ?_|refine Wj ?_|refine Wk ?_|refine Wl ?_|refine Wm ?_|refine Wn ?_|refine Wo ?_|refine Wp ?_|refine Wq rfl ?_|refine Wr ?_|refine Ws ?_|refine Wt ?_|refine Wu ?_|refine Wv rfl rfl ?_|(refine Ww rfl ⟨rfl,by decide,by decide,by decide⟩ ?_; intro _)|refine Wx rfl rfl ?_)
  refine Xac () ?_
  simp only [Xad]
  unfold Xp6; rw [hf1,hf2]; rfl
 | true =>
 repeat (first|refine Wa ?_|refine Wb ?_|refine Wc ?_|refine Wd ?_|refine We rfl ?_|refine Wf (by first|exact Va|exact Vb|exact Vc|exact Vd|exact Ve|exact Vf|exact Vg|exact Vh|exact Vi|exact Vj|exact Vk (by omega)|exact Vl|exact Vm|exact Vn|exact Vo|exact Vp|exact Vq|exact Vr|exact Vs (by omega)|exact Vt (by omega)|exact Vu (by omega)|exact Vv (by omega)|exact Vw|exact Vx|exact Vy|exact Vz|exact VA|exact VB|exact VC|exact VD|exact VE|exact VF) rfl ?_|(refine Wg rfl ?_; intro _)|(refine Wh rfl ?_; intro _)|refine Wi ?_|refine Wj ?_|refine Wk ?_|refine Wl ?_|refine Wm ?_|refine Wn ?_|refine Wo ?_|refine Wp ?_|refine Wq rfl ?_|refine Wr ?_|refine Ws ?_|refine Wt ?_|refine Wu ?_|refine Wv rfl rfl ?_|(refine Ww rfl ⟨rfl,by decide,by decide,by decide⟩ ?_; intro _)|refine Wx rfl rfl ?_)
 refine JO.test 21 (fun h4=>?_) (fun h4=>?_)
 ·have h4':disk.length≤1200:=by omega
  repeat (first|refine Wa ?_|refine Wb ?_|refine Wc ?_|refine Wd ?_|refine We rfl ?_|refine Wf (by first|exact Va|exact Vb|exact Vc|exact Vd|exact Ve|exact Vf|exact Vg|exact Vh|exact Vi|exact Vj|exact Vk (by omega)|exact Vl|exact Vm|exact Vn|exact Vo|exact Vp|exact Vq|exact Vr|exact Vs (by omega)|exact Vt (by omega)|exact Vu (by omega)|exact Vv (by omega)|exact Vw|exact Vx|exact Vy|exact Vz|exact VA|exact VB|exact VC|exact VD|exact VE|exact VF) rfl ?_|(refine Wg rfl ?_; intro _)|(refine Wh rfl ?_; intro _)|refine Wi ?_|refine Wj ?_|refine Wk ?_|refine Wl ?_|refine Wm ?_|refine Wn ?_|refine Wo ?_|refine Wp ?_|refine Wq rfl ?_|refine Wr ?_|refine Ws ?_|refine Wt ?_|refine Wu ?_|refine Wv rfl rfl ?_|(refine Ww rfl ⟨rfl,by decide,by decide,by decide⟩ ?_; intro _)|refine Wx rfl rfl ?_)
  refine Xac () ?_
  simp only [Xad]
  unfold Xp6
  rw [hf1,hf2,decide_eq_true h4']
  congr 1
  exact decide_eq_decide.2 (by show _↔peers.length≤20; omega)
 ·have h4':¬ disk.length≤1200:=by omega
  repeat (first|refine Wa ?_|refine Wb ?_|refine Wc ?_|refine Wd ?_|refine We rfl ?_|refine Wf (by first|exact Va|exact Vb|exact Vc|exact Vd|exact Ve|exact Vf|exact Vg|exact Vh|exact Vi|exact Vj|exact Vk (by omega)|exact Vl|exact Vm|exact Vn|exact Vo|exact Vp|exact Vq|exact Vr|exact Vs (by omega)|exact Vt (by omega)|exact Vu (by omega)|exact Vv (by omega)|exact Vw|exact Vx|exact Vy|exact Vz|exact VA|exact VB|exact VC|exact VD|exact VE|exact VF) rfl ?_|(refine Wg rfl ?_; intro _)|(refine Wh rfl ?_; intro _)|refine Wi ?_|refine Wj ?_|refine Wk ?_|refine Wl ?_|refine Wm ?_|refine Wn ?_|refine Wo ?_|refine Wp ?_|refine Wq rfl ?_|refine Wr ?_|refine Ws ?_|refine Wt ?_|refine Wu ?_|refine Wv rfl rfl ?_|(refine Ww rfl ⟨rfl,by decide,by decide,by decide⟩ ?_; intro _)|refine Wx rfl rfl ?_)
  refine Xac () ?_
  simp only [Xad]
  unfold Xp6
  rw [hf1,hf2,decide_eq_false h4']; rfl
theorem Xv1 (n:Nd) (y y':Na) (h1:(sl y.d y.dk n.disk).holds F w) (h2:(sl y.l y.lk n.l).holds F w) (h3:(sl y.w y.wk n.wait).holds F w) (h4:(sl y.p y.pk n.peers).holds F w)
  (k1:(sl y'.d y'.dk n.disk).holds F w) (k2:(sl y'.l y'.lk n.l).holds F w) (k3:(sl y'.w y'.wk n.wait).holds F w) (k4:(sl y'.p y'.pk n.peers).holds F w) :
  GivesV prog 21 [ndV n y,ndV n y'] w F (.bool true):=by
 have hpl:n.peers.length < 9223372036854775807:=by have:=h4.2.2.1; simp only [lim] at this; omega
 have hst:=(Hold.start4 h1 h2 h3 h4)
 have hst:=hst.add (Asn.mono _ _ _ _ (fun k hk=>⟨.inl hk,by simp [free,Fact.owns]⟩) k1)
 have hst:=hst.add (Asn.mono _ _ _ _ (fun k hk=>⟨.inl hk,by simp [free,Fact.owns]⟩) k2)
 have hst:=hst.add (Asn.mono _ _ _ _ (fun k hk=>⟨.inl hk,by simp [free,Fact.owns]⟩) k3)
 have hst:=hst.add (Asn.mono _ _ _ _ (fun k hk=>⟨.inl hk,by simp [free,Fact.owns]⟩) k4)
 obtain ⟨no,disk,room,l,wait,seq,up,peers,next,miss⟩:=n
 obtain ⟨ad,kd,al,kl,aw,kw,ap,kp⟩:=y
 obtain ⟨ad2,kd2,al2,kl2,aw2,kw2,ap2,kp2⟩:=y'
 dsimp only [ndV,ndC] at *
 refine Xaa func21 rfl ntmps21 rfl rfl _ hst ?_
 repeat (first|refine Wa ?_|refine Wb ?_|refine Wc ?_|refine Wd ?_|refine We rfl ?_|refine Wf (by first|exact Va|exact Vb|exact Vc|exact Vd|exact Ve|exact Vf|exact Vg|exact Vh|exact Vi|exact Vj|exact Vk (by omega)|exact Vl|exact Vm|exact Vn|exact Vo|exact Vp|exact Vq|exact Vr|exact Vs (by omega)|exact Vt (by omega)|exact Vu (by omega)|exact Vv (by omega)|exact Vw|exact Vx|exact Vy|exact Vz|exact VA|exact VB|exact VC|exact VD|exact VE|exact VF) rfl ?_|(refine Wg rfl ?_; intro _)|(refine Wh rfl ?_; intro _)|refine Wi ?_|refine Wj ?_|refine Wk ?_|refine Wl ?_|refine Wm ?_|refine Wn ?_|refine Wo ?_|refine Wp ?_|refine Wq rfl ?_|refine Wr ?_|refine Ws ?_|refine Wt ?_|refine Wu ?_|refine Wv rfl rfl ?_|(refine Ww rfl ⟨rfl,by decide,by decide,by decide⟩ ?_; intro _))
 rename_i b2 b3
 refine JR.callV rfl (fun w1 hw=>Xm8 w1 _ al al2 kl kl2 l l hw.get hw.get) ?_
 refine JO.reslot 12 (.bool true) (by simp) ?_
 repeat (first|refine Wa ?_|refine Wb ?_|refine Wc ?_|refine Wd ?_|refine We rfl ?_|refine Wf (by first|exact Va|exact Vb|exact Vc|exact Vd|exact Ve|exact Vf|exact Vg|exact Vh|exact Vi|exact Vj|exact Vk (by omega)|exact Vl|exact Vm|exact Vn|exact Vo|exact Vp|exact Vq|exact Vr|exact Vs (by omega)|exact Vt (by omega)|exact Vu (by omega)|exact Vv (by omega)|exact Vw|exact Vx|exact Vy|exact Vz|exact VA|exact VB|exact VC|exact VD|exact VE|exact VF) rfl ?_|(refine Wg rfl ?_; intro _)|(refine Wh rfl ?_; intro _)|refine Wi ?_|refine Wj ?_|refine Wk ?_|refine Wl ?_|refine Wm ?_|refine Wn ?_|refine Wo ?_|refine Wp ?_|refine Wq rfl ?_|refine Wr ?_|refine Ws ?_|refine Wt ?_|refine Wu ?_|refine Wv rfl rfl ?_|(refine Ww rfl ⟨rfl,by decide,by decide,by decide⟩ ?_; intro _))
 refine JR.callV rfl (fun w1 hw=>Xm8 w1 _ aw aw2 kw kw2 wait wait hw.get hw.get) ?_
 refine JO.reslot 17 (.bool true) (by simp) ?_
 repeat (first|refine Wa ?_|refine Wb ?_|refine Wc ?_|refine Wd ?_|refine We rfl ?_|refine Wf (by first|exact Va|exact Vb|exact Vc|exact Vd|exact Ve|exact Vf|exact Vg|exact Vh|exact Vi|exact Vj|exact Vk (by omega)|exact Vl|exact Vm|exact Vn|exact Vo|exact Vp|exact Vq|exact Vr|exact Vs (by omega)|exact Vt (by omega)|exact Vu (by omega)|exact Vv (by omega)|exact Vw|exact Vx|exact Vy|exact Vz|exact VA|exact VB|exact VC|exact VD|exact VE|exact VF) rfl ?_|(refine Wg rfl ?_; intro _)|(refine Wh rfl ?_; intro _)|refine Wi ?_|refine Wj ?_|refine Wk ?_|refine Wl ?_|refine Wm ?_|refine Wn ?_|refine Wo ?_|refine Wp ?_|refine Wq rfl ?_|refine Wr ?_|refine Ws ?_|refine Wt ?_|refine Wu ?_|refine Wv rfl rfl ?_|(refine Ww rfl ⟨rfl,by decide,by decide,by decide⟩ ?_; intro _)|refine Wx rfl rfl ?_)
 refine JO.reslot 33 (.bool false) (by simp) ?_
 repeat (first|refine Wa ?_|refine Wb ?_|refine Wc ?_|refine Wd ?_|refine We rfl ?_|refine Wf (by first|exact Va|exact Vb|exact Vc|exact Vd|exact Ve|exact Vf|exact Vg|exact Vh|exact Vi|exact Vj|exact Vk (by omega)|exact Vl|exact Vm|exact Vn|exact Vo|exact Vp|exact Vq|exact Vr|exact Vs (by omega)|exact Vt (by omega)|exact Vu (by omega)|exact Vv (by omega)|exact Vw|exact Vx|exact Vy|exact Vz|exact VA|exact VB|exact VC|exact VD|exact VE|exact VF) rfl ?_|(refine Wg rfl ?_; intro _)|(refine Wh rfl ?_; intro _)|refine Wi ?_|refine Wj ?_|refine Wk ?_|refine Wl ?_|refine Wm ?_|refine Wn ?_|refine Wo ?_|refine Wp ?_|refine Wq rfl ?_|refine Wr ?_|refine Ws ?_|refine Wt ?_|refine Wu ?_|refine Wv rfl rfl ?_|(refine Ww rfl ⟨rfl,by decide,by decide,by decide⟩ ?_; intro _)|refine Wx rfl rfl ?_)
 refine Wf (Xev (L:=disk)) rfl ?_
 repeat (first|refine Wa ?_|refine Wb ?_|refine Wc ?_|refine Wd ?_|refine We rfl ?_|refine Wf (by first|exact Va|exact Vb|exact Vc|exact Vd|exact Ve|exact Vf|exact Vg|exact Vh|exact Vi|exact Vj|exact Vk (by omega)|exact Vl|exact Vm|exact Vn|exact Vo|exact Vp|exact Vq|exact Vr|exact Vs (by omega)|exact Vt (by omega)|exact Vu (by omega)|exact Vv (by omega)|exact Vw|exact Vx|exact Vy|exact Vz|exact VA|exact VB|exact VC|exact VD|exact VE|exact VF) rfl ?_|(refine Wg rfl ?_; intro _)|(refine Wh rfl ?_; intro _)|refine Wi ?_|refine Wj ?_|refine Wk ?_|refine Wl ?_|refine Wm ?_|refine Wn ?_|refine Wo ?_|refine Wp ?_|refine Wq rfl ?_|refine Wr ?_|refine Ws ?_|refine Wt ?_|refine Wu ?_|refine Wv rfl rfl ?_|(refine Ww rfl ⟨rfl,by decide,by decide,by decide⟩ ?_; intro _)|refine Wx rfl rfl ?_)
 refine Wf (Xev (L:=disk)) rfl ?_
 repeat (first|refine Wa ?_|refine Wb ?_|refine Wc ?_|refine Wd ?_|refine We rfl ?_|refine Wf (by first|exact Va|exact Vb|exact Vc|exact Vd|exact Ve|exact Vf|exact Vg|exact Vh|exact Vi|exact Vj|exact Vk (by omega)|exact Vl|exact Vm|exact Vn|exact Vo|exact Vp|exact Vq|exact Vr|exact Vs (by omega)|exact Vt (by omega)|exact Vu (by omega)|exact Vv (by omega)|exact Vw|exact Vx|exact Vy|exact Vz|exact VA|exact VB|exact VC|exact VD|exact VE|exact VF) rfl ?_|(refine Wg rfl ?_; intro _)|(refine Wh rfl ?_; intro _)|refine Wi ?_|refine Wj ?_|refine Wk ?_|refine Wl ?_|refine Wm ?_|refine Wn ?_|refine Wo ?_|refine Wp ?_|refine Wq rfl ?_|refine Wr ?_|refine Ws ?_|refine Wt ?_|refine Wu ?_|refine Wv rfl rfl ?_|(refine Ww rfl ⟨rfl,by decide,by decide,by decide⟩ ?_; intro _)|refine Wx rfl rfl ?_)
 refine JC.reslot 41 (.bool false) (by simp) ?_
 repeat (first|refine Wa ?_|refine Wb ?_|refine Wc ?_|refine Wd ?_|refine We rfl ?_|refine Wf (by first|exact Va|exact Vb|exact Vc|exact Vd|exact Ve|exact Vf|exact Vg|exact Vh|exact Vi|exact Vj|exact Vk (by omega)|exact Vl|exact Vm|exact Vn|exact Vo|exact Vp|exact Vq|exact Vr|exact Vs (by omega)|exact Vt (by omega)|exact Vu (by omega)|exact Vv (by omega)|exact Vw|exact Vx|exact Vy|exact Vz|exact VA|exact VB|exact VC|exact VD|exact VE|exact VF) rfl ?_|(refine Wg rfl ?_; intro _)|(refine Wh rfl ?_; intro _)|refine Wi ?_|refine Wj ?_|refine Wk ?_|refine Wl ?_|refine Wm ?_|refine Wn ?_|refine Wo ?_|refine Wp ?_|refine Wq rfl ?_|refine Wr ?_|refine Ws ?_|refine Wt ?_|refine Wu ?_|refine Wv rfl rfl ?_|(refine Ww rfl ⟨rfl,by decide,by decide,by decide⟩ ?_; intro _)|refine Wx rfl rfl ?_)
 refine Xao (fun (k:Nat)=>[(2, .pointer (some ⟨b2,0,none⟩)),(3, .pointer (some ⟨b3,0,none⟩)),(7, .int .i64 (k:Int))])
  (fun _=>[.own b3 50 [.int .i64 no, .slice ad2 disk.length kd2, .int .i64 room, .slice al2 l.length kl2, .slice aw2 wait.length kw2, .int .i64 seq, .bool up, .slice ap2 peers.length kp2, .int .i64 next, .int .i64 miss], .own b2 50 [.int .i64 no, .slice ad disk.length kd, .int .i64 room, .slice al l.length kl, .slice aw wait.length kw, .int .i64 seq, .bool up, .slice ap peers.length kp, .int .i64 next, .int .i64 miss], .st (sl ap2 kp2 peers), .st (sl ap kp peers)])
  (fun k=>k≤peers.length) (fun k=>peers.length - k) 0 (Nat.zero_le _) iI ?_
 intro k hk
 repeat (first|refine Wa ?_|refine Wb ?_|refine Wc ?_|refine Wd ?_|refine We rfl ?_|refine Wf (by first|exact Va|exact Vb|exact Vc|exact Vd|exact Ve|exact Vf|exact Vg|exact Vh|exact Vi|exact Vj|exact Vk (by omega)|exact Vl|exact Vm|exact Vn|exact Vo|exact Vp|exact Vq|exact Vr|exact Vs (by omega)|exact Vt (by omega)|exact Vu (by omega)|exact Vv (by omega)|exact Vw|exact Vx|exact Vy|exact Vz|exact VA|exact VB|exact VC|exact VD|exact VE|exact VF) rfl ?_|(refine Wg rfl ?_; intro _)|(refine Wh rfl ?_; intro _)|refine Wi ?_|refine Wj ?_|refine Wk ?_|refine Wl ?_|refine Wm ?_|refine Wn ?_|refine Wo ?_|refine Wp ?_|refine Wq rfl ?_|refine Wr ?_|refine Ws ?_|refine Wt ?_|refine Wu ?_|refine Wv rfl rfl ?_|(refine Ww rfl ⟨rfl,by decide,by decide,by decide⟩ ?_; intro _)|refine Wx rfl rfl ?_)
 refine JC.test (fun hlt=>?_) (fun hge=>?_)
 ·have hlt':k < peers.length:=by omega
  repeat (first|refine Wa ?_|refine Wb ?_|refine Wc ?_|refine Wd ?_|refine We rfl ?_|refine Wf (by first|exact Va|exact Vb|exact Vc|exact Vd|exact Ve|exact Vf|exact Vg|exact Vh|exact Vi|exact Vj|exact Vk (by omega)|exact Vl|exact Vm|exact Vn|exact Vo|exact Vp|exact Vq|exact Vr|exact Vs (by omega)|exact Vt (by omega)|exact Vu (by omega)|exact Vv (by omega)|exact Vw|exact Vx|exact Vy|exact Vz|exact VA|exact VB|exact VC|exact VD|exact VE|exact VF) rfl ?_|(refine Wg rfl ?_; intro _)|(refine Wh rfl ?_; intro _)|refine Wi ?_|refine Wj ?_|refine Wk ?_|refine Wl ?_|refine Wm ?_|refine Wn ?_|refine Wo ?_|refine Wp ?_|refine Wq rfl ?_|refine Wr ?_|refine Ws ?_|refine Wt ?_|refine Wu ?_|refine Wv rfl rfl ?_|(refine Ww rfl ⟨rfl,by decide,by decide,by decide⟩ ?_; intro _)|refine Wx rfl rfl ?_)
  refine Xp9 (L:=peers) (.slice ap peers.length kp) k hlt' ?_
  intro b5 o5
  refine Xp9 (L:=peers) (.slice ap2 peers.length kp2) k hlt' ?_
  intro b6 o6
  refine Xbw mixed (by kernel_rfl) ?_
  repeat (first|refine Wy rfl (by first|exact Va|exact Vb|exact Vc|exact Vd|exact Ve|exact Vf|exact Vg|exact Vh|exact Vi|exact Vj|exact Vk (by omega)|exact Vl|exact Vm|exact Vn|exact Vo|exact Vp|exact Vq|exact Vr|exact Vs (by omega)|exact Vt (by omega)|exact Vu (by omega)|exact Vv (by omega)|exact Vw|exact Vx|exact Vy|exact Vz|exact VA|exact VB|exact VC|exact VD|exact VE|exact VF) rfl ?_|refine Wz rfl rfl ?_|refine WA rfl rfl ?_|refine WB ?_)
  repeat (first|refine Wa ?_|refine Wb ?_|refine Wc ?_|refine Wd ?_|refine We rfl ?_|refine Wf (by first|exact Va|exact Vb|exact Vc|exact Vd|exact Ve|exact Vf|exact Vg|exact Vh|exact Vi|exact Vj|exact Vk (by omega)|exact Vl|exact Vm|exact Vn|exact Vo|exact Vp|exact Vq|exact Vr|exact Vs (by omega)|exact Vt (by omega)|exact Vu (by omega)|exact Vv (by omega)|exact Vw|exact Vx|exact Vy|exact Vz|exact VA|exact VB|exact VC|exact VD|exact VE|exact VF) rfl ?_|(refine Wg rfl ?_; intro _)|(refine Wh rfl ?_; intro _)|refine Wi ?_|refine Wj ?_|refine Wk ?_|refine Wl ?_|refine Wm ?_|refine Wn ?_|refine Wo ?_|refine Wp ?_|refine Wq rfl ?_|refine Wr ?_|refine Ws ?_|refine Wt ?_|refine Wu ?_|refine Wv rfl rfl ?_|(refine Ww rfl ⟨rfl,by decide,by decide,by decide⟩ ?_; intro _)|refine Wx rfl rfl ?_)
  refine JC.reslot 59 (.bool false) (by simp) ?_
  repeat (first|refine Wa ?_|refine Wb ?_|refine Wc ?_|refine Wd ?_|refine We rfl ?_|refine Wf (by first|exact Va|exact Vb|exact Vc|exact Vd|exact Ve|exact Vf|exact Vg|exact Vh|exact Vi|exact Vj|exact Vk (by omega)|exact Vl|exact Vm|exact Vn|exact Vo|exact Vp|exact Vq|exact Vr|exact Vs (by omega)|exact Vt (by omega)|exact Vu (by omega)|exact Vv (by omega)|exact Vw|exact Vx|exact Vy|exact Vz|exact VA|exact VB|exact VC|exact VD|exact VE|exact VF) rfl ?_|(refine Wg rfl ?_; intro _)|(refine Wh rfl ?_; intro _)|refine Wi ?_|refine Wj ?_|refine Wk ?_|refine Wl ?_|refine Wm ?_|refine Wn ?_|refine Wo ?_|refine Wp ?_|refine Wq rfl ?_|refine Wr ?_|refine Ws ?_|refine Wt ?_|refine Wu ?_|refine Wv rfl rfl ?_|(refine Ww rfl ⟨rfl,by decide,by decide,by decide⟩ ?_; intro _)|refine Wx rfl rfl ?_)
  exact ⟨k+1,by omega,by omega,iI⟩
 ·repeat (first|refine Wa ?_|refine Wb ?_|refine Wc ?_|refine Wd ?_|refine We rfl ?_|refine Wf (by first|exact Va|exact Vb|exact Vc|exact Vd|exact Ve|exact Vf|exact Vg|exact Vh|exact Vi|exact Vj|exact Vk (by omega)|exact Vl|exact Vm|exact Vn|exact Vo|exact Vp|exact Vq|exact Vr|exact Vs (by omega)|exact Vt (by omega)|exact Vu (by omega)|exact Vv (by omega)|exact Vw|exact Vx|exact Vy|exact Vz|exact VA|exact VB|exact VC|exact VD|exact VE|exact VF) rfl ?_|(refine Wg rfl ?_; intro _)|(refine Wh rfl ?_; intro _)|refine Wi ?_|refine Wj ?_|refine Wk ?_|refine Wl ?_|refine Wm ?_|refine Wn ?_|refine Wo ?_|refine Wp ?_|refine Wq rfl ?_|refine Wr ?_|refine Ws ?_|refine Wt ?_|refine Wu ?_|refine Wv rfl rfl ?_|(refine Ww rfl ⟨rfl,by decide,by decide,by decide⟩ ?_; intro _)|refine Wx rfl rfl ?_)
  refine JO.reslot 65 (.bool true) (by simp) ?_
  repeat (first|refine Wa ?_|refine Wb ?_|refine Wc ?_|refine Wd ?_|refine We rfl ?_|refine Wf (by first|exact Va|exact Vb|exact Vc|exact Vd|exact Ve|exact Vf|exact Vg|exact Vh|exact Vi|exact Vj|exact Vk (by omega)|exact Vl|exact Vm|exact Vn|exact Vo|exact Vp|exact Vq|exact Vr|exact Vs (by omega)|exact Vt (by omega)|exact Vu (by omega)|exact Vv (by omega)|exact Vw|exact Vx|exact Vy|exact Vz|exact VA|exact VB|exact VC|exact VD|exact VE|exact VF) rfl ?_|(refine Wg rfl ?_; intro _)|(refine Wh rfl ?_; intro _)|refine Wi ?_|refine Wj ?_|refine Wk ?_|refine Wl ?_|refine Wm ?_|refine Wn ?_|refine Wo ?_|refine Wp ?_|refine Wq rfl ?_|refine Wr ?_|refine Ws ?_|refine Wt ?_|refine Wu ?_|refine Wv rfl rfl ?_|(refine Ww rfl ⟨rfl,by decide,by decide,by decide⟩ ?_; intro _)|refine Wx rfl rfl ?_)
  refine JO.reslot 72 (.bool true) (by simp) ?_
  repeat (first|refine Wa ?_|refine Wb ?_|refine Wc ?_|refine Wd ?_|refine We rfl ?_|refine Wf (by first|exact Va|exact Vb|exact Vc|exact Vd|exact Ve|exact Vf|exact Vg|exact Vh|exact Vi|exact Vj|exact Vk (by omega)|exact Vl|exact Vm|exact Vn|exact Vo|exact Vp|exact Vq|exact Vr|exact Vs (by omega)|exact Vt (by omega)|exact Vu (by omega)|exact Vv (by omega)|exact Vw|exact Vx|exact Vy|exact Vz|exact VA|exact VB|exact VC|exact VD|exact VE|exact VF) rfl ?_|(refine Wg rfl ?_; intro _)|(refine Wh rfl ?_; intro _)|refine Wi ?_|refine Wj ?_|refine Wk ?_|refine Wl ?_|refine Wm ?_|refine Wn ?_|refine Wo ?_|refine Wp ?_|refine Wq rfl ?_|refine Wr ?_|refine Ws ?_|refine Wt ?_|refine Wu ?_|refine Wv rfl rfl ?_|(refine Ww rfl ⟨rfl,by decide,by decide,by decide⟩ ?_; intro _)|refine Wx rfl rfl ?_)
  refine JO.reslot 79 (.bool true) (by simp) ?_
  repeat (first|refine Wa ?_|refine Wb ?_|refine Wc ?_|refine Wd ?_|refine We rfl ?_|refine Wf (by first|exact Va|exact Vb|exact Vc|exact Vd|exact Ve|exact Vf|exact Vg|exact Vh|exact Vi|exact Vj|exact Vk (by omega)|exact Vl|exact Vm|exact Vn|exact Vo|exact Vp|exact Vq|exact Vr|exact Vs (by omega)|exact Vt (by omega)|exact Vu (by omega)|exact Vv (by omega)|exact Vw|exact Vx|exact Vy|exact Vz|exact VA|exact VB|exact VC|exact VD|exact VE|exact VF) rfl ?_|(refine Wg rfl ?_; intro _)|(refine Wh rfl ?_; intro _)|refine Wi ?_|refine Wj ?_|refine Wk ?_|refine Wl ?_|refine Wm ?_|refine Wn ?_|refine Wo ?_|refine Wp ?_|refine Wq rfl ?_|refine Wr ?_|refine Ws ?_|refine Wt ?_|refine Wu ?_|refine Wv rfl rfl ?_|(refine Ww rfl ⟨rfl,by decide,by decide,by decide⟩ ?_; intro _)|refine Wx rfl rfl ?_)
  refine JO.reslot 86 (.bool true) (by simp) ?_
  repeat (first|refine Wa ?_|refine Wb ?_|refine Wc ?_|refine Wd ?_|refine We rfl ?_|refine Wf (by first|exact Va|exact Vb|exact Vc|exact Vd|exact Ve|exact Vf|exact Vg|exact Vh|exact Vi|exact Vj|exact Vk (by omega)|exact Vl|exact Vm|exact Vn|exact Vo|exact Vp|exact Vq|exact Vr|exact Vs (by omega)|exact Vt (by omega)|exact Vu (by omega)|exact Vv (by omega)|exact Vw|exact Vx|exact Vy|exact Vz|exact VA|exact VB|exact VC|exact VD|exact VE|exact VF) rfl ?_|(refine Wg rfl ?_; intro _)|(refine Wh rfl ?_; intro _)|refine Wi ?_|refine Wj ?_|refine Wk ?_|refine Wl ?_|refine Wm ?_|refine Wn ?_|refine Wo ?_|refine Wp ?_|refine Wq rfl ?_|refine Wr ?_|refine Ws ?_|refine Wt ?_|refine Wu ?_|refine Wv rfl rfl ?_|(refine Ww rfl ⟨rfl,by decide,by decide,by decide⟩ ?_; intro _)|refine Wx rfl rfl ?_)
  refine JO.reslot 93 (.bool true) (by simp) ?_
  repeat (first|refine Wa ?_|refine Wb ?_|refine Wc ?_|refine Wd ?_|refine We rfl ?_|refine Wf (by first|exact Va|exact Vb|exact Vc|exact Vd|exact Ve|exact Vf|exact Vg|exact Vh|exact Vi|exact Vj|exact Vk (by omega)|exact Vl|exact Vm|exact Vn|exact Vo|exact Vp|exact Vq|exact Vr|exact Vs (by omega)|exact Vt (by omega)|exact Vu (by omega)|exact Vv (by omega)|exact Vw|exact Vx|exact Vy|exact Vz|exact VA|exact VB|exact VC|exact VD|exact VE|exact VF) rfl ?_|(refine Wg rfl ?_; intro _)|(refine Wh rfl ?_; intro _)|refine Wi ?_|refine Wj ?_|refine Wk ?_|refine Wl ?_|refine Wm ?_|refine Wn ?_|refine Wo ?_|refine Wp ?_|refine Wq rfl ?_|refine Wr ?_|refine Ws ?_|refine Wt ?_|refine Wu ?_|refine Wv rfl rfl ?_|(refine Ww rfl ⟨rfl,by decide,by decide,by decide⟩ ?_; intro _)|refine Wx rfl rfl ?_)
  refine Xac () ?_
  simp only [Xad]
  simp
theorem Xtf (n:Int):GivesV prog 66 [.int .i64 n] w F (.agg ⟨[.int .i64 (incA n).kind, .string (incA n).key, .string (incA n).elem, .int .i64 (incA n).n]⟩):=by
 refine Xaa func66 rfl ntmps66 rfl rfl [] (.start w F) ?_
 repeat (first|refine Wa ?_|refine Wb ?_|refine Wc ?_|refine Wd ?_|refine We rfl ?_|refine Wf (by first|exact Va|exact Vb|exact Vc|exact Vd|exact Ve|exact Vf|exact Vg|exact Vh|exact Vi|exact Vj|exact Vk (by omega)|exact Vl|exact Vm|exact Vn|exact Vo|exact Vp|exact Vq|exact Vr|exact Vs (by omega)|exact Vt (by omega)|exact Vu (by omega)|exact Vv (by omega)|exact Vw|exact Vx|exact Vy|exact Vz|exact VA|exact VB|exact VC|exact VD|exact VE|exact VF) rfl ?_|(refine Wg rfl ?_; intro _)|(refine Wh rfl ?_; intro _)|refine Wi ?_|refine Wj ?_|refine Wk ?_|refine Wl ?_|refine Wm ?_|refine Wn ?_|refine Wo ?_|refine Wp ?_|refine Wq rfl ?_|refine Wr ?_|refine Ws ?_|refine Wt ?_|refine Wu ?_|refine Wv rfl rfl ?_|(refine Ww rfl ⟨rfl,by decide,by decide,by decide⟩ ?_; intro _))
 refine Wf (OpV.build [.int .i64 0, .string keyA, .string .empty, .int .i64 n] (by kernel_rfl)) rfl ?_
 repeat (first|refine Wa ?_|refine Wb ?_|refine Wc ?_|refine Wd ?_|refine We rfl ?_|refine Wf (by first|exact Va|exact Vb|exact Vc|exact Vd|exact Ve|exact Vf|exact Vg|exact Vh|exact Vi|exact Vj|exact Vk (by omega)|exact Vl|exact Vm|exact Vn|exact Vo|exact Vp|exact Vq|exact Vr|exact Vs (by omega)|exact Vt (by omega)|exact Vu (by omega)|exact Vv (by omega)|exact Vw|exact Vx|exact Vy|exact Vz|exact VA|exact VB|exact VC|exact VD|exact VE|exact VF) rfl ?_|(refine Wg rfl ?_; intro _)|(refine Wh rfl ?_; intro _)|refine Wi ?_|refine Wj ?_|refine Wk ?_|refine Wl ?_|refine Wm ?_|refine Wn ?_|refine Wo ?_|refine Wp ?_|refine Wq rfl ?_|refine Wr ?_|refine Ws ?_|refine Wt ?_|refine Wu ?_|refine Wv rfl rfl ?_|(refine Ww rfl ⟨rfl,by decide,by decide,by decide⟩ ?_; intro _))
 exact Xac () rfl
def Xmg (o:Op_):Bool:=decide (o.key.size≤100) && decide (o.elem.size≤100)
theorem Xpn (o:Op_):GivesV prog 24 [.agg ⟨[.int .i64 o.kind, .string o.key, .string o.elem, .int .i64 o.n]⟩] w F (.bool (Xmg o)):=by
 obtain ⟨kind,key,elem,m⟩:=o
 dsimp only at *
 refine Xaa func24 rfl ntmps24 rfl rfl [] (.start w F) ?_
 repeat (first|refine Wa ?_|refine Wb ?_|refine Wc ?_|refine Wd ?_|refine We rfl ?_|refine Wf (by first|exact Va|exact Vb|exact Vc|exact Vd|exact Ve|exact Vf|exact Vg|exact Vh|exact Vi|exact Vj|exact Vk (by omega)|exact Vl|exact Vm|exact Vn|exact Vo|exact Vp|exact Vq|exact Vr|exact Vs (by omega)|exact Vt (by omega)|exact Vu (by omega)|exact Vv (by omega)|exact Vw|exact Vx|exact Vy|exact Vz|exact VA|exact VB|exact VC|exact VD|exact VE|exact VF) rfl ?_|(refine Wg rfl ?_; intro _)|(refine Wh rfl ?_; intro _)|refine Wi ?_|refine Wj ?_|refine Wk ?_|refine Wl ?_|refine Wm ?_|refine Wn ?_|refine Wo ?_|refine Wp ?_|refine Wq rfl ?_|refine Wr ?_|refine Ws ?_|refine Wt ?_|refine Wu ?_|refine Wv rfl rfl ?_|(refine Ww rfl ⟨rfl,by decide,by decide,by decide⟩ ?_; intro _)|refine Wx rfl rfl ?_)
 refine JO.test 7 (fun h4=>?_) (fun h4=>?_)
 ·have h4':key.size≤100:=by omega
  repeat (first|refine Wa ?_|refine Wb ?_|refine Wc ?_|refine Wd ?_|refine We rfl ?_|refine Wf (by first|exact Va|exact Vb|exact Vc|exact Vd|exact Ve|exact Vf|exact Vg|exact Vh|exact Vi|exact Vj|exact Vk (by omega)|exact Vl|exact Vm|exact Vn|exact Vo|exact Vp|exact Vq|exact Vr|exact Vs (by omega)|exact Vt (by omega)|exact Vu (by omega)|exact Vv (by omega)|exact Vw|exact Vx|exact Vy|exact Vz|exact VA|exact VB|exact VC|exact VD|exact VE|exact VF) rfl ?_|(refine Wg rfl ?_; intro _)|(refine Wh rfl ?_; intro _)|refine Wi ?_|refine Wj ?_|refine Wk ?_|refine Wl ?_|refine Wm ?_|refine Wn ?_|refine Wo ?_|refine Wp ?_|refine Wq rfl ?_|refine Wr ?_|refine Ws ?_|refine Wt ?_|refine Wu ?_|refine Wv rfl rfl ?_|(refine Ww rfl ⟨rfl,by decide,by decide,by decide⟩ ?_; intro _)|refine Wx rfl rfl ?_)
  refine Xac () ?_
  simp only [Xad]
  unfold Xmg
  rw [decide_eq_true h4']
  congr 1
  exact decide_eq_decide.2 (by show _↔elem.size≤100; omega)
 ·have h4':¬ key.size≤100:=by omega
  repeat (first|refine Wa ?_|refine Wb ?_|refine Wc ?_|refine Wd ?_|refine We rfl ?_|refine Wf (by first|exact Va|exact Vb|exact Vc|exact Vd|exact Ve|exact Vf|exact Vg|exact Vh|exact Vi|exact Vj|exact Vk (by omega)|exact Vl|exact Vm|exact Vn|exact Vo|exact Vp|exact Vq|exact Vr|exact Vs (by omega)|exact Vt (by omega)|exact Vu (by omega)|exact Vv (by omega)|exact Vw|exact Vx|exact Vy|exact Vz|exact VA|exact VB|exact VC|exact VD|exact VE|exact VF) rfl ?_|(refine Wg rfl ?_; intro _)|(refine Wh rfl ?_; intro _)|refine Wi ?_|refine Wj ?_|refine Wk ?_|refine Wl ?_|refine Wm ?_|refine Wn ?_|refine Wo ?_|refine Wp ?_|refine Wq rfl ?_|refine Wr ?_|refine Ws ?_|refine Wt ?_|refine Wu ?_|refine Wv rfl rfl ?_|(refine Ww rfl ⟨rfl,by decide,by decide,by decide⟩ ?_; intro _)|refine Wx rfl rfl ?_)
  refine Xac () ?_
  simp only [Xad]
  unfold Xmg
  rw [decide_eq_false h4']; rfl
theorem Xlv {o:Op_} (h:Xmg o=true):o.key.size < 4611686018427387904∧o.elem.size < 4611686018427387904:=by
 simp only [Xmg,Bool.and_eq_true,decide_eq_true_eq] at h
 omega
end
end
end Ab
end Go.Proofs.YtllddbbldmoibaaGreat
