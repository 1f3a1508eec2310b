/- Lemmas for the walks, part 5 of 6: PairC, PairD, EsA, EsB, EsC, EsD, EvA, RefA, RefB, RefC, RefD, RefE, RefF, RefG, RefH, RefI, RefJ, RefK, RefL, RefM, RfA, Mat, RfB, RfC, RfD, RfE, RfF, RfG, LawD, EvB, Sl3, FrA, FrB, EvC, EvD, Quad, Get, GetW, Rdr, Bytes, Dec, LogW, LogP, Scope, LogR, Dec2, Dec3, Def, ComG, LoadP, Round, RoundX, LoadI, Load, Trip, StA, StB, StC, StD, EwP, EwQ, EwR, LentS, EwS, EwT, Draw5, NewA, FrG. -/
import Derived.Test.YtllddbbldmoibaaGreatBrE4
import Derived.Test.YtllddbbldmoibaaGreatBrE2
import Derived.Test.YtllddbbldmoibaaGreatBrE3
import Derived.Test.YtllddbbldmoibaaGreatBrE1
import Derived.Laws.BytesArg
import Derived.ScopeJumps
import Derived.WideLaws
import Derived.RangeFuncLeaves
import Derived.RangeFuncCalls
import Derived.RangeFuncRecord
import Derived.RangeFuncSeq
import Derived.ControlIn
import Derived.RangeFuncIn
namespace Go.Proofs.YtllddbbldmoibaaGreat
namespace Ab
open Go Go.RowKit Tryz
set_option linter.unusedVariables false
set_option linter.unusedSimpArgs false
set_option linter.unusedSectionVars false
set_option synthInstance.maxSize 4000
set_option synthInstance.maxHeartbeats 400000
set_option maxHeartbeats 16000000
variable (w:World) (F:Nat→Prop)
section
attribute [local irreducible] JC JO JR JQ andThen inBlock OpV Gives Xae JM JS
instance:Cell (List Pair_) where
 Ix:=Option Addr × Nat
 sz:=1
 cells l y:=[.slice y.1 l.length y.2]
 facts l y:=[sl y.1 y.2 l]
 len _ _:=rfl
 one l y:=by simp [Value.oneCell']
 pos:=by decide
section
variable {P:Program} {n:Nn} {w0:World} {F:Nat→Prop} {ops:Array Oper} {i d:Nat} {t:TypeId} {pos:String} {aft:Array Edge} {g:Option (Nat × Bool)} {os:List Oper} {Q:Cont} {e:E} {Γ:List Fact}
theorem Xk6 [Dr] {x ix:Operand} {v:Value} {L:List (List Pair_)} {kk:IntKind} {j:Int} {k:Nat} {ty el:TypeId} {sz by_ eb:Nat} {z ez:Value} {ed:TypeDesc}
  [hx:Ev e x v] [hL:HasSl Γ v (List Pair_) iI L] [hi:Ev e ix (.int kk j)] [hk:NatI j k] [hT:Ty P ty (.slice el) sz by_ z] [hE:Ty P el ed 1 eb ez] (hd:Nat.blt d n.s=true) (h:k < L.length)
  (K:∀ b o p q,JO P n w0 F ops (i+1) os Q ((d, .pointer (some ⟨b,o,none⟩))::e) (.st (ro b o [.slice p (L[k]'h).length q])::.st (sl p q (L[k]'h))::Γ)) :
  JR P n w0 F ops i ⟨some d, .indexAddr ty x ix,t,pos,aft,g⟩ os Q e Γ:=JR.index hd rfl h fun b o (y:Option Addr × Nat)=>K b o y.1 y.2
end
theorem Xzg (k:Nat) (hk:k≤1048576):GivesBuf prog 313 [.slice none 0 0, .int .i64 (k:Int)] w F 77 ([]:List Pair_):=by
 refine Xaa func313 rfl ntmps313 rfl rfl [] (.start w F) ?_
 refine wz2 ?_
 refine Wf OpV.cap rfl ?_
 refine wA ?_
 refine JC.reslot 1 (.int .i64 (k:Int)) (by first | rfl | (congr 1 <;> omega)) ?_
 refine JC.test (fun hlt=>?_) (fun hge=>?_)
 ·refine wz14 ?_
  refine Wf OpV.cap rfl ?_
  refine We rfl ?_
  refine Wf (Xbb (k:=0) (fun _ _=>Nat.zero_le _)) rfl ?_
  refine wz6 ?_
  refine Xep (α:=Pair_) (k:=k) rfl (by exact ⟨rfl,rfl,by decide⟩) ⟨by omega,by omega⟩ ?_
  intro b c hc
  refine wz4 ?_
  refine Wf (Xbb (k:=0) (fun _ _=>Nat.zero_le _)) rfl ?_
  refine wz10 ?_
  exact Xab (some ⟨b,0,none⟩,c) rfl
 ·refine JC.buf_nil (α:=Pair_) 77 ?_
  refine wz1 ?_
  exact Xab (none,0) rfl
theorem Xt9 (a:Option Addr) (c:Nat) (ls:List (List Pair_)) (h:(sl a c ls).holds F w) (hl:ls.flatten.length≤1048576) (hl2:ls.length≤1048576) :
  GivesBuf prog 283 [.slice a ls.length c] w F 77 ls.flatten:=by
 have hle:∀ k,(ls.take k).flatten.length≤1048576:=fun k=>by
  have h1:=congrArg (fun l=>l.flatten.length) (List.take_append_drop k ls)
  simp only [List.flatten_append,List.length_append] at h1
  omega
 have hnext:∀ k (hk:k < ls.length),(ls.take (k+1)).flatten=(ls.take k).flatten++ls[k]:=fun k hk=>by
  rw [List.take_succ_eq_append_getElem hk,List.flatten_append]; simp
 refine Xaa func283 rfl ntmps283 rfl rfl [.st (sl a c ls)] (.start1 h) ?_
 refine wz4 ?_
 refine JC.reslot 3 (.int .i64 (((ls.take 0).flatten.length:Nat):Int)) rfl ?_
 refine Xaj (fun k:Nat=>[(0, .slice a ls.length c),(3, .int .i64 ((ls.take k).flatten.length:Int)),(9, .slice a ls.length c),(10, .int .i64 (ls.length:Int)),(11, .int .i64 (k:Int))]) (fun k=>[.st (sl a c ls)])
  (fun k=>k≤ls.length) (fun k=>ls.length - k) 0 (Nat.zero_le _) iI ?_
 intro k hk
 refine wz11 ?_
 refine JC.test (fun hlt=>?_) (fun hge=>?_)
 ·have hlt':k < ls.length:=by omega
  have h1:=hle (k+1)
  have h2:=hnext k hlt'
  have h3:(ls.take (k+1)).flatten.length=(ls.take k).flatten.length+(ls[k]).length:=by rw [h2,List.length_append]
  refine wz14 ?_
  refine Xk6 rfl hlt' ?_
  intro b o p q
  refine wA ?_
  exact ⟨k+1,by omega,by omega,by rw [h3]; infer_instance⟩
 ·obtain rfl:k=ls.length:=by omega
  rw [List.take_length]
  refine wz3 ?_
  refine JR.callBuf rfl (fun w1 hw=>Xzg w1 _ _ hl) ?_
  intro a1 c1
  refine wz4 ?_
  refine Xcg (fun (k:Nat) p q=>[(6, .slice p (ls.take k).flatten.length q),(25, .slice a ls.length c),(26, .int .i64 (ls.length:Int)),(27, .int .i64 (k:Int))]) (fun k p q=>[.st (sl a c ls), .res (buf p q 77 (ls.take k).flatten)])
   (fun k _ _=>k≤ls.length) (fun k _ _=>ls.length - k) 0 a1 c1 (Nat.zero_le _) (by rw [List.take_zero,List.flatten_nil]; infer_instance) ?_
  intro k p q hk
  refine wz11 ?_
  refine JC.test (fun hlt=>?_) (fun hge=>?_)
  ·have hlt':k < ls.length:=by omega
   have h1:=hle (k+1)
   have h2:=hnext k hlt'
   have h3:(ls.take (k+1)).flatten.length=(ls.take k).flatten.length+(ls[k]).length:=by rw [h2,List.length_append]
   refine wz14 ?_
   refine Xk6 rfl hlt' ?_
   intro b o p2 q2
   refine wz9 ?_
   refine Xbq rfl (by exact ⟨rfl,rfl,by decide⟩) (by omega) ?_
   intro p3 q3
   refine wz2 ?_
   exact ⟨k+1,p3,q3,by omega,by omega,by rw [h2]; infer_instance⟩
  ·obtain rfl:k=ls.length:=by omega
   rw [List.take_length]
   refine wz3 ?_
   exact Xab (p,q) rfl
theorem Xjn (b:Nat) (L:List Pair_) (c:Pair_) (x:Bool) (hx:x=decide (c∈L)) (hn:L.Nodup) (h:(rmap b (ents Xbd (cntM (Xav L))) (cntM (Xav L)).length).holds F w) :
  GivesV prog 284 [.map (some b), .agg ⟨Xcc c⟩] w F (.bool x):=by
 refine Xaa func284 rfl ntmps284 rfl rfl [.st (rmap b (ents Xbd (cntM (Xav L))) (cntM (Xav L)).length)] (.start1 h) ?_
 have hg:=Xt5 L c
 obtain ⟨M,hM⟩:∃ M,M=Xav L:=⟨_,rfl⟩
 have hnd:(M.map (·.1)).Nodup:=by rw [hM,Xe2]; exact hn
 rw [← hM] at hg ⊢
 (repeat (refine wE ?_; intro _)); refine wA ?_
 refine Wf (Xay (M:=cntM M) (v:=.int .i64 (Xei M c)) c (by rw [Xdl]; exact hnd) (Xde _ _)) rfl ?_
 refine wz5 ?_
 refine Xab () ?_
 simp only [Xaf]
 congr 1
 rw [hx,hg]
 by_cases hc:c∈L <;> simp [hc]
theorem Xua {S K:List Pair_} (hn:S.Nodup) (h:∀ k∈S,k∈K):S.length≤K.length:=hn.length_le_of_subset h
theorem Xq6 (p1 p2 p3:Option Addr) (k1 k2 k3:Nat) (B L N:List Pair_) (h1:(sl p1 k1 B).holds F w) (h2:(sl p2 k2 L).holds F w) (h3:(sl p3 k3 N).holds F w)
  (hs1:∀ c∈B,Xhm c) (hs2:∀ c∈L,Xhm c) (hs3:∀ c∈N,Xhm c) (hl:L.length+N.length≤1048576) :
  GivesBuf prog 233 [.slice p1 B.length k1, .slice p2 L.length k2, .slice p3 N.length k3] w F 77 (Xea B L N):=by
 refine Xaa func233 rfl ntmps233 rfl rfl [.st (sl p1 k1 B), .st (sl p2 k2 L), .st (sl p3 k3 N)] (.start3 h1 h2 h3) ?_
 refine wz10 ?_
 refine JR.callV rfl (fun w1 hw=>Xfg w1 _ p1 k1 B hw.get hs1) ?_
 cases m1:Xbn B with
 | false =>
  rw [show Xea B L N=[] from if_neg (by rw [m1]; exact Bool.false_ne_true)]
  refine wz8 ?_
  exact CT.done (none,0) rfl (fun w ho=>ho.bufNil)
 | true =>
 refine wz7 ?_
 refine JR.callV rfl (fun w1 hw=>Xfg w1 _ p2 k2 L hw.get hs2) ?_
 cases m2:Xbn L with
 | false =>
  rw [show Xea B L N=[] from if_neg (by rw [m1,m2]; exact Bool.false_ne_true)]
  refine wz8 ?_
  exact CT.done (none,0) rfl (fun w ho=>ho.bufNil)
 | true =>
 refine wz7 ?_
 refine JR.callV rfl (fun w1 hw=>Xfg w1 _ p3 k3 N hw.get hs3) ?_
 cases m3:Xbn N with
 | false =>
  rw [show Xea B L N=[] from if_neg (by rw [m1,m2,m3]; exact Bool.false_ne_true)]
  refine wz8 ?_
  exact CT.done (none,0) rfl (fun w ho=>ho.bufNil)
 | true =>
 rw [show Xea B L N=Xfl (Xhb B L N (L++N)) from if_pos (by rw [m1,m2,m3]; rfl)]
 refine wz7 ?_
 refine JR.call (v:=fun b:Nat=>.map (some b)) rfl (fun w1 hw=>Xjm w1 _ p1 k1 B hw.get (Xa1 m1)) ?_
 intro b1
 dsimp only [List.cons_append,List.nil_append]
 refine JO.more (fun w1 ho=>ho.pubMap) ?_
 refine wz6 ?_
 refine JR.call (v:=fun b:Nat=>.map (some b)) rfl (fun w1 hw=>Xjm w1 _ p2 k2 L hw.get (Xa1 m2)) ?_
 intro b2
 dsimp only [List.cons_append,List.nil_append]
 refine JO.more (fun w1 ho=>ho.pubMap) ?_
 refine wz6 ?_
 refine JR.call (v:=fun b:Nat=>.map (some b)) rfl (fun w1 hw=>Xjm w1 _ p3 k3 N hw.get (Xa1 m3)) ?_
 intro b3
 dsimp only [List.cons_append,List.nil_append]
 refine JO.more (fun w1 ho=>ho.pubMap) ?_
 refine wz13 ?_
 refine JR.makeMap Xbd rfl ?_
 intro b4
 (repeat (refine wF ?_; intro _)); refine wX ?_
 rename_i lb
 have e:[L,N].flatten=L++N:=by simp
 refine JR.more (Γ':=.st (sl (some ⟨lb,0,none⟩) 2 [L,N])::.omap b4 (ents Xbd ([]:List (Pair_ × Value))) ([]:List (Pair_ × Value)).length::.st (rmap b1 (ents Xbd (cntM (Xav B))) (cntM (Xav B)).length)::.st (rmap b2 (ents Xbd (cntM (Xav L))) (cntM (Xav L)).length)::.st (rmap b3 (ents Xbd (cntM (Xav N))) (cntM (Xav N)).length)::[]) (fun w1 ho=>?_) ?_
 ·have h1:Hold _ _ (.own lb 36 [.slice p2 L.length k2, .slice p3 N.length k3]::.omap b4 (ents Xbd ([]:List (Pair_ × Value))) ([]:List (Pair_ × Value)).length::.st (rmap b1 (ents Xbd (cntM (Xav B))) (cntM (Xav B)).length)::.st (rmap b2 (ents Xbd (cntM (Xav L))) (cntM (Xav L)).length)::.st (rmap b3 (ents Xbd (cntM (Xav N))) (cntM (Xav N)).length)::[.st (sl p2 k2 L), .st (sl p3 k3 N)]) w1:=ho.ent
  have h2:Hold _ _ (.st (sl (some ⟨lb,0,none⟩) 2 [L,N])::.omap b4 (ents Xbd ([]:List (Pair_ × Value))) ([]:List (Pair_ × Value)).length::.st (rmap b1 (ents Xbd (cntM (Xav B))) (cntM (Xav B)).length)::.st (rmap b2 (ents Xbd (cntM (Xav L))) (cntM (Xav L)).length)::.st (rmap b3 (ents Xbd (cntM (Xav N))) (cntM (Xav N)).length)::[.st (sl p2 k2 L), .st (sl p3 k3 N)]) w1:=Hold.pubRow [(L,((p2,k2):Cell.Ix (List Pair_))),(N,((p3,k3):Cell.Ix (List Pair_)))] h1 (by simp [flat]; rfl) (by simp [Cell.facts]) (by simp)
  exact h2.ent
 refine JR.callBuf (L:=L++N) rfl (fun w1 hw=>by have:=Xt9 w1 _ (some ⟨lb,0,none⟩) 2 [L,N] hw.get (by simp; omega) (by simp); rwa [e] at this) ?_
 intro pa qa
 refine JO.more (fun w1 ho=>ho.pub) ?_
 have hCl:(L++N).length≤1048576:=by rw [List.length_append]; exact hl
 generalize L++N=C at hCl
 refine wz4 ?_
 refine Xdt (fun (i:Nat) (M:Cnt Pair_)=>[(7, .map (some b1)),(8, .map (some b2)),(9, .map (some b3)),(10, .map (some b4)),(36, .slice pa C.length qa),(37, .int .i64 (C.length:Int)),(38, .int .i64 (i:Int))])
  (fun i M=>.omap b4 (ents Xbd (cntM M)) (cntM M).length::.st (rmap b1 (ents Xbd (cntM (Xav B))) (cntM (Xav B)).length)::.st (rmap b2 (ents Xbd (cntM (Xav L))) (cntM (Xav L)).length)::.st (rmap b3 (ents Xbd (cntM (Xav N))) (cntM (Xav N)).length)::.st (sl pa qa C)::[]) (fun i M=>i≤C.length∧M.map (·.1)=Xhb B L N (C.take i)) (fun i _=>C.length - i) 0 [] ⟨Nat.zero_le _,rfl⟩ (by show Ent _ _ _ (.omap b4 (ents Xbd ([]:List (Pair_ × Value))) ([]:List (Pair_ × Value)).length::.st (rmap b1 (ents Xbd (cntM (Xav B))) (cntM (Xav B)).length)::.st (rmap b2 (ents Xbd (cntM (Xav L))) (cntM (Xav L)).length)::.st (rmap b3 (ents Xbd (cntM (Xav N))) (cntM (Xav N)).length)::.st (sl pa qa C)::[]); exact iI) ?_
 rintro i M ⟨hi,hM⟩
 have hnd:(M.map (·.1)).Nodup:=by rw [hM]; exact Xgr _ _ _ _
 refine wz11 ?_
 refine JC.test (fun hlt=>?_) (fun hge=>?_)
 ·have hlt':i < C.length:=by omega
  have hnx:Xhb B L N (C.take (i+1))=if Xqf B L N C[i] then addK (M.map (·.1)) C[i] else M.map (·.1):=by rw [hM,List.take_succ_eq_append_getElem hlt',Xsz]
  obtain ⟨c,hc⟩:∃ c,c=C[i]:=⟨_,rfl⟩
  rw [← hc] at hnx
  refine wz14 ?_
  refine Xek rfl hlt' ?_
  intro b6 o6
  rw [← hc]
  repeat (first|refine Wd ?_|refine We rfl ?_|refine Wf (by first|exact Va|exact Vb|exact Vc|exact Vd|exact Ve|exact Vf|exact Vg|exact Vh|exact Vi|exact Vj|exact Vk (by omega)|exact Vl|exact Vm|exact Vn|exact Vo|exact Vp|exact Vq|exact Vr|exact Vs (by omega)|exact Vt (by omega)|exact Vu (by omega)|exact Vv (by omega)|exact Vw|exact Vx|exact Vy|exact Vz|exact VA|exact VB|exact VC|exact VD|exact VE|exact VF) rfl ?_|(refine Wg rfl ?_; intro _)|(refine Wh rfl ?_; intro _)|refine Wi ?_|refine Wv rfl rfl ?_)
  rename_i bc
  obtain ⟨kb,hkb⟩:∃ kb,kb=Xqf B L N c:=⟨_,rfl⟩
  rw [← hkb] at hnx
  refine Wa ?_
  refine Wb ?_
  refine Xfi (fun _:Unit=>[(7, .map (some b1)),(8, .map (some b2)),(9, .map (some b3)),(10, .map (some b4)),(12, .pointer (some ⟨bc,0,none⟩)),(36, .slice pa C.length qa),(37, .int .i64 (C.length:Int)),(38, .int .i64 (i:Int)),(55, .bool kb)])
   (fun _=>.own bc 77 (Xcc c)::.omap b4 (ents Xbd (cntM M)) (cntM M).length::.st (rmap b1 (ents Xbd (cntM (Xav B))) (cntM (Xav B)).length)::.st (rmap b2 (ents Xbd (cntM (Xav L))) (cntM (Xav L)).length)::.st (rmap b3 (ents Xbd (cntM (Xav N))) (cntM (Xav N)).length)::.st (sl pa qa C)::[]) ?_ ?_
  ·unfold Xqf at hkb
   generalize hx1:decide (c∈L)=x1 at hkb
   generalize hx2:decide (c∈N)=x2 at hkb
   generalize hx3:decide (c∈B)=x3 at hkb
   refine wz9 ?_
   refine JR.callV rfl (fun w1 hw=>Xjn w1 _ b2 L c x1 hx1.symm (Xa1 m2) (hw.get (A:=rmap b2 (ents Xbd (cntM (Xav L))) (cntM (Xav L)).length))) ?_
   cases x1 with
   | false =>
    rw [Bool.false_and,Bool.false_or] at hkb
    subst hkb
    refine wz1 ?_
    refine JR.callV rfl (fun w1 hw=>Xjn w1 _ b1 B c x3 hx3.symm (Xa1 m1) (hw.get (A:=rmap b1 (ents Xbd (cntM (Xav B))) (cntM (Xav B)).length))) ?_
    refine wz7 ?_
    exact ⟨rfl,(),iI⟩
   | true =>
   refine wz6 ?_
   refine JR.callV rfl (fun w1 hw=>Xjn w1 _ b3 N c x2 hx2.symm (Xa1 m3) (hw.get (A:=rmap b3 (ents Xbd (cntM (Xav N))) (cntM (Xav N)).length))) ?_
   cases x2 with
   | true =>
    rw [Bool.true_and,Bool.true_or] at hkb
    subst hkb
    refine wz8 ?_
    exact ⟨rfl,(),iI⟩
   | false =>
   rw [Bool.true_and,Bool.false_or] at hkb
   subst hkb
   refine wz6 ?_
   refine JR.callV rfl (fun w1 hw=>Xjn w1 _ b1 B c x3 hx3.symm (Xa1 m1) (hw.get (A:=rmap b1 (ents Xbd (cntM (Xav B))) (cntM (Xav B)).length))) ?_
   refine wz7 ?_
   exact ⟨rfl,(),iI⟩
  rintro ⟨⟩
  clear hkb
  cases kb with
  | false =>
   rw [if_neg Bool.false_ne_true] at hnx
   refine wz2 ?_
   exact ⟨i+1,M,⟨by omega,hnx.symm⟩,by omega,iI⟩
  | true =>
  rw [if_pos rfl] at hnx
  obtain ⟨M2,e9⟩:∃ M2,Xds (Xb1 M c) (Xf2 M c) (IntKind.i64.wrap (Xei M c+1))=M2:=⟨_,rfl⟩
  have hM2:M2.map (·.1)=Xhb B L N (C.take (i+1)):=by rw [← e9,Xk3,Xgx,hnx]
  refine wz8 ?_
  refine JC.drawP mixed ?_
  refine Xad 0 ?_
  refine JP.tv 1 [.own bc 77 (Xcc c)] ?_
  refine JP.both 2 4 (by kernel_rfl) rfl rfl rfl rfl (Wf (Xay (M:=cntM M) (v:=.int .i64 (Xei M c)) c (by rw [Xdl]; exact hnd) (Xde _ _)) rfl (Wd (nO ?_))) (Xc0 c rfl hnd (Wd (nO ?_)))
  ·refine JP.pure 3 rfl (by kernel_rfl) rfl (fun _=>Xc1) rfl rfl ?_
   refine Xal 4 rfl rfl (Xc0 c rfl hnd (Wd (nO ?_)))
   refine Xad 5 ?_
   refine Xal 6 rfl rfl (Xb9 (M:=Xb1 M c) (Xe1 M c) (Wd (nO ?_)))
   refine JP.nil (by kernel_rfl) ?_
   rw [e9]
   refine wz2 ?_
   exact ⟨i+1,M2,⟨by omega,hM2⟩,by omega,iI⟩
  ·refine Xad 5 ?_
   refine Xal 2 rfl rfl (Wf (Xay (M:=cntM (Xb1 M c)) (v:=.int .i64 (Xei M c)) c (by rw [Xdl]; exact Xf3 hnd c) (by rw [Xde,Xgy])) rfl (Wd (nO ?_)))
   refine JP.pure 3 rfl (by kernel_rfl) rfl (fun _=>Xc1) rfl rfl ?_
   refine Xal 6 rfl rfl (Xb9 (M:=Xb1 M c) (Xe1 M c) (Wd (nO ?_)))
   refine JP.nil (by kernel_rfl) ?_
   rw [e9]
   refine wz2 ?_
   exact ⟨i+1,M2,⟨by omega,hM2⟩,by omega,iI⟩
 ·obtain rfl:i=C.length:=by omega
  rw [List.take_length] at hM
  have hMl:M.length≤34359738368:=by
   have h0:(M.map (·.1)).length≤C.length:=by
    rw [hM]; exact Xua (Xgr _ _ _ _) (fun x hx=>Xkp hx)
   rw [List.length_map] at h0
   omega
  refine JC.more (fun w1 ho=>ho.pubMap) ?_
  refine wz3 ?_
  refine JR.callBuf rfl (fun w1 hw=>Xic w1 _ b4 M hnd hMl hw.get) ?_
  intro p q
  rw [hM]
  refine wz10 ?_
  exact Xab (p,q) rfl
def X2x (P:Program) (w:World) (L:List Pair_) (fid:FuncId) (caps:List Value) (p:Pair_→Bool):Prop :=
 ∀ (w':World) (G:Nat→Prop) (x:Pair_),x∈L→Bel w.heap.size w w'→GivesV P fid (.agg ⟨Xcc x⟩::caps) w' G (.bool (p x))
theorem Xk7 (a:Option Addr) (c:Nat) (L:List Pair_) (h:(sl a c L).holds F w) (fid:FuncId) (caps:List Value) [Body prog fid] (p:Pair_→Bool) (hp:X2x prog w L fid caps p) :
  GivesV prog 180 [.slice a L.length c, .func (.func fid) ⟨[]⟩ ⟨caps⟩] w F (.int .i64 (idxV (L.findIdx? p))):=by
 have hL:L.length < 9223372036854775807:=by have:=h.2.2.1; simp only [lim] at this; omega
 refine Xaa func180 rfl ntmps180 rfl rfl [.st (sl a c L)] (.start1 h) ?_
 refine wz4 ?_
 refine Xaj (fun k:Nat=>[(0, .slice a L.length c),(1, .func (.func fid) ⟨[]⟩ ⟨caps⟩),(7, .int .i64 (L.length:Int)),(8, .int .i64 (k:Int))]) (fun _=>[.st (sl a c L)])
  (fun k=>k≤L.length∧(L.take k).findIdx? p=none) (fun k=>L.length - k) 0 ⟨Nat.zero_le _,by simp⟩ iI ?_
 intro k ⟨hk,hno⟩
 refine wz11 ?_
 refine JC.test (fun hlt=>?_) (fun hge=>?_)
 ·have hlt':k < L.length:=by omega
  have hft:=Xij p L k hlt' hno
  have hmem:=List.getElem_mem hlt'
  obtain ⟨u,hu⟩:∃ u,u=L[k]:=⟨_,rfl⟩
  rw [← hu] at hft hmem
  refine wz7 ?_
  refine Xek rfl hlt' ?_
  intro b o
  rw [← hu]
  refine wz6 ?_
  refine JR.callV rfl (fun w1 hw=>hp w1 _ u hmem hw.below) ?_
  cases hy:p u with
  | true =>
   refine wz8 ?_
   refine Xab () ?_
   rw [hft.1 hy]; rfl
  | false =>
   refine wz2 ?_
   exact ⟨k+1,⟨by omega,hft.2 hy⟩,by omega,iI⟩
 ·have hk0:k=L.length:=by omega
  refine wz3 ?_
  refine Xab () ?_
  rw [List.take_of_length_le (by omega)] at hno
  rw [hno]; rfl
theorem Xw1 (bk be:Nat) (key elem:ByteArray) (x:Pair_) (h:(ro bk 0 [.string key]).holds F w) (h':(ro be 0 [.string elem]).holds F w) :
  GivesV prog 117 [.agg ⟨Xcc x⟩, .pointer (some ⟨bk,0,none⟩), .pointer (some ⟨be,0,none⟩)] w F (.bool (Xi1 key elem x)):=by
 refine Xaa func117 rfl ntmps117 rfl rfl [.st (ro bk 0 [.string key]), .st (ro be 0 [.string elem])] (.start2 h h') ?_
 (repeat (refine wF ?_; intro _)); refine wX ?_
 by_cases hx1:x.key=key
 ·refine JO.reslot 9 (.bool true) (by congr 1; exact decide_eq_true hx1) ?_
  refine wX ?_
  refine Xab () ?_
  simp only [Xaf,Xi1,decide_eq_true hx1,Bool.true_and]
 ·refine JO.reslot 9 (.bool false) (by congr 1; exact decide_eq_false hx1) ?_
  refine wz8 ?_
  refine Xab () ?_
  simp only [Xaf,Xi1,decide_eq_false hx1,Bool.false_and]
theorem Hold.shrink {w0 w:World} {F:Nat→Prop} {Γ:List Fact} {g k el:Nat} {L:List Pair_} (m:Nat) (hm:m≤L.length) (ho:Hold w0 F (.res (buf (some ⟨g,0,none⟩) k el L)::Γ) w):Hold w0 F (.res (buf (some ⟨g,0,none⟩) k el (L.take m))::Γ) w:=by
 obtain ⟨junk,h1,h2,h3,h4,h5⟩:=ho.openC
 have hl:(L.take m).length=m:=by rw [List.length_take]; omega
 have hd:(fl Xcc (L.drop m)).length=(L.length - m) * 4:=by have:=Xc5 (cs:=Xcc) (L.drop m); rw [List.length_drop] at this; exact this
 refine h5.closeC (cs:=Xcc) (L.take m) (fl Xcc (L.drop m)++junk) (by rw [← List.append_assoc,← Xd9,List.take_append_drop]) ?_ (by omega) h3 (by omega)
 rw [hl,List.length_append,hd]
 have h1':L.length * 4+junk.length=k * 4:=h1
 show m * 4+_=k * 4
 omega
def Xgg (key elem:ByteArray) (L:List Pair_):List Pair_:=L.filter (fun p=>!Xi1 key elem p)
theorem Xsb {w0 w:World} {F:Nat→Prop} {Γ:List Fact} {bk be:Nat} {key elem:ByteArray} (L:List Pair_) (ho:Hold w0 F (.own bk 9 [.string key]::.own be 9 [.string elem]::Γ) w):X2x prog w L 117 [.pointer (some ⟨bk,0,none⟩), .pointer (some ⟨be,0,none⟩)] (Xi1 key elem):=by
 intro w' G x _ hb
 have h1:(ro bk 0 [.string key]).holds (fun _=>True) w:=Lend.ok (f:=.own bk 9 [.string key]) w0 F _ w ho (by simp)
 have h2:(ro be 0 [.string elem]).holds (fun _=>True) w:=Lend.ok (f:=.own be 9 [.string elem]) w0 F _ w ho (by simp)
 have k1:(ro bk 0 [.string key]).holds (fun _=>True) w':=Asn.mono _ _ _ _ (fun k hk=>trivial) (Asn.frame _ _ _ _ (fun k hk=>hb.block k hk.2) ((ro bk 0 [.string key]).within _ _ h1))
 have k2:(ro be 0 [.string elem]).holds (fun _=>True) w':=Asn.mono _ _ _ _ (fun k hk=>trivial) (Asn.frame _ _ _ _ (fun k hk=>hb.block k hk.2) ((ro be 0 [.string elem]).within _ _ h2))
 exact (Xw1 w' (fun _=>True) bk be key elem x k1 k2).any
theorem Xw2 {p:Pair_→Bool} {L:List Pair_} (h:L.findIdx? p=none):L.filter (fun x=>!p x)=L:=by
 rw [List.filter_eq_self]
 intro x hx
 have:=List.findIdx?_eq_none_iff.1 h x hx
 simp [this]
theorem X1w {p:Pair_→Bool} {L:List Pair_} {i:Nat} (h:L.findIdx? p=some i):i < L.length∧(L.take (i+1)).filter (fun x=>!p x)=L.take i:=by
 obtain ⟨h1,h2,h3⟩:=List.findIdx?_eq_some_iff_getElem.1 h
 refine ⟨h1,?_⟩
 rw [List.take_succ_eq_append_getElem h1,List.filter_append]
 have:(L.take i).filter (fun x=>!p x)=L.take i:=by
  rw [List.filter_eq_self]
  intro x hx
  obtain ⟨j,hj,rfl⟩:=List.getElem_of_mem hx
  rw [List.length_take] at hj
  rw [List.getElem_take]
  have:=h3 j (by omega)
  simpa using this
 rw [this]
 simp [h2]
section
variable {P:Program} {n:Nn} {w0:World} {F:Nat→Prop} {ops:Array Oper} {i d:Nat} {t:TypeId} {pos:String} {aft:Array Edge} {g:Option (Nat × Bool)} {os:List Oper} {Q:Cont} {e:E} {Γ:List Fact}
theorem Xlu [Dr] {x:Operand} {b c k o:Nat} {el:TypeId} {L:List Pair_} {fs:List Field} {by_:Nat} {z:Value} {Δ:List Fact}
  [hx:Ev e x (.pointer (some ⟨b,o,none⟩))] [hB:BufAt Γ b c el L Δ] [hT:Ty P el (.struct ⟨fs⟩) 4 by_ z] (hd:Nat.blt d n.s=true) (h:k < L.length) (ho':o=k * 4)
  (K:JO P n w0 F ops (i+1) os Q ((d, .agg ⟨Xcc (L[k]'h)⟩)::e) Γ) :
  JR P n w0 F ops i ⟨some d, .load el x,t,pos,aft,g⟩ os Q e Γ:=Xsn (α:=Pair_) (L:=L) hd rfl h ho' fun _=>K
end
theorem Xub {key elem:ByteArray} {L:List Pair_} {j:Nat} (h:j < L.length):Xgg key elem (L.take (j+1))=if Xi1 key elem L[j] then Xgg key elem (L.take j) else Xgg key elem (L.take j)++[L[j]]:=by
 unfold Xgg
 rw [List.take_succ_eq_append_getElem h,List.filter_append]
 cases hg:Xi1 key elem L[j] <;> simp [hg]
theorem Xzh {A L:List Pair_} {j:Nat} (h:A.drop j=L.drop j) (hA:j < A.length) (hL:j < L.length):A[j]=L[j]∧A.drop (j+1)=L.drop (j+1):=by
 constructor
 ·have:=congrArg (·[0]?) h
  simpa [hA,hL] using this
 ·have:=congrArg (List.drop 1) h
  simpa [List.drop_drop,Nat.add_comm] using this
theorem Xpp {w0 w:World} {F:Nat→Prop} {Γ:List Fact} {a:Option Addr} {c bk be:Nat} {key elem:ByteArray} (L:List Pair_) (ho:Hold w0 F (.res (buf a c 77 L)::.own bk 9 [.string key]::.own be 9 [.string elem]::Γ) w) :
  Calls prog 116 ⟨[.slice a L.length c, .func (.func 117) ⟨[]⟩ ⟨[.pointer (some ⟨bk,0,none⟩), .pointer (some ⟨be,0,none⟩)]⟩]⟩ w fun x w'=>∃ _:Unit,x = .returned (.slice a (Xgg key elem L).length c)∧Hold w0 F (.res (buf a c 77 (Xgg key elem L))::.own bk 9 [.string key]::.own be 9 [.string elem]::Γ) w':=by
 have hlim:L.length≤lim:=by
  obtain ⟨h0,_⟩:=ho.sat (.res (buf a c 77 L)) (by simp)
  exact h0
 have hL:L.length < 9223372036854775000:=by simp only [lim] at hlim; omega
 refine Xbu (v:=fun _:Unit=>.slice a (Xgg key elem L).length c) (B:=fun _=>.res (buf a c 77 (Xgg key elem L))::.own bk 9 [.string key]::.own be 9 [.string elem]::Γ) func116 rfl ntmps116 rfl rfl _ ho ?_
 refine wz10 ?_
 refine JR.callV (v:=.int .i64 (idxV (L.findIdx? (Xi1 key elem)))) rfl (fun w1 hw=>(Xk7 w1 (fun _=>True) a c L hw.bufSl 117 [.pointer (some ⟨bk,0,none⟩), .pointer (some ⟨be,0,none⟩)] (Xi1 key elem) (Xsb (F:=F) (w0:=w0) L (hw.tail))).any) ?_
 cases hi:L.findIdx? (Xi1 key elem) with
 | none =>
  have e1:Xgg key elem L=L:=Xw2 hi
  rw [e1]
  dsimp only [idxV]
  refine wA ?_
  exact CT.done () rfl (fun w ho=>ho)
 | some i0 =>
 obtain ⟨hi0,hf0⟩:=X1w hi
 have hne:L≠[]:=by intro h; subst h; simp at hi0
 obtain ⟨b,rfl⟩:=Xja (ho.sat (.res (buf a c 77 L)) (by simp)) hne
 dsimp only [idxV]
 refine wA ?_
 have hcap:L.length≤c:=(ho.bufSl (a:=some ⟨b,0,none⟩) (c:=c) (L:=L)).1
 refine JC.reslot 6 (.int .i64 ((i0+1:Nat):Int)) (by congr 1) ?_
 refine Xcg (fun (j i:Nat) (A:List Pair_)=>[(0, .slice (some ⟨b,0,none⟩) L.length c),(1, .func (.func 117) ⟨[]⟩ ⟨[.pointer (some ⟨bk,0,none⟩), .pointer (some ⟨be,0,none⟩)]⟩),(5, .int .i64 (i:Int)),(6, .int .i64 (j:Int))]) (fun _ _ A=>.res (buf (some ⟨b,0,none⟩) c 77 A)::.own bk 9 [.string key]::.own be 9 [.string elem]::Γ)
  (fun j i A=>i < j∧j≤L.length∧A.length=L.length∧A.take i=Xgg key elem (L.take j)∧A.drop j=L.drop j) (fun j _ _=>L.length - j) (i0+1) i0 L ⟨by omega,by omega,rfl,hf0.symm,rfl⟩ iI ?_
 rintro j i A ⟨hij,hj,hA,htk,hdr⟩
 refine wz11 ?_
 refine JC.test (fun hlt=>?_) (fun hge=>?_)
 ·have hjl:j < L.length:=by omega
  have hjA:j < A.length:=by omega
  have hn:=Xub (key:=key) (elem:=elem) hjl
  obtain ⟨hu1,hdr2⟩:=Xzh hdr hjA hjl
  rw [← hu1] at hn
  refine wz14 ?_
  refine Wf (Xdj (k:=j) hjl) rfl ?_
  refine wz13 ?_
  refine Xlu (L:=A) (k:=j) rfl hjA rfl ?_
  generalize A[j]=u at hn
  (repeat (refine wE ?_; intro _)); refine wA ?_
  refine JR.callV rfl (fun w1 hw=>Xsb (key:=key) (elem:=elem) (Γ:=[.res (buf (some ⟨b,0,none⟩) c 77 A)]) [u] hw.ent w1 _ u (by simp) (Bel.refl _ _)) ?_
  cases hg:Xi1 key elem u with
  | true =>
   rw [hg,if_pos rfl] at hn
   refine wA ?_
   exact ⟨j+1,i,A,⟨by omega,by omega,hA,by rw [hn]; exact htk,hdr2⟩,by omega,iI⟩
  | false =>
   rw [hg,if_neg Bool.false_ne_true] at hn
   refine wz1 ?_
   refine Wf (Xdj (k:=i) (by omega)) rfl ?_
   refine wz13 ?_
   refine Xq5 (L:=A) (k:=i) u rfl (by omega) rfl ?_
   refine wz2 ?_
   refine ⟨j+1,i+1,A.set i u,⟨by omega,by omega,by rw [List.length_set]; exact hA,?_,?_⟩,by omega,iI⟩
   ·rw [hn,← htk,List.take_set,List.take_succ_eq_append_getElem (by omega)]
    have hti:(A.take i).length=i:=by rw [List.length_take]; omega
    rw [List.set_append_right _ _ (by omega),hti,Nat.sub_self]
    rfl
   ·rw [List.drop_set_of_lt (by omega)]; exact hdr2
 ·obtain rfl:j=L.length:=by omega
  rw [List.take_length] at htk
  have hkl:(Xgg key elem L).length=i:=by rw [← htk,List.length_take]; omega
  refine JC.more (Γ':=.res (buf (some ⟨b,0,none⟩) c 77 (Xgg key elem L))::.own bk 9 [.string key]::.own be 9 [.string elem]::Γ) (fun w1 ho=>by rw [← htk]; exact Hold.shrink i (by omega) ho) ?_
  generalize Xgg key elem L=K at hkl
  refine wz3 ?_
  refine Wf (Xba (l:=i) fun w1 ho=>⟨by omega,hcap⟩) rfl ?_
  refine wz13 ?_
  refine JR.clear (b:=b) (c:=c) (L:=K) (l:=i) (m:=L.length - i) (by exact ⟨rfl,rfl⟩) (by omega) (by omega) (fun hm=>by rw [if_neg (by omega)]) ?_
  refine wz10 ?_
  refine Wf (Xbb (k:=i) fun w1 ho=>by omega) rfl ?_
  refine wz10 ?_
  refine CT.done () ?_ (fun w ho=>ho)
  simp only [Xaf,hkl]
theorem Xw3 (a:Option Addr) (k:Nat) (L:List Pair_) (key elem:ByteArray) (h:(sl a k L).holds F w) (hs:∀ c∈L,Xhm c) (hl:L.length < 34359738367) :
  GivesBuf prog 55 [.slice a L.length k, .string key, .string elem] w F 77 (delP L key elem):=by
 refine Xaa func55 rfl ntmps55 rfl rfl [.st (sl a k L)] (.start1 h) ?_
 (repeat (refine wE ?_; intro _)); refine wA ?_
 rename_i bk be
 refine JR.callV rfl (fun w1 hw=>Xfg w1 _ a k L hw.get hs) ?_
 cases m1:Xbn L with
 | false =>
  rw [show delP L key elem=[] from if_neg (by rw [m1]; exact Bool.false_ne_true)]
  refine wz8 ?_
  exact CT.done (none,0) rfl (fun w ho=>ho.bufNil)
 | true =>
 rw [show delP L key elem=Xgg key elem L from if_pos m1]
 refine wz7 ?_
 refine JR.callBuf rfl (fun w1 hw=>Xk5 w1 _ a k L hw.get (by omega)) ?_
 intro p q
 refine wA ?_
 refine JR.more (Γ':=.res (buf p q 77 L)::.own bk 9 [.string key]::.own be 9 [.string elem]::[]) (fun w1 ho=>ho.ent) ?_
 refine Xax (v:=fun _:Unit=>.slice p (Xgg key elem L).length q) (B:=fun _=>.res (buf p q 77 (Xgg key elem L))::.own bk 9 [.string key]::.own be 9 [.string elem]::[]) rfl (fun w1 hw=>Xpp L hw) ?_
 rintro ⟨⟩
 refine wz10 ?_
 exact Xab (p,q) rfl
theorem Xuc (a b:Option Addr) (c k:Nat) (L M:List Ctr_) (h:(sl a c L).holds F w) (h':(sl b k M).holds F w) :
  GivesV prog 56 [.slice a L.length c, .slice b M.length k] w F (.bool (decide (L=M))):=by
 have hL:L.length < 9223372036854775807:=by have:=h.2.2.1; simp only [lim] at this; omega
 refine Xaa func56 rfl ntmps56 rfl rfl [.st (sl a c L), .st (sl b k M)] (.start2 h h') ?_
 refine wA ?_
 refine JC.test (fun hne=>?_) (fun he=>?_)
 ·refine wz9 ?_
  refine Xab () ?_
  have:¬ L=M:=fun h=>hne (by rw [h])
  simp [Xaf,this]
 ·have hlen:L.length=M.length:=by omega
  refine wA ?_
  refine Xaj (fun k0:Nat=>[(0, .slice a L.length c),(1, .slice b M.length k),(12, .int .i64 (L.length:Int)),(13, .int .i64 (k0:Int))]) (fun _=>[.st (sl a c L), .st (sl b k M)])
   (fun k0=>k0≤L.length∧L.take k0=M.take k0) (fun k0=>L.length - k0) 0 ⟨Nat.zero_le _,rfl⟩ iI ?_
  intro k0 ⟨hk,heq⟩
  refine wz11 ?_
  refine JC.test (fun hlt=>?_) (fun hge=>?_)
  ·have hlt':k0 < L.length:=by omega
   have hltm:k0 < M.length:=by omega
   obtain ⟨u,hu⟩:∃ u,u=L[k0]:=⟨_,rfl⟩
   obtain ⟨v,hv⟩:∃ v,v=M[k0]:=⟨_,rfl⟩
   refine wz7 ?_
   refine Xhx (L:=L) (.slice a L.length c) k0 hlt' ?_
   intro b1 o1
   refine Xhx (L:=M) (.slice b M.length k) k0 hltm ?_
   intro b2 o2
   rw [← hu,← hv]
   refine Xbe mixed (by kernel_rfl) ?_
   refine wQ ?_
   refine Wy rfl (Xt2 (p:=u) (q:=v) iI) rfl ?_
   refine wQ ?_
   by_cases huv:u=v
   ·rw [decide_eq_true huv,Bool.not_true]
    refine wz2 ?_
    refine ⟨k0+1,⟨by omega,?_⟩,by omega,iI⟩
    rw [List.take_succ_eq_append_getElem hlt',List.take_succ_eq_append_getElem hltm,heq,← hu,← hv,huv]
   ·rw [decide_eq_false huv,Bool.not_false]
    refine wz8 ?_
    refine Xab () ?_
    have:¬ L=M:=fun h=>by subst h; exact huv (hu.trans hv.symm)
    simp [Xaf,this]
  ·have hk0:k0=L.length:=by omega
   refine wz3 ?_
   refine Xab () ?_
   have:L=M:=by
    rw [List.take_of_length_le (by omega),List.take_of_length_le (by omega)] at heq
    exact heq
   simp [Xaf,this]
theorem Xud (a b:Option Addr) (c k:Nat) (L M:List Reg_) (h:(sl a c L).holds F w) (h':(sl b k M).holds F w) :
  GivesV prog 57 [.slice a L.length c, .slice b M.length k] w F (.bool (decide (L=M))):=by
 have hL:L.length < 9223372036854775807:=by have:=h.2.2.1; simp only [lim] at this; omega
 refine Xaa func57 rfl ntmps57 rfl rfl [.st (sl a c L), .st (sl b k M)] (.start2 h h') ?_
 refine wA ?_
 refine JC.test (fun hne=>?_) (fun he=>?_)
 ·refine wz9 ?_
  refine Xab () ?_
  have:¬ L=M:=fun h=>hne (by rw [h])
  simp [Xaf,this]
 ·have hlen:L.length=M.length:=by omega
  refine wA ?_
  refine Xaj (fun k0:Nat=>[(0, .slice a L.length c),(1, .slice b M.length k),(12, .int .i64 (L.length:Int)),(13, .int .i64 (k0:Int))]) (fun _=>[.st (sl a c L), .st (sl b k M)])
   (fun k0=>k0≤L.length∧L.take k0=M.take k0) (fun k0=>L.length - k0) 0 ⟨Nat.zero_le _,rfl⟩ iI ?_
  intro k0 ⟨hk,heq⟩
  refine wz11 ?_
  refine JC.test (fun hlt=>?_) (fun hge=>?_)
  ·have hlt':k0 < L.length:=by omega
   have hltm:k0 < M.length:=by omega
   obtain ⟨u,hu⟩:∃ u,u=L[k0]:=⟨_,rfl⟩
   obtain ⟨v,hv⟩:∃ v,v=M[k0]:=⟨_,rfl⟩
   refine wz7 ?_
   refine Xf9 (L:=L) (.slice a L.length c) k0 hlt' ?_
   intro b1 o1
   refine Xf9 (L:=M) (.slice b M.length k) k0 hltm ?_
   intro b2 o2
   rw [← hu,← hv]
   refine Xbe mixed (by kernel_rfl) ?_
   refine wQ ?_
   refine Wy rfl (Xt1 (p:=u) (q:=v) iI) rfl ?_
   refine wQ ?_
   by_cases huv:u=v
   ·rw [decide_eq_true huv,Bool.not_true]
    refine wz2 ?_
    refine ⟨k0+1,⟨by omega,?_⟩,by omega,iI⟩
    rw [List.take_succ_eq_append_getElem hlt',List.take_succ_eq_append_getElem hltm,heq,← hu,← hv,huv]
   ·rw [decide_eq_false huv,Bool.not_false]
    refine wz8 ?_
    refine Xab () ?_
    have:¬ L=M:=fun h=>by subst h; exact huv (hu.trans hv.symm)
    simp [Xaf,this]
  ·have hk0:k0=L.length:=by omega
   refine wz3 ?_
   refine Xab () ?_
   have:L=M:=by
    rw [List.take_of_length_le (by omega),List.take_of_length_le (by omega)] at heq
    exact heq
   simp [Xaf,this]
theorem Xw4 (a b:Option Addr) (c k:Nat) (L M:List Pair_) (h:(sl a c L).holds F w) (h':(sl b k M).holds F w) :
  GivesV prog 58 [.slice a L.length c, .slice b M.length k] w F (.bool (decide (L=M))):=by
 have hL:L.length < 9223372036854775807:=by have:=h.2.2.1; simp only [lim] at this; omega
 refine Xaa func58 rfl ntmps58 rfl rfl [.st (sl a c L), .st (sl b k M)] (.start2 h h') ?_
 refine wA ?_
 refine JC.test (fun hne=>?_) (fun he=>?_)
 ·refine wz9 ?_
  refine Xab () ?_
  have:¬ L=M:=fun h=>hne (by rw [h])
  simp [Xaf,this]
 ·have hlen:L.length=M.length:=by omega
  refine wA ?_
  refine Xaj (fun k0:Nat=>[(0, .slice a L.length c),(1, .slice b M.length k),(12, .int .i64 (L.length:Int)),(13, .int .i64 (k0:Int))]) (fun _=>[.st (sl a c L), .st (sl b k M)])
   (fun k0=>k0≤L.length∧L.take k0=M.take k0) (fun k0=>L.length - k0) 0 ⟨Nat.zero_le _,rfl⟩ iI ?_
  intro k0 ⟨hk,heq⟩
  refine wz11 ?_
  refine JC.test (fun hlt=>?_) (fun hge=>?_)
  ·have hlt':k0 < L.length:=by omega
   have hltm:k0 < M.length:=by omega
   obtain ⟨u,hu⟩:∃ u,u=L[k0]:=⟨_,rfl⟩
   obtain ⟨v,hv⟩:∃ v,v=M[k0]:=⟨_,rfl⟩
   refine wz7 ?_
   refine Xd7 (L:=L) (.slice a L.length c) k0 hlt' ?_
   intro b1 o1
   refine Xd7 (L:=M) (.slice b M.length k) k0 hltm ?_
   intro b2 o2
   rw [← hu,← hv]
   refine Xbe mixed (by kernel_rfl) ?_
   refine wQ ?_
   refine Wy rfl (Xq4 (p:=u) (q:=v) iI) rfl ?_
   refine wQ ?_
   by_cases huv:u=v
   ·rw [decide_eq_true huv,Bool.not_true]
    refine wz2 ?_
    refine ⟨k0+1,⟨by omega,?_⟩,by omega,iI⟩
    rw [List.take_succ_eq_append_getElem hlt',List.take_succ_eq_append_getElem hltm,heq,← hu,← hv,huv]
   ·rw [decide_eq_false huv,Bool.not_false]
    refine wz8 ?_
    refine Xab () ?_
    have:¬ L=M:=fun h=>by subst h; exact huv (hu.trans hv.symm)
    simp [Xaf,this]
  ·have hk0:k0=L.length:=by omega
   refine wz3 ?_
   refine Xab () ?_
   have:L=M:=by
    rw [List.take_of_length_le (by omega),List.take_of_length_le (by omega)] at heq
    exact heq
   simp [Xaf,this]
abbrev Sa:=(Option Addr × Nat) × (Option Addr × Nat) × (Option Addr × Nat)
abbrev stC (s:State_) (a:Sa):List Value:=[.slice a.1.1 s.c.length a.1.2, .slice a.2.1.1 s.r.length a.2.1.2, .slice a.2.2.1 s.p.length a.2.2.2]
abbrev stF (s:State_) (a:Sa):List Fact:=[.st (sl a.1.1 a.1.2 s.c), .st (sl a.2.1.1 a.2.1.2 s.r), .st (sl a.2.2.1 a.2.2.2 s.p)]
structure fineS (s:State_):Prop where
 c:∀ c∈s.c,c.key.size < 4611686018427387904
 r:∀ r∈s.r,Xiz r
 p:∀ p∈s.p,Xhm p
theorem Xhn (s:State_) (pc pr pp:Option Addr) (kc kr kp:Nat) (h1:(sl pc kc s.c).holds F w) (h2:(sl pr kr s.r).holds F w) (h3:(sl pp kp s.p).holds F w) (hf:fineS s) :
  GivesV prog 44 [.agg ⟨[.slice pc s.c.length kc, .slice pr s.r.length kr, .slice pp s.p.length kp]⟩] w F (.bool (Xex s)):=by
 obtain ⟨C,R,Q⟩:=s
 refine Xaa func44 rfl ntmps44 rfl rfl [.st (sl pc kc C), .st (sl pr kr R), .st (sl pp kp Q)] (.start3 h1 h2 h3) ?_
 unfold Xex
 (repeat (refine wE ?_; intro _)); refine wA ?_
 refine JR.callV rfl (fun w1 hw=>Xkg w1 _ pc kc C hw.get hf.c) ?_
 cases m1:Xcy C with
 | false =>
  refine wz8 ?_
  exact Xab () rfl
 | true =>
 refine wz6 ?_
 refine JR.callV rfl (fun w1 hw=>Xna w1 _ pr kr R hw.get hf.r) ?_
 cases m2:Xc6 R with
 | false =>
  refine wz8 ?_
  exact Xab () rfl
 | true =>
 refine wz6 ?_
 refine JR.callV rfl (fun w1 hw=>Xfg w1 _ pp kp Q hw.get hf.p) ?_
 refine wz8 ?_
 exact Xab () rfl
theorem Hold.start6 {w0:World} {F:Nat→Prop} {A B C D E G:Asn} (h1:A.holds F w0) (h2:B.holds F w0) (h3:C.holds F w0) (h4:D.holds F w0) (h5:E.holds F w0) (h6:G.holds F w0):Hold w0 F [.st A, .st B, .st C, .st D, .st E, .st G] w0 :=
 ((Hold.start4 h3 h4 h5 h6).add (Asn.mono _ _ _ _ (fun k hk=>⟨.inl hk,by simp [free,Fact.owns]⟩) h2)).add (Asn.mono _ _ _ _ (fun k hk=>⟨.inl hk,by simp [free,Fact.owns]⟩) h1)
theorem Xue (s t:State_) (pc pr pp qc qr qp:Option Addr) (kc kr kp lc lr lp:Nat) (h1:(sl pc kc s.c).holds F w) (h2:(sl pr kr s.r).holds F w) (h3:(sl pp kp s.p).holds F w)
  (h4:(sl qc lc t.c).holds F w) (h5:(sl qr lr t.r).holds F w) (h6:(sl qp lp t.p).holds F w) :
  GivesV prog 16 [.agg ⟨[.slice pc s.c.length kc, .slice pr s.r.length kr, .slice pp s.p.length kp]⟩, .agg ⟨[.slice qc t.c.length lc, .slice qr t.r.length lr, .slice qp t.p.length lp]⟩] w F
   (.bool (decide (s.c=t.c) && decide (s.r=t.r) && decide (s.p=t.p))):=by
 obtain ⟨C,R,Q⟩:=s
 obtain ⟨C2,R2,Q2⟩:=t
 refine Xaa func16 rfl ntmps16 rfl rfl [.st (sl pc kc C), .st (sl pr kr R), .st (sl pp kp Q), .st (sl qc lc C2), .st (sl qr lr R2), .st (sl qp lp Q2)] (.start6 h1 h2 h3 h4 h5 h6) ?_
 dsimp only
 (repeat (refine wE ?_; intro _)); refine wA ?_
 refine JR.callV rfl (fun w1 hw=>Xuc w1 _ pc qc kc lc C C2 hw.get hw.get) ?_
 cases m1:decide (C=C2) with
 | false =>
  refine wz8 ?_
  exact Xab () rfl
 | true =>
 refine wz6 ?_
 refine JR.callV rfl (fun w1 hw=>Xud w1 _ pr qr kr lr R R2 hw.get hw.get) ?_
 cases m2:decide (R=R2) with
 | false =>
  refine wz8 ?_
  exact Xab () rfl
 | true =>
 refine wz6 ?_
 refine JR.callV rfl (fun w1 hw=>Xw4 w1 _ pp qp kp lp Q Q2 hw.get hw.get) ?_
 refine wz8 ?_
 exact Xab () rfl
theorem Xq7 (no sq:Int):GivesV prog 46 [.agg ⟨[.int .i64 no, .int .i64 sq]⟩] w F (.bool (Xs5 ⟨no,sq⟩)):=by
 refine Xaa func46 rfl ntmps46 rfl rfl [] (.start w F) ?_
 unfold Xs5
 (repeat (refine wF ?_; intro _)); refine wX ?_
 by_cases h1:no≥0
 ·refine JO.reslot 6 (.bool true) (by congr 1; exact decide_eq_true h1) ?_
  refine wX ?_
  by_cases h2:no < 8
  ·refine JO.reslot 11 (.bool true) (by congr 1; exact decide_eq_true h2) ?_
   refine wX ?_
   by_cases h3:sq > 0
   ·refine JO.reslot 16 (.bool true) (by congr 1; exact decide_eq_true h3) ?_
    refine wX ?_
    refine Xab () ?_
    simp only [Xaf,decide_eq_true (show 0≤no from h1),decide_eq_true h2,decide_eq_true (show 0 < sq from h3),Bool.true_and]
   ·refine JO.reslot 16 (.bool false) (by congr 1; exact decide_eq_false h3) ?_
    refine wz8 ?_
    refine Xab () ?_
    simp only [Xaf,decide_eq_true (show 0≤no from h1),decide_eq_true h2,decide_eq_false (show ¬ 0 < sq from h3),Bool.true_and,Bool.false_and]
  ·refine JO.reslot 11 (.bool false) (by congr 1; exact decide_eq_false h2) ?_
   refine wz8 ?_
   refine Xab () ?_
   simp only [Xaf,decide_eq_true (show 0≤no from h1),decide_eq_false h2,Bool.true_and,Bool.false_and]
 ·refine JO.reslot 6 (.bool false) (by congr 1; exact decide_eq_false h1) ?_
  refine wz8 ?_
  refine Xab () ?_
  simp only [Xaf,decide_eq_false (show ¬ 0≤no from h1),Bool.false_and]
theorem Xw5 (s:State_) (pc pr pp:Option Addr) (kc kr kp:Nat) (h1:(sl pc kc s.c).holds F w) (h2:(sl pr kr s.r).holds F w) (h3:(sl pp kp s.p).holds F w)
  (hc:s.c.length≤34359738368) (hr:s.r.length≤34359738368) (hp:s.p.length≤34359738368) :
  Gives prog 47 [.agg ⟨[.slice pc s.c.length kc, .slice pr s.r.length kr, .slice pp s.p.length kp]⟩] w F (fun y:Sa=>.agg ⟨stC s y⟩) (fun y=>stF s y):=by
 obtain ⟨C,R,Q⟩:=s
 dsimp only at h1 h2 h3 hc hr hp
 refine Xaa func47 rfl ntmps47 rfl rfl [.st (sl pc kc C), .st (sl pr kr R), .st (sl pp kp Q)] (.start3 h1 h2 h3) ?_
 dsimp only
 (repeat (refine wE ?_; intro _)); refine wA ?_
 rename_i bs br
 refine JC.drawP mixed ?_
 refine Xad 0 ?_
 refine JP.tv 1 [.own bs 38 [.slice pc C.length kc, .slice pr R.length kr, .slice pp Q.length kp]] ?_
 refine Xad 3 ?_
 refine JP.tv 4 [.own bs 38 [.slice pc C.length kc, .slice pr R.length kr, .slice pp Q.length kp]] ?_
 refine Xad 6 ?_
 refine JP.tv 7 [.own bs 38 [.slice pc C.length kc, .slice pr R.length kr, .slice pp Q.length kp]] ?_
 refine Xal 2 rfl rfl (JR.callSl rfl (fun w1 hw=>(Xt6 w1 _ pc kc C hw.get hc).sl) (fun p1 q1=>Wd (nO ?_)))
 refine Xal 5 rfl rfl (JR.callSl rfl (fun w1 hw=>(Xmm w1 _ pr kr R hw.get hr).sl) (fun p2 q2=>Wd (nO ?_)))
 refine Xal 8 rfl rfl (JR.callSl rfl (fun w1 hw=>(Xk5 w1 _ pp kp Q hw.get hp).sl) (fun p3 q3=>Wd (nO ?_)))
 refine JP.pure 9 rfl (by kernel_rfl) rfl (fun _=>OpV.build [.slice p1 C.length q1, .slice p2 R.length q2, .slice p3 Q.length q3] (by kernel_rfl)) rfl rfl ?_
 refine JP.reslot 2 (.pointer (some ⟨br,0,none⟩)) rfl ?_
 refine Xal 10 rfl rfl (Wi (Wd (nO ?_)))
 refine JP.nil (by kernel_rfl) ?_
 refine wz13 ?_
 exact Xab ((p1,q1),(p2,q2),(p3,q3)) rfl
theorem Xw6 {w0 w:World} {F:Nat→Prop} {Γ:List Fact} {bt bo kc kr kp:Nat} {pc pr pp:Option Addr} {C:List Ctr_} {R:List Reg_} {Q:List Pair_} {kind m:Int} {key elem:ByteArray}
  (hs:∀ c∈C,c.key.size < 4611686018427387904) (hk:key.size < 4611686018427387904) (hl:C.length≤11)
  (ho:Hold w0 F (.own bt 38 [.slice pc C.length kc, .slice pr R.length kr, .slice pp Q.length kp]::.own bo 26 [.int .i64 kind, .string key, .string elem, .int .i64 m]::.st (sl pc kc C)::.st (sl pr kr R)::.st (sl pp kp Q)::Γ) w) :
  Calls prog 48 ⟨[.pointer (some ⟨bt,0,none⟩), .pointer (some ⟨bo,0,none⟩)]⟩ w fun x w'=>∃ y:Option Addr × Nat,x = .returned (.tuple ⟨[]⟩) ∧
   Hold w0 F (.own bt 38 [.slice y.1 (incT C key m).length y.2, .slice pr R.length kr, .slice pp Q.length kp]::.st (sl y.1 y.2 (incT C key m))::.st (sl pr kr R)::.st (sl pp kp Q)::Γ) w':=by
 refine Xbu (v:=fun _:Option Addr × Nat=>.tuple ⟨[]⟩) (B:=fun y=>.own bt 38 [.slice y.1 (incT C key m).length y.2, .slice pr R.length kr, .slice pp Q.length kp]::.st (sl y.1 y.2 (incT C key m))::.st (sl pr kr R)::.st (sl pp kp Q)::Γ)
  func48 rfl ntmps48 rfl rfl _ ho ?_
 refine wz9 ?_
 refine JR.callSl rfl (fun w1 hw=>(X0z w1 _ pc kc C key m hw.get hs hk hl).sl) ?_
 intro p q
 refine wz6 ?_
 refine JR.reslot 9 (.pointer (some ⟨bt,0,none⟩)) rfl ?_
 refine Wi ?_
 refine wz10 ?_
 exact Xl7 (p,q) rfl
theorem Xw7 {w0 w:World} {F:Nat→Prop} {Γ:List Fact} {bt bo bg be kc kr kp:Nat} {pc pr pp:Option Addr} {C:List Ctr_} {R:List Reg_} {Q:List Pair_} {kind m gen no sq:Int} {key elem:ByteArray}
  (hs:∀ c∈R,Xiz c) (hk:Xiz ⟨key,elem,gen,⟨no,sq⟩⟩) (hl:R.length < 4294967294)
  (ho:Hold w0 F (.own bt 38 [.slice pc C.length kc, .slice pr R.length kr, .slice pp Q.length kp]::.own bo 26 [.int .i64 kind, .string key, .string elem, .int .i64 m]::.own bg 3 [.int .i64 gen]::.own be 24 [.int .i64 no, .int .i64 sq]::.st (sl pc kc C)::.st (sl pr kr R)::.st (sl pp kp Q)::Γ) w) :
  Calls prog 50 ⟨[.pointer (some ⟨bt,0,none⟩), .pointer (some ⟨bo,0,none⟩), .pointer (some ⟨bg,0,none⟩), .pointer (some ⟨be,0,none⟩)]⟩ w fun x w'=>∃ y:Option Addr × Nat,x = .returned (.tuple ⟨[]⟩) ∧
   Hold w0 F (.own bt 38 [.slice pc C.length kc, .slice y.1 (Xcs R ⟨key,elem,gen,⟨no,sq⟩⟩).length y.2, .slice pp Q.length kp]::.st (sl y.1 y.2 (Xcs R ⟨key,elem,gen,⟨no,sq⟩⟩))::.st (sl pc kc C)::.st (sl pp kp Q)::Γ) w':=by
 refine Xbu (v:=fun _:Option Addr × Nat=>.tuple ⟨[]⟩) (B:=fun y=>.own bt 38 [.slice pc C.length kc, .slice y.1 (Xcs R ⟨key,elem,gen,⟨no,sq⟩⟩).length y.2, .slice pp Q.length kp]::.st (sl y.1 y.2 (Xcs R ⟨key,elem,gen,⟨no,sq⟩⟩))::.st (sl pc kc C)::.st (sl pp kp Q)::Γ)
  func50 rfl ntmps50 rfl rfl _ ho ?_
 refine wz9 ?_
 refine Wf (OpV.build [.string key, .string elem, .int .i64 gen, .int .i64 no, .int .i64 sq] (by kernel_rfl)) rfl ?_
 refine wz13 ?_
 refine JR.callSl rfl (fun w1 hw=>(Xzf w1 _ pr kr R ⟨key,elem,gen,⟨no,sq⟩⟩ hw.get hs hk hl).sl) ?_
 intro p q
 refine wz9 ?_
 exact Xl7 (p,q) rfl
theorem Xw8 {w0 w:World} {F:Nat→Prop} {Γ:List Fact} {bt bo be kc kr kp:Nat} {pc pr pp:Option Addr} {C:List Ctr_} {R:List Reg_} {Q:List Pair_} {kind m no sq:Int} {key elem:ByteArray}
  (hs:∀ c∈Q,Xhm c) (hk:Xhm ⟨key,elem,⟨no,sq⟩⟩) (hl:Q.length < 34359738367)
  (ho:Hold w0 F (.own bt 38 [.slice pc C.length kc, .slice pr R.length kr, .slice pp Q.length kp]::.own bo 26 [.int .i64 kind, .string key, .string elem, .int .i64 m]::.own be 24 [.int .i64 no, .int .i64 sq]::.st (sl pc kc C)::.st (sl pr kr R)::.st (sl pp kp Q)::Γ) w) :
  Calls prog 52 ⟨[.pointer (some ⟨bt,0,none⟩), .pointer (some ⟨bo,0,none⟩), .pointer (some ⟨be,0,none⟩)]⟩ w fun x w'=>∃ y:Option Addr × Nat,x = .returned (.tuple ⟨[]⟩) ∧
   Hold w0 F (.own bt 38 [.slice pc C.length kc, .slice pr R.length kr, .slice y.1 (addP Q ⟨key,elem,⟨no,sq⟩⟩).length y.2]::.st (sl y.1 y.2 (addP Q ⟨key,elem,⟨no,sq⟩⟩))::.st (sl pc kc C)::.st (sl pr kr R)::Γ) w':=by
 refine Xbu (v:=fun _:Option Addr × Nat=>.tuple ⟨[]⟩) (B:=fun y=>.own bt 38 [.slice pc C.length kc, .slice pr R.length kr, .slice y.1 (addP Q ⟨key,elem,⟨no,sq⟩⟩).length y.2]::.st (sl y.1 y.2 (addP Q ⟨key,elem,⟨no,sq⟩⟩))::.st (sl pc kc C)::.st (sl pr kr R)::Γ)
  func52 rfl ntmps52 rfl rfl _ ho ?_
 refine wz9 ?_
 refine Wf (OpV.build [.string key, .string elem, .int .i64 no, .int .i64 sq] (by kernel_rfl)) rfl ?_
 refine wz13 ?_
 refine JR.callSl rfl (fun w1 hw=>(Xw0 w1 _ pp kp Q ⟨key,elem,⟨no,sq⟩⟩ hw.get hs hk hl).sl) ?_
 intro p q
 refine wz9 ?_
 exact Xl7 (p,q) rfl
theorem Xw9 {w0 w:World} {F:Nat→Prop} {Γ:List Fact} {bt bo kc kr kp:Nat} {pc pr pp:Option Addr} {C:List Ctr_} {R:List Reg_} {Q:List Pair_} {kind m:Int} {key elem:ByteArray}
  (hs:∀ c∈Q,Xhm c) (hl:Q.length < 34359738367)
  (ho:Hold w0 F (.own bt 38 [.slice pc C.length kc, .slice pr R.length kr, .slice pp Q.length kp]::.own bo 26 [.int .i64 kind, .string key, .string elem, .int .i64 m]::.st (sl pc kc C)::.st (sl pr kr R)::.st (sl pp kp Q)::Γ) w) :
  Calls prog 54 ⟨[.pointer (some ⟨bt,0,none⟩), .pointer (some ⟨bo,0,none⟩)]⟩ w fun x w'=>∃ y:Option Addr × Nat,x = .returned (.tuple ⟨[]⟩) ∧
   Hold w0 F (.own bt 38 [.slice pc C.length kc, .slice pr R.length kr, .slice y.1 (delP Q key elem).length y.2]::.st (sl y.1 y.2 (delP Q key elem))::.st (sl pc kc C)::.st (sl pr kr R)::Γ) w':=by
 refine Xbu (v:=fun _:Option Addr × Nat=>.tuple ⟨[]⟩) (B:=fun y=>.own bt 38 [.slice pc C.length kc, .slice pr R.length kr, .slice y.1 (delP Q key elem).length y.2]::.st (sl y.1 y.2 (delP Q key elem))::.st (sl pc kc C)::.st (sl pr kr R)::Γ)
  func54 rfl ntmps54 rfl rfl _ ho ?_
 refine wz9 ?_
 refine JR.callSl rfl (fun w1 hw=>(Xw3 w1 _ pp kp Q key elem hw.get hs hl).sl) ?_
 intro p q
 refine wz9 ?_
 exact Xl7 (p,q) rfl
theorem Xuf {o:Op_} (h:Xes o=true):o.kind=0∨o.kind=1∨o.kind=2∨o.kind=3:=by
 unfold Xes at h
 split at h
 ·exact .inl (by assumption)
 ·split at h
  ·exact .inr (by assumption)
  ·cases h
theorem Xjo (s:State_) (o:Op_) (ev:Ev_) (gen:Int) (pc pr pp:Option Addr) (kc kr kp:Nat) (h1:(sl pc kc s.c).holds F w) (h2:(sl pr kr s.r).holds F w) (h3:(sl pp kp s.p).holds F w)
  (hf:fineS s) (ht:o.key.size < 4611686018427387904∧o.elem.size < 4611686018427387904) (hc:s.c.length≤11) (hr:s.r.length≤1048576) (hp:s.p.length≤1048576) :
  Gives prog 15 [.agg ⟨[.slice pc s.c.length kc, .slice pr s.r.length kr, .slice pp s.p.length kp]⟩, .agg ⟨[.int .i64 o.kind, .string o.key, .string o.elem, .int .i64 o.n]⟩, .agg ⟨[.int .i64 ev.node, .int .i64 ev.seq]⟩, .int .i64 gen] w F
   (fun y:Sa=>.tuple ⟨[.agg ⟨stC (stDo s o ev gen).1 y⟩, .int .i64 (stDo s o ev gen).2]⟩) (fun y=>stF (stDo s o ev gen).1 y):=by
 obtain ⟨C,R,Q⟩:=s
 obtain ⟨kind,key,elem,m⟩:=o
 obtain ⟨no,sq⟩:=ev
 dsimp only at h1 h2 h3 hc hr hp ht
 refine Xaa func15 rfl ntmps15 rfl rfl [.st (sl pc kc C), .st (sl pr kr R), .st (sl pp kp Q)] (.start3 h1 h2 h3) ?_
 dsimp only
 (repeat (refine wE ?_; intro _)); refine wA ?_
 rename_i bs bo be bg br
 refine JR.callV rfl (fun w1 hw=>Xhn w1 _ ⟨C,R,Q⟩ pc pr pp kc kr kp hw.get hw.get hw.get hf) ?_
 cases m1:Xex ⟨C,R,Q⟩ with
 | false =>
  have e0:stDo ⟨C,R,Q⟩ ⟨kind,key,elem,m⟩ ⟨no,sq⟩ gen=(st0,1):=by unfold stDo; rw [if_neg]; unfold doOk; rw [m1]; simp
  rw [e0]
  refine wz8 ?_
  refine Wf (OpV.build [.slice none 0 0, .slice none 0 0, .slice none 0 0] (by kernel_rfl)) rfl ?_
  refine wz9 ?_
  refine CT.done ((none,0),(none,0),(none,0)) rfl (fun w ho=>?_)
  have h9:=((ho.add (A:=sl (α:=Pair_) none 0 []) Xau).add (A:=sl (α:=Reg_) none 0 []) Xau).add (A:=sl (α:=Ctr_) none 0 []) Xau
  exact (show Hold _ _ [.st (sl (α:=Ctr_) none 0 []), .st (sl (α:=Reg_) none 0 []), .st (sl (α:=Pair_) none 0 [])] w from h9.ent)
 | true =>
 refine wz1 ?_
 refine JR.callV rfl (fun w1 hw=>Xqm w1 _ ⟨kind,key,elem,m⟩ ht.1 ht.2) ?_
 cases m2:Xes ⟨kind,key,elem,m⟩ with
 | false =>
  have e0:stDo ⟨C,R,Q⟩ ⟨kind,key,elem,m⟩ ⟨no,sq⟩ gen=(st0,1):=by unfold stDo; rw [if_neg]; unfold doOk; rw [m2]; simp
  rw [e0]
  refine wz8 ?_
  refine Wf (OpV.build [.slice none 0 0, .slice none 0 0, .slice none 0 0] (by kernel_rfl)) rfl ?_
  refine wz9 ?_
  refine CT.done ((none,0),(none,0),(none,0)) rfl (fun w ho=>?_)
  have h9:=((ho.add (A:=sl (α:=Pair_) none 0 []) Xau).add (A:=sl (α:=Reg_) none 0 []) Xau).add (A:=sl (α:=Ctr_) none 0 []) Xau
  exact (show Hold _ _ [.st (sl (α:=Ctr_) none 0 []), .st (sl (α:=Reg_) none 0 []), .st (sl (α:=Pair_) none 0 [])] w from h9.ent)
 | true =>
 refine wz1 ?_
 refine JR.callV rfl (fun w1 hw=>Xq7 w1 _ no sq) ?_
 cases m3:Xs5 ⟨no,sq⟩ with
 | false =>
  have e0:stDo ⟨C,R,Q⟩ ⟨kind,key,elem,m⟩ ⟨no,sq⟩ gen=(st0,1):=by unfold stDo; rw [if_neg]; unfold doOk; rw [m3]; simp
  rw [e0]
  refine wz8 ?_
  refine Wf (OpV.build [.slice none 0 0, .slice none 0 0, .slice none 0 0] (by kernel_rfl)) rfl ?_
  refine wz9 ?_
  refine CT.done ((none,0),(none,0),(none,0)) rfl (fun w ho=>?_)
  have h9:=((ho.add (A:=sl (α:=Pair_) none 0 []) Xau).add (A:=sl (α:=Reg_) none 0 []) Xau).add (A:=sl (α:=Ctr_) none 0 []) Xau
  exact (show Hold _ _ [.st (sl (α:=Ctr_) none 0 []), .st (sl (α:=Reg_) none 0 []), .st (sl (α:=Pair_) none 0 [])] w from h9.ent)
 | true =>
 refine wX ?_
 refine JC.test (fun hlt=>?_) (fun hge=>?_)
 ·have e0:stDo ⟨C,R,Q⟩ ⟨kind,key,elem,m⟩ ⟨no,sq⟩ gen=(st0,1):=by unfold stDo; rw [if_neg]; unfold doOk; rw [decide_eq_false (show ¬ 1≤gen by omega)]; simp
  rw [e0]
  refine wz14 ?_
  refine Wf (OpV.build [.slice none 0 0, .slice none 0 0, .slice none 0 0] (by kernel_rfl)) rfl ?_
  refine wz9 ?_
  refine CT.done ((none,0),(none,0),(none,0)) rfl (fun w ho=>?_)
  have h9:=((ho.add (A:=sl (α:=Pair_) none 0 []) Xau).add (A:=sl (α:=Reg_) none 0 []) Xau).add (A:=sl (α:=Ctr_) none 0 []) Xau
  exact (show Hold _ _ [.st (sl (α:=Ctr_) none 0 []), .st (sl (α:=Reg_) none 0 []), .st (sl (α:=Pair_) none 0 [])] w from h9.ent)
 have e0:stDo ⟨C,R,Q⟩ ⟨kind,key,elem,m⟩ ⟨no,sq⟩ gen=(stDone ⟨C,R,Q⟩ ⟨kind,key,elem,m⟩ ⟨no,sq⟩ gen,0):=by unfold stDo; rw [if_pos]; unfold doOk; rw [m1,m2,m3,decide_eq_true (show 1≤gen by omega)]; rfl
 rw [e0]
 dsimp only
 refine wz1 ?_
 refine JR.call (v:=fun y:Sa=>.agg ⟨stC ⟨C,R,Q⟩ y⟩) rfl (fun w1 hw=>Xw5 w1 _ ⟨C,R,Q⟩ pc pr pp kc kr kp hw.get hw.get hw.get (by dsimp only; omega) (by dsimp only; omega) (by dsimp only; omega)) ?_
 rintro ⟨⟨p1,q1⟩,⟨p2,q2⟩,⟨p3,q3⟩⟩
 dsimp only [stC,stF,List.cons_append,List.nil_append]
 (repeat (refine wF ?_; intro _)); refine wX ?_
 rename_i bt
 refine Wf (OpV.build [.func (.func 48) ⟨[]⟩ ⟨[.pointer (some ⟨bt,0,none⟩), .pointer (some ⟨bo,0,none⟩)]⟩,
  .func (.func 50) ⟨[]⟩ ⟨[.pointer (some ⟨bt,0,none⟩), .pointer (some ⟨bo,0,none⟩), .pointer (some ⟨bg,0,none⟩), .pointer (some ⟨be,0,none⟩)]⟩,
  .func (.func 52) ⟨[]⟩ ⟨[.pointer (some ⟨bt,0,none⟩), .pointer (some ⟨bo,0,none⟩), .pointer (some ⟨be,0,none⟩)]⟩,
  .func (.func 54) ⟨[]⟩ ⟨[.pointer (some ⟨bt,0,none⟩), .pointer (some ⟨bo,0,none⟩)]⟩] (by kernel_rfl)) rfl ?_
 (repeat (refine wF ?_; intro _)); refine wX ?_
 rename_i ba
 rcases Xuf m2 with hk | hk | hk | hk <;> dsimp only at hk <;> subst hk
 ·have e1:stDone ⟨C,R,Q⟩ ⟨0,key,elem,m⟩ ⟨no,sq⟩ gen=⟨incT C key m,R,Q⟩:=by simp [stDone]
  rw [e1]
  dsimp only
  refine Wf (Xac (k:=0) (by decide)) rfl ?_
  refine JO.reslot 39 (.pointer (some ⟨ba,0,none⟩)) rfl ?_
  refine wz6 ?_
  refine JR.more (Γ':=.own bt 38 [.slice p1 C.length q1, .slice p2 R.length q2, .slice p3 Q.length q3]::.own bo 26 [.int .i64 0, .string key, .string elem, .int .i64 m]::.st (sl p1 q1 C)::.st (sl p2 q2 R)::.st (sl p3 q3 Q)::.own br 38 [.slice none 0 0, .slice none 0 0, .slice none 0 0]::[]) (fun w1 ho=>ho.ent) ?_
  refine Xax (v:=fun _:Option Addr × Nat=>.tuple ⟨[]⟩) (B:=fun y=>.own bt 38 [.slice y.1 (incT C key m).length y.2, .slice p2 R.length q2, .slice p3 Q.length q3]::.st (sl y.1 y.2 (incT C key m))::.st (sl p2 q2 R)::.st (sl p3 q3 Q)::.own br 38 [.slice none 0 0, .slice none 0 0, .slice none 0 0]::[]) rfl (fun w1 hw=>Xw6 hf.c ht.1 hc hw) ?_
  rintro ⟨p,q⟩
  dsimp only
  refine wz9 ?_
  exact Xab ((p,q),(p2,q2),(p3,q3)) rfl
 ·have e1:stDone ⟨C,R,Q⟩ ⟨1,key,elem,m⟩ ⟨no,sq⟩ gen=⟨C,Xcs R ⟨key,elem,gen,⟨no,sq⟩⟩,Q⟩:=by simp [stDone]
  rw [e1]
  dsimp only
  refine Wf (Xac (k:=1) (by decide)) rfl ?_
  refine JO.reslot 39 (.pointer (some ⟨ba,1,none⟩)) rfl ?_
  refine wz6 ?_
  refine JR.more (Γ':=.own bt 38 [.slice p1 C.length q1, .slice p2 R.length q2, .slice p3 Q.length q3]::.own bo 26 [.int .i64 1, .string key, .string elem, .int .i64 m]::.own bg 3 [.int .i64 gen]::.own be 24 [.int .i64 no, .int .i64 sq]::.st (sl p1 q1 C)::.st (sl p2 q2 R)::.st (sl p3 q3 Q)::.own br 38 [.slice none 0 0, .slice none 0 0, .slice none 0 0]::[]) (fun w1 ho=>ho.ent) ?_
  refine Xax (v:=fun _:Option Addr × Nat=>.tuple ⟨[]⟩) (B:=fun y=>.own bt 38 [.slice p1 C.length q1, .slice y.1 (Xcs R ⟨key,elem,gen,⟨no,sq⟩⟩).length y.2, .slice p3 Q.length q3]::.st (sl y.1 y.2 (Xcs R ⟨key,elem,gen,⟨no,sq⟩⟩))::.st (sl p1 q1 C)::.st (sl p3 q3 Q)::.own br 38 [.slice none 0 0, .slice none 0 0, .slice none 0 0]::[]) rfl (fun w1 hw=>Xw7 hf.r ht (by omega) hw) ?_
  rintro ⟨p,q⟩
  dsimp only
  refine wz9 ?_
  exact Xab ((p1,q1),(p,q),(p3,q3)) rfl
 ·have e1:stDone ⟨C,R,Q⟩ ⟨2,key,elem,m⟩ ⟨no,sq⟩ gen=⟨C,R,addP Q ⟨key,elem,⟨no,sq⟩⟩⟩:=by simp [stDone]
  rw [e1]
  dsimp only
  refine Wf (Xac (k:=2) (by decide)) rfl ?_
  refine JO.reslot 39 (.pointer (some ⟨ba,2,none⟩)) rfl ?_
  refine wz6 ?_
  refine JR.more (Γ':=.own bt 38 [.slice p1 C.length q1, .slice p2 R.length q2, .slice p3 Q.length q3]::.own bo 26 [.int .i64 2, .string key, .string elem, .int .i64 m]::.own be 24 [.int .i64 no, .int .i64 sq]::.st (sl p1 q1 C)::.st (sl p2 q2 R)::.st (sl p3 q3 Q)::.own br 38 [.slice none 0 0, .slice none 0 0, .slice none 0 0]::[]) (fun w1 ho=>ho.ent) ?_
  refine Xax (v:=fun _:Option Addr × Nat=>.tuple ⟨[]⟩) (B:=fun y=>.own bt 38 [.slice p1 C.length q1, .slice p2 R.length q2, .slice y.1 (addP Q ⟨key,elem,⟨no,sq⟩⟩).length y.2]::.st (sl y.1 y.2 (addP Q ⟨key,elem,⟨no,sq⟩⟩))::.st (sl p1 q1 C)::.st (sl p2 q2 R)::.own br 38 [.slice none 0 0, .slice none 0 0, .slice none 0 0]::[]) rfl (fun w1 hw=>Xw8 hf.p ht (by omega) hw) ?_
  rintro ⟨p,q⟩
  dsimp only
  refine wz9 ?_
  exact Xab ((p1,q1),(p2,q2),(p,q)) rfl
 ·have e1:stDone ⟨C,R,Q⟩ ⟨3,key,elem,m⟩ ⟨no,sq⟩ gen=⟨C,R,delP Q key elem⟩:=by simp [stDone]
  rw [e1]
  dsimp only
  refine Wf (Xac (k:=3) (by decide)) rfl ?_
  refine JO.reslot 39 (.pointer (some ⟨ba,3,none⟩)) rfl ?_
  refine wz6 ?_
  refine JR.more (Γ':=.own bt 38 [.slice p1 C.length q1, .slice p2 R.length q2, .slice p3 Q.length q3]::.own bo 26 [.int .i64 3, .string key, .string elem, .int .i64 m]::.st (sl p1 q1 C)::.st (sl p2 q2 R)::.st (sl p3 q3 Q)::.own br 38 [.slice none 0 0, .slice none 0 0, .slice none 0 0]::[]) (fun w1 ho=>ho.ent) ?_
  refine Xax (v:=fun _:Option Addr × Nat=>.tuple ⟨[]⟩) (B:=fun y=>.own bt 38 [.slice p1 C.length q1, .slice p2 R.length q2, .slice y.1 (delP Q key elem).length y.2]::.st (sl y.1 y.2 (delP Q key elem))::.st (sl p1 q1 C)::.st (sl p2 q2 R)::.own br 38 [.slice none 0 0, .slice none 0 0, .slice none 0 0]::[]) rfl (fun w1 hw=>Xw9 hf.p (by omega) hw) ?_
  rintro ⟨p,q⟩
  dsimp only
  refine wz9 ?_
  exact Xab ((p1,q1),(p2,q2),(p,q)) rfl
theorem Hold.start9 {w0:World} {F:Nat→Prop} {A B C D E G H I J:Asn} (h1:A.holds F w0) (h2:B.holds F w0) (h3:C.holds F w0) (h4:D.holds F w0) (h5:E.holds F w0) (h6:G.holds F w0) (h7:H.holds F w0) (h8:I.holds F w0) (h9:J.holds F w0):Hold w0 F [.st A, .st B, .st C, .st D, .st E, .st G, .st H, .st I, .st J] w0 :=
 (((Hold.start6 h4 h5 h6 h7 h8 h9).add (Asn.mono _ _ _ _ (fun k hk=>⟨.inl hk,by simp [free,Fact.owns]⟩) h3)).add (Asn.mono _ _ _ _ (fun k hk=>⟨.inl hk,by simp [free,Fact.owns]⟩) h2)).add (Asn.mono _ _ _ _ (fun k hk=>⟨.inl hk,by simp [free,Fact.owns]⟩) h1)
theorem Held.fine {K:List ByteArray} {R:List Reg_} {Q:List Pair_} {s:State_} (h:Held K R Q s) (fk:∀ k∈K,k.size < 4611686018427387904) (fr:∀ r∈R,Xiz r) (fp:∀ p∈Q,Xhm p):fineS s :=
 ⟨fun c hc=>fk _ (h.c c hc),fun r hr=>fr r (h.r r hr),fun p hp=>fp p (h.p p hp)⟩
theorem Xq8 (s t u:State_) (K:List ByteArray) (RR:List Reg_) (QQ:List Pair_) (pc pr pp qc qr qp uc ur up:Option Addr) (kc kr kp lc lr lp mc mr mp:Nat) (h1:(sl pc kc s.c).holds F w) (h2:(sl pr kr s.r).holds F w) (h3:(sl pp kp s.p).holds F w)
  (h4:(sl qc lc t.c).holds F w) (h5:(sl qr lr t.r).holds F w) (h6:(sl qp lp t.p).holds F w) (h7:(sl uc mc u.c).holds F w) (h8:(sl ur mr u.r).holds F w) (h9:(sl up mp u.p).holds F w)
  (hs:Held K RR QQ s) (ht:Held K RR QQ t) (hu:Held K RR QQ u) (hK:K.length≤12) (hR:RR.length≤1000) (hQ:QQ.length≤1000) (fk:∀ k∈K,k.size < 4611686018427387904) (fr:∀ r∈RR,Xiz r) (fp:∀ p∈QQ,Xhm p) :
  Gives prog 161 [.agg ⟨[.slice pc s.c.length kc, .slice pr s.r.length kr, .slice pp s.p.length kp]⟩, .agg ⟨[.slice qc t.c.length lc, .slice qr t.r.length lr, .slice qp t.p.length lp]⟩, .agg ⟨[.slice uc u.c.length mc, .slice ur u.r.length mr, .slice up u.p.length mp]⟩] w F
   (fun y:Sa=>.tuple ⟨[.agg ⟨stC (stMerge s t u).1 y⟩, .int .i64 (stMerge s t u).2]⟩) (fun y=>stF (stMerge s t u).1 y):=by
 have fs:=hs.fine fk fr fp
 have ft:=ht.fine fk fr fp
 have fu:=hu.fine fk fr fp
 have lt:=ht.lens
 have lu:=hu.lens
 have cs:=hs.c
 have ct:=ht.c
 have cu:=hu.c
 have hm:=ht.may
 clear hs ht hu hm
 obtain ⟨C,R,Q⟩:=s
 obtain ⟨C2,R2,Q2⟩:=t
 obtain ⟨C3,R3,Q3⟩:=u
 dsimp only at h1 h2 h3 h4 h5 h6 h7 h8 h9 lt lu cs ct cu
 refine Xaa func161 rfl ntmps161 rfl rfl [.st (sl pc kc C), .st (sl pr kr R), .st (sl pp kp Q), .st (sl qc lc C2), .st (sl qr lr R2), .st (sl qp lp Q2), .st (sl uc mc C3), .st (sl ur mr R3), .st (sl up mp Q3)] (.start9 h1 h2 h3 h4 h5 h6 h7 h8 h9) ?_
 dsimp only
 (repeat (refine wE ?_; intro _)); refine wA ?_
 rename_i b3 b4 b5 br
 refine JR.callV rfl (fun w1 hw=>Xhn w1 _ ⟨C,R,Q⟩ pc pr pp kc kr kp hw.get hw.get hw.get fs) ?_
 cases m1:Xex ⟨C,R,Q⟩ with
 | false =>
  rw [show stMerge ⟨C,R,Q⟩ ⟨C2,R2,Q2⟩ ⟨C3,R3,Q3⟩=(st0,1) by unfold stMerge; rw [m1]; rfl]
  refine wz8 ?_
  refine Wf (OpV.build [.slice none 0 0, .slice none 0 0, .slice none 0 0] (by kernel_rfl)) rfl ?_
  refine wz9 ?_
  refine CT.done ((none,0),(none,0),(none,0)) rfl (fun w ho=>?_)
  have h9:=((ho.add (A:=sl (α:=Pair_) none 0 []) Xau).add (A:=sl (α:=Reg_) none 0 []) Xau).add (A:=sl (α:=Ctr_) none 0 []) Xau
  exact (show Hold _ _ [.st (sl (α:=Ctr_) none 0 []), .st (sl (α:=Reg_) none 0 []), .st (sl (α:=Pair_) none 0 [])] w from h9.ent)
 | true =>
 refine wz1 ?_
 refine JR.callV rfl (fun w1 hw=>Xhn w1 _ ⟨C2,R2,Q2⟩ qc qr qp lc lr lp hw.get hw.get hw.get ft) ?_
 cases m2:Xex ⟨C2,R2,Q2⟩ with
 | false =>
  rw [show stMerge ⟨C,R,Q⟩ ⟨C2,R2,Q2⟩ ⟨C3,R3,Q3⟩=(st0,1) by unfold stMerge; rw [m1,m2]; rfl]
  refine wz8 ?_
  refine Wf (OpV.build [.slice none 0 0, .slice none 0 0, .slice none 0 0] (by kernel_rfl)) rfl ?_
  refine wz9 ?_
  refine CT.done ((none,0),(none,0),(none,0)) rfl (fun w ho=>?_)
  have h9:=((ho.add (A:=sl (α:=Pair_) none 0 []) Xau).add (A:=sl (α:=Reg_) none 0 []) Xau).add (A:=sl (α:=Ctr_) none 0 []) Xau
  exact (show Hold _ _ [.st (sl (α:=Ctr_) none 0 []), .st (sl (α:=Reg_) none 0 []), .st (sl (α:=Pair_) none 0 [])] w from h9.ent)
 | true =>
 refine wz1 ?_
 refine JR.callV rfl (fun w1 hw=>Xhn w1 _ ⟨C3,R3,Q3⟩ uc ur up mc mr mp hw.get hw.get hw.get fu) ?_
 cases m3:Xex ⟨C3,R3,Q3⟩ with
 | false =>
  rw [show stMerge ⟨C,R,Q⟩ ⟨C2,R2,Q2⟩ ⟨C3,R3,Q3⟩=(st0,1) by unfold stMerge; rw [m1,m2,m3]; rfl]
  refine wz8 ?_
  refine Wf (OpV.build [.slice none 0 0, .slice none 0 0, .slice none 0 0] (by kernel_rfl)) rfl ?_
  refine wz9 ?_
  refine CT.done ((none,0),(none,0),(none,0)) rfl (fun w ho=>?_)
  have h9:=((ho.add (A:=sl (α:=Pair_) none 0 []) Xau).add (A:=sl (α:=Reg_) none 0 []) Xau).add (A:=sl (α:=Ctr_) none 0 []) Xau
  exact (show Hold _ _ [.st (sl (α:=Ctr_) none 0 []), .st (sl (α:=Reg_) none 0 []), .st (sl (α:=Pair_) none 0 [])] w from h9.ent)
 | true =>
 rw [show stMerge ⟨C,R,Q⟩ ⟨C2,R2,Q2⟩ ⟨C3,R3,Q3⟩=(⟨mergeT C C2 C3,Xcj R2 R3,Xea Q Q2 Q3⟩,0) by unfold stMerge; rw [m1,m2,m3]; rfl]
 dsimp only
 refine wz7 ?_
 refine JC.drawP mixed ?_
 refine Xad 0 ?_
 refine JP.tv 1 [.own b3 38 [.slice pc C.length kc, .slice pr R.length kr, .slice pp Q.length kp]] ?_
 refine Xad 2 ?_
 refine JP.tv 3 [.own b4 38 [.slice qc C2.length lc, .slice qr R2.length lr, .slice qp Q2.length lp]] ?_
 refine Xad 4 ?_
 refine JP.tv 5 [.own b5 38 [.slice uc C3.length mc, .slice ur R3.length mr, .slice up Q3.length mp]] ?_
 refine Xad 7 ?_
 refine JP.tv 8 [.own b4 38 [.slice qc C2.length lc, .slice qr R2.length lr, .slice qp Q2.length lp]] ?_
 refine Xad 9 ?_
 refine JP.tv 10 [.own b5 38 [.slice uc C3.length mc, .slice ur R3.length mr, .slice up Q3.length mp]] ?_
 refine Xad 12 ?_
 refine JP.tv 13 [.own b3 38 [.slice pc C.length kc, .slice pr R.length kr, .slice pp Q.length kp]] ?_
 refine Xad 14 ?_
 refine JP.tv 15 [.own b4 38 [.slice qc C2.length lc, .slice qr R2.length lr, .slice qp Q2.length lp]] ?_
 refine Xad 16 ?_
 refine JP.tv 17 [.own b5 38 [.slice uc C3.length mc, .slice ur R3.length mr, .slice up Q3.length mp]] ?_
 refine Xal 6 rfl rfl (JR.callSl rfl (fun w1 hw=>(Xvl w1 _ pc qc uc kc lc mc C C2 C3 K hw.get hw.get hw.get hK cs ct cu fk).sl) (fun p1 q1=>Wd (nO ?_)))
 refine Xal 11 rfl rfl (JR.callSl rfl (fun w1 hw=>(Xt7 w1 _ qr ur lr mr R2 R3 hw.get hw.get ft.r fu.r (by omega)).sl) (fun p2 q2=>Wd (nO ?_)))
 refine Xal 18 rfl rfl (JR.callSl rfl (fun w1 hw=>(Xq6 w1 _ pp qp up kp lp mp Q Q2 Q3 hw.get hw.get hw.get fs.p ft.p fu.p (by omega)).sl) (fun p3 q3=>Wd (nO ?_)))
 refine JP.pure 19 rfl (by kernel_rfl) rfl (fun _=>OpV.build [.slice p1 (mergeT C C2 C3).length q1, .slice p2 (Xcj R2 R3).length q2, .slice p3 (Xea Q Q2 Q3).length q3] (by kernel_rfl)) rfl rfl ?_
 refine JP.reslot 6 (.pointer (some ⟨br,0,none⟩)) rfl ?_
 refine Xal 20 rfl rfl (Wi (Wd (nO ?_)))
 refine Xad 21 ?_
 refine JP.nil (by kernel_rfl) ?_
 refine wz13 ?_
 exact Xab ((p1,q1),(p2,q2),(p3,q3)) rfl
section
attribute [local irreducible] Xat
theorem Xzi (p:Option Addr) (k:Nat) (f:List ID) (h:(sl p k f).holds F w) (hl:f.length≤10000) :
  GivesV prog 99 [.slice p f.length k] w F (.agg ⟨idc (keyF f)⟩):=by
 have hlen:=Xeb f
 refine Xaa func99 rfl ntmps99 rfl rfl [.st (sl p k f)] (.start1 h) ?_
 refine JC.buf_nil (α:=UInt8) 5 ?_
 (repeat (refine wE ?_; intro _)); refine wA ?_
 rename_i br
 refine JC.reown br ((List.replicate 32 (0:UInt8)).map Xaq) (by rw [List.map_replicate]; rfl) ?_
 refine Xcg (fun (i:Nat) (p1:Option Addr) (q1:Nat)=>[(2, .pointer (some ⟨br,0,none⟩)),(3, .slice p1 (idsL (f.take i)).length q1),(6, .slice p f.length k),(7, .int .i64 (f.length:Int)),(8, .int .i64 (i:Int))]) (fun i p1 q1=>[.own br 72 ((List.replicate 32 (0:UInt8)).map Xaq), .res (buf p1 q1 5 (idsL (f.take i))), .st (sl p k f)])
  (fun i _ _=>i≤f.length) (fun i _ _=>f.length - i) 0 none 0 (Nat.zero_le _) (by rw [List.take_zero,show idsL []=[] from rfl]; infer_instance) ?_
 intro i p1 q1 hi
 refine wz11 ?_
 refine JC.test (fun hlt=>?_) (fun hge=>?_)
 ·have hlt':i < f.length:=by omega
  refine wz14 ?_
  refine Xbx rfl hlt' ?_
  intro b o
  (repeat (refine wE ?_; intro _)); refine wA ?_
  have hil:=Xeb (f.take i)
  rw [List.length_take] at hil
  refine Wf (Xcv (by decide)) rfl ?_
  refine We rfl ?_
  refine Xer (M:=(f[i]).1) rfl rfl rfl (f[i]).2 (by exact ⟨rfl,rfl,by decide⟩) (by omega) ?_
  intro p3 q3
  refine wz2 ?_
  exact ⟨i+1,p3,q3,by omega,by omega,by rw [Xo4 _ _ hlt']; infer_instance⟩
 ·obtain rfl:i=f.length:=by omega
  rw [List.take_length]
  refine JC.more (Γ':=.res (buf p1 q1 5 (idsL f))::.own br 72 ((List.replicate 32 (0:UInt8)).map Xaq)::.st (sl p k f)::[]) (fun w1 ho=>ho.ent) ?_
  refine JC.more (fun w1 ho=>ho.pub) ?_
  refine wz3 ?_
  refine JR.callV rfl (fun w1 hw=>Xv2 w1 _ p1 q1 (idsL f) hw.get (by omega)) ?_
  refine wz13 ?_
  have hz:((List.replicate 32 (0:UInt8)).map Xaq).length=32:=by simp
  refine Xpn (idc (sumI (idsL f))) (Xbw _) ⟨by rw [Xbw,hz]; exact Nat.le_refl _,by rw [Xbw,List.drop_of_length_le (by omega)]; simp⟩ ?_
  refine wz10 ?_
  exact Xab () rfl
abbrev SRow:=(ID × State_) × Sa
def memV (R:List SRow):List (ID × Value):=R.map fun r=>(r.1.1, .agg ⟨stC r.1.2 r.2⟩)
def memO (R:List SRow):Memo:=R.map (·.1)
def stA (s:State_) (a:Sa):List Asn:=[sl a.1.1 a.1.2 s.c,sl a.2.1.1 a.2.1.2 s.r,sl a.2.2.1 a.2.2.2 s.p]
def memA (R:List SRow):Asn where
 holds F w:=∀ r∈R,∀ A∈stA r.1.2 r.2,A.holds F w
 mono F G w h hh:=fun r hr A hA=>A.mono F G w h (hh r hr A hA)
 frame F w w' hk h:=fun r hr A hA=>A.frame F w w' hk (h r hr A hA)
 within F w h:=fun r hr A hA=>A.within F w (h r hr A hA)
def updR (R:List SRow) (k:ID) (s:State_) (a:Sa):List SRow :=
 match R.findIdx? (fun r=>decide (r.1.1=k)) with
 | some i=>R.modify i fun _=>((k,s),a)
 | none=>R++[((k,s),a)]
theorem Xk8 (R:List SRow):(memV R).map (·.1)=(memO R).map (·.1):=by simp [memV,memO,Function.comp_def]
theorem Xid {α β:Type} (f:α→β) (L:List α) (i:Nat) (x:α):(L.modify i fun _=>x).map f=(L.map f).modify i fun _=>f x:=by
 apply List.ext_getElem?
 intro j
 simp only [List.getElem?_map,List.getElem?_modify]
 by_cases h:i=j
 ·subst h; cases L[i]? <;> simp
 ·simp [h]
theorem Xsc (R:List SRow) (k:ID) (s:State_) (a:Sa):memO (updR R k s a)=updS (memO R) k s:=by
 unfold updR updS memO
 rw [List.findIdx?_map]
 simp only [Function.comp_def]
 cases R.findIdx? (fun r=>decide (r.1.1=k)) with
 | none=>simp
 | some i=>simp only [Xid]
theorem Xsd (R:List SRow) (k:ID) (s:State_) (a:Sa):memV (updR R k s a)=upd (memV R) k (.agg ⟨stC s a⟩):=by
 unfold updR upd plc memV
 rw [List.findIdx?_map]
 simp only [Function.comp_def]
 cases R.findIdx? (fun r=>decide (r.1.1=k)) with
 | none=>simp
 | some i=>simp only [Xid]
theorem Xzj {R:List SRow} {k:ID} {s:State_} {a:Sa} {r:SRow} (h:r∈updR R k s a):r∈R∨r=((k,s),a):=by
 unfold updR at h
 split at h
 ·obtain ⟨j,hj,rfl⟩:=List.getElem_of_mem h
  rw [List.getElem_modify]
  split
  ·exact .inr rfl
  ·exact .inl (List.getElem_mem _)
 ·rcases List.mem_append.1 h with h | h
  ·exact .inl h
  ·exact .inr (List.mem_singleton.1 h)
theorem Xug {M:Memo} (h:(M.map (·.1)).Nodup) (k:ID) (s:State_):((updS M k s).map (·.1)).Nodup:=by
 have e:(updS M k s).map (·.1)=addK (M.map (·.1)) k:=by
  unfold updS addK
  cases h:M.findIdx? (fun p=>decide (p.1=k)) with
  | none =>
   have:k∉M.map (·.1):=by
    intro hk
    obtain ⟨p,hp,rfl⟩:=List.mem_map.1 hk
    have:=List.findIdx?_eq_none_iff.1 h p hp
    simp at this
   rw [if_neg this]; simp
  | some i =>
   obtain ⟨h1,h2,h3⟩:=List.findIdx?_eq_some_iff_getElem.1 h
   have hk:M[i].1=k:=by simpa using h2
   rw [if_pos (List.mem_map.2 ⟨M[i],List.getElem_mem h1,hk⟩)]
   simp only [Xid]
   apply List.ext_getElem?
   intro j
   simp only [List.getElem?_map,List.getElem?_modify]
   by_cases hj:i=j
   ·subst hj; rw [List.getElem?_eq_getElem h1]; simp [hk]
   ·simp [hj]
 rw [e]; exact Xch h k
theorem X1x {R:List SRow} {k:ID}:(getS (memO R) k=none∧Xa4 (memV R) k=none)∨∃ r∈R,getS (memO R) k=some r.1.2∧Xa4 (memV R) k=some (.agg ⟨stC r.1.2 r.2⟩):=by
 unfold getS Xa4 memO memV
 rw [List.find?_map,List.find?_map]
 simp only [Function.comp_def]
 cases h:R.find? (fun r=>decide (r.1.1=k)) with
 | none=>exact .inl ⟨rfl,rfl⟩
 | some r=>exact .inr ⟨r,List.mem_of_find?_eq_some h,rfl,rfl⟩
theorem X1y {F:Nat→Prop} {w:World}:(memA []).holds F w:=fun r hr=>by cases hr
theorem Xxa {R:List SRow} {F:Nat→Prop} {w:World} (h:(memA R).holds F w) {r:SRow} (hr:r∈R):(sl r.2.1.1 r.2.1.2 r.1.2.c).holds F w∧(sl r.2.2.1.1 r.2.2.1.2 r.1.2.r).holds F w∧(sl r.2.2.2.1 r.2.2.2.2 r.1.2.p).holds F w :=
 ⟨h r hr _ (by simp [stA]),h r hr _ (by simp [stA]),h r hr _ (by simp [stA])⟩
theorem Xxb {R:List SRow} {F:Nat→Prop} {w:World} (h:(memA R).holds F w) {k:ID} {s:State_} {a:Sa} (h1:(sl a.1.1 a.1.2 s.c).holds F w) (h2:(sl a.2.1.1 a.2.1.2 s.r).holds F w) (h3:(sl a.2.2.1 a.2.2.2 s.p).holds F w):(memA (updR R k s a)).holds F w:=by
 intro r hr A hA
 rcases Xzj hr with hr | rfl
 ·exact h r hr A hA
 ·simp only [stA,List.mem_cons,List.not_mem_nil,or_false] at hA
  rcases hA with rfl | rfl | rfl
  ·exact h1
  ·exact h2
  ·exact h3
end
end
structure RowP where
 b:Nat
 n:Nat
instance:Cell RowP where
 Ix:=Unit
 sz:=1
 cells r _:=[.slice (some ⟨r.b,0,none⟩) r.n r.n]
 facts _ _:=[]
 len _ _:=rfl
 one r _:=by simp [Value.oneCell']
 pos:=by decide
instance {Γ:List Fact} {b n:Nat}:Typed Γ [.slice (some ⟨b,0,none⟩) n n] (RowP.mk b n):=⟨(),rfl,by simp [Cell.facts]⟩
instance:Cell (List Bool) where
 Ix:=Option Addr × Nat
 sz:=1
 cells l y:=[.slice y.1 l.length y.2]
 facts l y:=[sl y.1 y.2 l]
 len _ _:=rfl
 one l y:=by simp [Value.oneCell']
 pos:=by decide
def X3f (B:List RowP):List Nat:=B.map RowP.b
def rowsHold (t:TypeId) (B:List RowP) (K:List (List Bool)) (w:World):Prop :=
 B.length=K.length∧∀ i (h:i < B.length) (h':i < K.length),B[i].n=K[i].length∧w.heap[B[i].b]? = some (.cells (K[i].map Value.bool).toArray t (0,0))
theorem rowsHold.keep {t:TypeId} {B:List RowP} {K:List (List Bool)} {w w':World} (h:rowsHold t B K w) (hk:∀ r∈B,r.b < w.heap.size→w'.heap[r.b]? = w.heap[r.b]?):rowsHold t B K w':=by
 refine ⟨h.1,fun i hi hi'=>⟨(h.2 i hi hi').1,?_⟩⟩
 have h1:=(h.2 i hi hi').2
 rw [hk _ (List.getElem_mem hi) (Array.getElem?_eq_some_iff.1 h1).1]
 exact h1
theorem rowsHold.lt {t:TypeId} {B:List RowP} {K:List (List Bool)} {w:World} (h:rowsHold t B K w) {r:RowP} (hr:r∈B):r.b < w.heap.size:=by
 obtain ⟨i,hi,rfl⟩:=List.getElem_of_mem hr
 exact (Array.getElem?_eq_some_iff.1 (h.2 i hi (by have:=h.1; omega)).2).1
def X2y (t:TypeId) (B:List RowP) (K:List (List Bool)):Res where
 owns k:=∃ r∈B,r.b=k
 holds F w:=(X3f B).Nodup∧rowsHold t B K w
 keep F G w w' h hF hk:=⟨h.1,h.2.keep fun r hr hlt=>hk r.b hlt (.inr ⟨r,hr,rfl⟩)⟩
 lt F w h k hk:=by obtain ⟨r,hr,rfl⟩:=hk; exact h.2.lt hr
section
variable {P:Program} {n:Nn} {w0:World} {F:Nat→Prop} {ops:Array Oper} {i d:Nat} {t:TypeId} {pos:String} {aft:Array Edge} {g:Option (Nat × Bool)} {os:List Oper} {Q:Cont} {e:E} {Γ:List Fact} [Dr]
theorem Hold.join {w:World} {f g h:Fact} (ho:Hold w0 F (f::g::Γ) w) (hown:∀ k,h.owns k↔f.owns k∨g.owns k) (hs:h.sat (fp w0 F (h::Γ)) w):Hold w0 F (h::Γ) w:=by
 have hfree:∀ k,fp w0 F (f::g::Γ) k→fp w0 F (h::Γ) k:=by
  refine fun k hk=>⟨hk.1,fun f' hf' hown'=>?_⟩
  rcases List.mem_cons.1 hf' with rfl | hf'
  ·rcases (hown k).1 hown' with h1 | h1
   ·exact hk.2 f (by simp) h1
   ·exact hk.2 g (by simp) h1
  ·exact hk.2 f' (by simp [hf']) hown'
 have hp:=List.pairwise_cons.1 ho.dis
 have hp2:=List.pairwise_cons.1 hp.2
 refine ⟨ho.below,fun f' hf'=>?_,?_,?_⟩
 ·rcases List.mem_cons.1 hf' with rfl | hf'
  ·exact hs
  ·exact Fact.sat_keep (ho.sat f' (by simp [hf'])) (fun k hk _=>hfree k hk) (fun _ _ _=>rfl)
 ·refine List.pairwise_cons.2 ⟨fun f' hf' k hk=>?_,hp2.2⟩
  rcases (hown k).1 hk.1 with h1 | h1
  ·exact hp.1 f' (by simp [hf']) k ⟨h1,hk.2⟩
  ·exact hp2.1 f' hf' k ⟨h1,hk.2⟩
 ·intro f' hf' k hk
  rcases List.mem_cons.1 hf' with rfl | hf'
  ·rcases (hown k).1 hk with h1 | h1
   ·exact ho.new f (by simp) k h1
   ·exact ho.new g (by simp) k h1
  ·exact ho.new f' (by simp [hf']) k hk
class HasRows (Γ:List Fact) (bt:outParam TypeId) (B:outParam (List RowP)) (K:outParam (List (List Bool))) (Δ:outParam (List Fact)):Prop where
 ok:Γ.Perm (.res (X2y bt B K)::Δ)
instance (priority:=100) HasRows.miss {g:Fact} {bt:TypeId} {B:List RowP} {K:List (List Bool)} {Δ:List Fact} [h:HasRows Γ bt B K Δ]:HasRows (g::Γ) bt B K (g::Δ) :=
 ⟨(h.ok.cons g).trans (List.Perm.swap _ g Δ)⟩
instance (priority:=1000) HasRows.hit {bt:TypeId} {B:List RowP} {K:List (List Bool)}:HasRows (.res (X2y bt B K)::Γ) bt B K Γ:=⟨List.Perm.refl _⟩
end
section
variable {P:Program} {n:Nn} {w0:World} {F:Nat→Prop} {ops:Array Oper} {i d:Nat} {t:TypeId} {pos:String} {aft:Array Edge} {g:Option (Nat × Bool)} {os:List Oper} {Q:Cont} {e:E} {Γ:List Fact}
end
section
attribute [local irreducible] JC JO JR JQ andThen inBlock OpV Gives Xae JM JS
section
attribute [local irreducible] Xat
def get (K:List (List Bool)) (i j:Nat):Bool:=(K.getD i []).getD j false
def Square (n:Nat) (K:List (List Bool)):Prop:=K.length=n∧∀ i (h:i < K.length),K[i].length=n
theorem Square.set {n:Nat} {K:List (List Bool)} (h:Square n K) {i j:Nat} (hi:i < K.length):Square n (K.set i (K[i].set j true)):=by
 refine ⟨by simp [h.1],fun x hx=>?_⟩
 by_cases hxi:x=i
 ·subst hxi; simp [h.2 x hi]
 ·rw [List.getElem_set_ne (Ne.symm hxi)]; exact h.2 x (by simpa using hx)
structure KnowsR (L:List Commit) (K:List (List Bool)):Prop where
 square:Square L.length K
 iff:∀ i j,get K i j=true↔Xr0 L i j
section
variable {P:Program} {n:Nn} {w0:World} {F:Nat→Prop} {ops:Array Oper} {i d:Nat} {t:TypeId} {pos:String} {aft:Array Edge} {g:Option (Nat × Bool)} {os:List Oper} {Q:Cont} {e:E} {Γ:List Fact}
end
structure GoodI (L:List Commit) (i:Nat):Prop where
 lt:i < L.length
 merge:merge L[i]=false
 one:oneI L i
 at_:(cids L).findIdx? (fun x=>decide (x=idC L[i]))=some i
 ev:∀ j,j < i→evI L i j
instance:Cell Nat where
 Ix:=Unit
 sz:=1
 cells n _:=[natV n]
 facts _ _:=[]
 len _ _:=rfl
 one _ _:=One.ok
 pos:=by decide
instance {Γ:List Fact} {n:Nat}:Typed Γ [natV n] n:=⟨(),rfl,by simp [Cell.facts]⟩
instance {Γ:List Fact} {n:Nat}:Typed Γ [.int .i64 (n:Int)] n:=⟨(),rfl,by simp [Cell.facts]⟩
section
variable {P:Program} {n:Nn} {w0:World} {F:Nat→Prop} {ops:Array Oper} {i d:Nat} {t:TypeId} {pos:String} {aft:Array Edge} {g:Option (Nat × Bool)} {os:List Oper} {Q:Cont} {e:E} {Γ:List Fact}
end
theorem Xxc {a b c:Commit} (h1:leS a b) (h2:leS b c):leS a c:=by
 rcases h1 with h1 | ⟨h1,h3⟩ <;> rcases h2 with h2 | ⟨h2,h4⟩
 ·exact .inl (by omega)
 ·exact .inl (by omega)
 ·exact .inl (by omega)
 ·exact .inr ⟨by omega,Xhz h3 h4⟩
def atC (L:List Commit) (i:Nat):Commit:=L.getD i commit0
structure Ins (L:List Commit) (i:Nat) (O:List Nat):Prop where
 perm:O.Perm (List.range i)
 sorted:O.Pairwise (fun x y=>leS (atC L x) (atC L y))
theorem Ins.length {L:List Commit} {i:Nat} {O:List Nat} (h:Ins L i O):O.length=i:=by rw [h.perm.length_eq,List.length_range]
theorem Ins.lt {L:List Commit} {i:Nat} {O:List Nat} (h:Ins L i O) {j:Nat} (hj:j < O.length):O[j] < i:=List.mem_range.1 (h.perm.mem_iff.1 (List.getElem_mem hj))
theorem Ins.next {L:List Commit} {i:Nat} {O:List Nat} (h:Ins L i O) (at_:Nat) (hle:at_≤O.length) (hup:∀ j (hj:j < O.length),at_≤j→leS (atC L i) (atC L O[j]))
  (hdn:∀ (h0:0 < at_),leS (atC L (O[at_ - 1]'(by omega))) (atC L i)):Ins L (i+1) (O.take at_++[i]++O.drop at_):=by
 refine ⟨?_,?_⟩
 ·rw [List.range_succ,List.append_assoc]
  refine List.Perm.trans ((List.perm_append_comm (l₁:=[i]) (l₂:=O.drop at_)).append_left _) ?_
  rw [← List.append_assoc,List.take_append_drop]
  exact h.perm.append_right _
 ·have hs2:(O.take at_++O.drop at_).Pairwise (fun x y=>leS (atC L x) (atC L y)):=by rw [List.take_append_drop]; exact h.sorted
  rw [List.pairwise_append] at hs2
  rw [List.append_assoc,List.pairwise_append]
  refine ⟨hs2.1,?_,?_⟩
  ·rw [List.singleton_append,List.pairwise_cons]
   refine ⟨fun y hy=>?_,hs2.2.1⟩
   obtain ⟨j,hj,rfl⟩:=List.getElem_of_mem hy
   rw [List.length_drop] at hj
   rw [List.getElem_drop]
   exact hup _ (by omega) (by omega)
  ·intro y hy z hz
   rcases List.mem_append.1 hz with hz | hz
   ·rw [List.mem_singleton.1 hz]
    obtain ⟨j,hj,rfl⟩:=List.getElem_of_mem hy
    rw [List.length_take] at hj
    have h0:0 < at_:=by omega
    rw [List.getElem_take]
    by_cases hja:j=at_ - 1
    ·subst hja; exact hdn h0
    ·exact Xxc (List.pairwise_iff_getElem.1 h.sorted j (at_ - 1) (by omega) (by omega) (by omega)) (hdn h0)
   ·exact hs2.2.2 y hy z hz
end
section
attribute [local irreducible] Xat idA l0 l1 ents
theorem Xk9 {L:List Commit} {b c:Bool} (h:b=true↔Closed L) (k:c=true↔Closed L):b=c:=Bool.eq_iff_iff.2 (h.trans k.symm)
theorem PartR.unique {L:List Commit} {A:List ID} {M N:List Commit} (h:PartR L A M) (k:PartR L A N):M=N:=by
 by_cases hc:Closed L
 ·rw [h.part hc,k.part hc]
 ·rw [h.not hc,k.not hc]
theorem SortedR.unique {L M N:List Commit} (h:SortedR L M) (k:SortedR L N):M=N:=by
 by_cases hc:Closed L
 ·exact Xls hc.nodup (h.perm hc) (k.perm hc) (h.sorted hc) (k.sorted hc)
 ·rw [h.not hc,k.not hc]
theorem Xef (a:Option Addr) (k:Nat) (L:List Commit) (b:Bool) (h:(sl a k L).holds F w) (hl:L.length≤1000) (hf:∀ x∈L,fine x) (hb:b=true↔Closed L) :
  GivesV prog 17 [.slice a L.length k] w F (.bool b):=by
 have h0:=Xh9 w F a k L h (by omega) hf
 unfold Gives at h0
 unfold GivesV Gives
 refine Calls.mono h0 ?_
 rintro e w' ⟨y,rfl,h1,hB⟩
 refine ⟨(),?_,h1,hB⟩
 have:=Xk9 y.2 hb
 dsimp only
 rw [this]
theorem Xxd (a d:Option Addr) (k m:Nat) (L M:List Commit) (A:List ID) (h:(sl a k L).holds F w) (h':(sl d m A).holds F w) (hl:L.length≤1000) (hf:∀ x∈L,fine x) (hM:PartR L A M) :
  Xcp prog 94 [.slice a L.length k, .slice d A.length m] w F M:=by
 have h0:=Xr5 w F a d k m L A h h' hl hf
 unfold Gives at h0
 unfold Xcp Gives
 refine Calls.mono h0 ?_
 rintro e w' ⟨⟨⟨N,p,q⟩,hN⟩,rfl,hb,hB⟩
 have:N=M:=hN.unique hM
 subst this
 exact ⟨(p,q),rfl,hb,hB⟩
end
section
attribute [local irreducible] Xat
structure EvL (L:List Commit):Prop where
 closed:Closed L
 len:L.length≤11
 fine:∀ x∈L,fine x
theorem EvL.fk {L:List Commit} (h:EvL L):∀ k∈Xwn L,k.size < 4611686018427387904:=fun k hk=>by
 obtain ⟨c,hc,rfl⟩:=List.mem_map.1 hk; exact (h.fine c hc).1.1
theorem EvL.fr {L:List Commit} (h:EvL L):∀ r∈Xwo L,Xiz r:=fun k hk=>by
 obtain ⟨c,hc,rfl⟩:=List.mem_map.1 hk; exact (h.fine c hc).1
theorem EvL.fp {L:List Commit} (h:EvL L):∀ p∈Xpg L,Xhm p:=fun k hk=>by
 obtain ⟨c,hc,rfl⟩:=List.mem_map.1 hk; exact (h.fine c hc).1
theorem EvL.lens {L:List Commit} (h:EvL L) {s:State_} (hs:Xib L s):s.c.length≤11∧s.r.length≤1000∧s.p.length≤1000:=by
 have h1:=hs.lens
 have h2:=h.len
 simp only [Xwn,Xwo,Xpg,List.length_map] at h1
 omega
theorem EvL.find {L:List Commit} (h:EvL L) (x:ID):Xs8 (Xcf L x).1∧(Xcf L x).1.parents.length≤8:=by
 rcases Xwp L x with hm | hm
 ·refine ⟨(h.fine _ hm).1,?_⟩
  have:=h.closed.may _ hm
  unfold may at this
  split at this
  ·cases this
  ·rename_i hx
   simp only [Bool.or_eq_true,not_or,decide_eq_true_eq] at hx
   omega
 ·rw [hm]; exact ⟨⟨by decide,by decide⟩,by decide⟩
abbrev EvY (M:Memo):=Sa × { R:List SRow // memO R=M }
def OfC (L:List Commit) (a:Option Addr) (k bw bm:Nat) (of:OfT):Prop :=
 ∀ (w0 w:World) (F:Nat→Prop) (Γ:List Fact) (R:List SRow) (p:Option Addr) (q:Nat) (f:List ID) (u:State_ × Memo),of (memO R) f=some u→Xi6 L (memO R)→((memO R).map (·.1)).Nodup→f.length≤500 →
  Hold w0 F (.own bw 83 [.slice a L.length k, .map (some bm)]::.omap bm (ents idV (memV R)) (memV R).length::.st (memA R)::.st (sl a k L)::.st (sl p q f)::Γ) w→Calls prog 43 ⟨[.pointer (some ⟨bw,0,none⟩), .slice p f.length q]⟩ w fun x w'=>∃ y:EvY u.2,x = .returned (.agg ⟨stC u.1 y.1⟩) ∧
   Hold w0 F (.own bw 83 [.slice a L.length k, .map (some bm)]::.omap bm (ents idV (memV y.2.1)) (memV y.2.1).length::.st (memA y.2.1)::.st (sl a k L)::.st (sl y.1.1.1 y.1.1.2 u.1.c)::.st (sl y.1.2.1.1 y.1.2.1.2 u.1.r)::.st (sl y.1.2.2.1 y.1.2.2.2 u.1.p)::Γ) w'
theorem Xzk {L:List Commit} (hL:EvL L) {a:Option Addr} {k bw bm:Nat} {of:OfT} (ih:OfC L a k bw bm of) (hh:Xwr L of) {w0 w:World} {F:Nat→Prop} {Γ:List Fact} {R:List SRow} (x:ID) (u:State_ × Memo) (hu:oneF of L (memO R) x=some u) (hM:Xi6 L (memO R)) (hn:((memO R).map (·.1)).Nodup)
  (ho:Hold w0 F (.own bw 83 [.slice a L.length k, .map (some bm)]::.omap bm (ents idV (memV R)) (memV R).length::.st (memA R)::.st (sl a k L)::Γ) w):Calls prog 100 ⟨[.pointer (some ⟨bw,0,none⟩), .agg ⟨idc x⟩]⟩ w fun r w'=>∃ y:EvY u.2,r = .returned (.agg ⟨stC u.1 y.1⟩) ∧
   Hold w0 F (.own bw 83 [.slice a L.length k, .map (some bm)]::.omap bm (ents idV (memV y.2.1)) (memV y.2.1).length::.st (memA y.2.1)::.st (sl a k L)::.st (sl y.1.1.1 y.1.1.2 u.1.c)::.st (sl y.1.2.1.1 y.1.2.1.2 u.1.r)::.st (sl y.1.2.2.1 y.1.2.2.2 u.1.p)::Γ) w':=by
 obtain ⟨htx,hpl⟩:=hL.find x
 have hfind:=fun (w1:World) (G:Nat→Prop) (h:(sl a k L).holds G w1)=>Xyw w1 G a k L x h hL.fine
 have hheld:=fun s (h:Xib L s)=>Xwq h x
 unfold oneF at hu
 have hll:=hL.len
 generalize (Xcf L x).2=fb at hfind
 generalize (Xcf L x).1=c at hu htx hpl hheld hfind
 obtain ⟨⟨s,M1⟩,hu1,rfl⟩:=Option.map_eq_some_iff.1 hu
 obtain ⟨hs,hM1⟩:=hh _ _ _ hu1 hM
 obtain ⟨lc,lr,lp⟩:=hL.lens hs
 have hfs:=hs.fine hL.fk hL.fr hL.fp
 dsimp only at hs hM1 lc lr lp hfs
 clear hu hheld
 dsimp only
 refine Xbu (v:=fun y:EvY M1=>.agg ⟨stC (stDo s c.op c.ev c.gen).1 y.1⟩) (B:=fun y=>.own bw 83 [.slice a L.length k, .map (some bm)]::.omap bm (ents idV (memV y.2.1)) (memV y.2.1).length::.st (memA y.2.1)::.st (sl a k L)::.st (sl y.1.1.1 y.1.1.2 (stDo s c.op c.ev c.gen).1.c)::.st (sl y.1.2.1.1 y.1.2.1.2 (stDo s c.op c.ev c.gen).1.r)::.st (sl y.1.2.2.1 y.1.2.2.2 (stDo s c.op c.ev c.gen).1.p)::Γ)
  func100 rfl ntmps100 rfl rfl _ ho ?_
 (repeat (refine wE ?_; intro _)); refine wA ?_
 rename_i bx br
 refine Xfi (fun y:Nat × Option Addr × Nat=>[(0, .pointer (some ⟨bw,0,none⟩)),(4, .pointer (some ⟨br,0,none⟩)),(5, .pointer (some ⟨y.1,0,none⟩))]) (fun y=>.own bw 83 [.slice a L.length k, .map (some bm)]::.omap bm (ents idV (memV R)) (memV R).length::.st (memA R)::.st (sl a k L)::.st (sl y.2.1 y.2.2 c.parents)::.own y.1 31 [.int .i64 c.ev.node, .int .i64 c.ev.seq, .int .i64 c.gen, .slice y.2.1 c.parents.length y.2.2, .int .i64 c.op.kind, .string c.op.key, .string c.op.elem, .int .i64 c.op.n]::.own br 38 [.slice none 0 0, .slice none 0 0, .slice none 0 0]::Γ) ?_ ?_
 ·refine JC.drawP mixed ?_
  refine Xad 0 ?_
  refine Xad 1 ?_
  refine Xad 2 ?_
  refine JP.tv 3 [.own bw 83 [.slice a L.length k, .map (some bm)]] ?_
  refine JP.tv 4 [.own bx 72 (idc x)] ?_
  refine JP.both 5 9 (by kernel_rfl) rfl rfl rfl rfl (JR.call (v:=fun y:Option Addr × Nat=>.tuple ⟨[Xbk c y.1 y.2, .bool fb]⟩) rfl (fun w1 hw=>hfind w1 _ hw.get) (fun y=>Wd (nO ?_))) (Wg rfl (fun bc=>Wd (nO ?_)))
  ·obtain ⟨pc,qc⟩:=y
   dsimp only [List.cons_append,List.nil_append]
   refine Xad 6 ?_
   refine Xad 7 ?_
   refine Xad 8 ?_
   refine Xal 9 rfl rfl (Wg rfl (fun bc=>Wd (nO ?_)))
   refine JP.reslot 5 (.pointer (some ⟨bc,0,none⟩)) rfl ?_
   refine Xal 10 rfl rfl (Wi (Wd (nO ?_)))
   refine Xad 11 ?_
   refine JP.nil (by kernel_rfl) ?_
   exact ⟨rfl,(bc,pc,qc),iI⟩
  ·refine Xal 5 rfl rfl (JR.call (v:=fun y:Option Addr × Nat=>.tuple ⟨[Xbk c y.1 y.2, .bool fb]⟩) rfl (fun w1 hw=>hfind w1 _ hw.get) (fun y=>Wd (nO ?_)))
   obtain ⟨pc,qc⟩:=y
   dsimp only [List.cons_append,List.nil_append]
   refine Xad 6 ?_
   refine Xad 7 ?_
   refine Xad 8 ?_
   refine JP.reslot 5 (.pointer (some ⟨bc,0,none⟩)) rfl ?_
   refine Xal 10 rfl rfl (Wi (Wd (nO ?_)))
   refine Xad 11 ?_
   refine JP.nil (by kernel_rfl) ?_
   exact ⟨rfl,(bc,pc,qc),iI⟩
 rintro ⟨bc,pc,qc⟩
 dsimp only
 refine wz14 ?_
 refine JC.drawP mixed ?_
 refine Xad 0 ?_
 refine Xad 1 ?_
 refine JP.tv 2 [.own bc 31 [.int .i64 c.ev.node, .int .i64 c.ev.seq, .int .i64 c.gen, .slice pc c.parents.length qc, .int .i64 c.op.kind, .string c.op.key, .string c.op.elem, .int .i64 c.op.n]] ?_
 refine Xad 4 ?_
 refine JP.tv 5 [.own bc 31 [.int .i64 c.ev.node, .int .i64 c.ev.seq, .int .i64 c.gen, .slice pc c.parents.length qc, .int .i64 c.op.kind, .string c.op.key, .string c.op.elem, .int .i64 c.op.n]] ?_
 refine Xad 6 ?_
 refine JP.tv 7 [.own bc 31 [.int .i64 c.ev.node, .int .i64 c.ev.seq, .int .i64 c.gen, .slice pc c.parents.length qc, .int .i64 c.op.kind, .string c.op.key, .string c.op.elem, .int .i64 c.op.n]] ?_
 refine Xad 8 ?_
 refine JP.tv 9 [.own bc 31 [.int .i64 c.ev.node, .int .i64 c.ev.seq, .int .i64 c.gen, .slice pc c.parents.length qc, .int .i64 c.op.kind, .string c.op.key, .string c.op.elem, .int .i64 c.op.n]] ?_
 refine JP.more (Γ':=.own bw 83 [.slice a L.length k, .map (some bm)]::.omap bm (ents idV (memV R)) (memV R).length::.st (memA R)::.st (sl a k L)::.st (sl pc qc c.parents)::.own bc 31 [.int .i64 c.ev.node, .int .i64 c.ev.seq, .int .i64 c.gen, .slice pc c.parents.length qc, .int .i64 c.op.kind, .string c.op.key, .string c.op.elem, .int .i64 c.op.n]::.own br 38 [.slice none 0 0, .slice none 0 0, .slice none 0 0]::Γ) (fun w1 ho=>ho.ent) ?_
 refine JP.both 3 14 (by kernel_rfl) rfl rfl rfl rfl (Xax (v:=fun y:EvY M1=>.agg ⟨stC s y.1⟩) (B:=fun y=>.own bw 83 [.slice a L.length k, .map (some bm)]::.omap bm (ents idV (memV y.2.1)) (memV y.2.1).length::.st (memA y.2.1)::.st (sl a k L)::.st (sl y.1.1.1 y.1.1.2 s.c)::.st (sl y.1.2.1.1 y.1.2.1.2 s.r)::.st (sl y.1.2.2.1 y.1.2.2.2 s.p)::.own bc 31 [.int .i64 c.ev.node, .int .i64 c.ev.seq, .int .i64 c.gen, .slice pc c.parents.length qc, .int .i64 c.op.kind, .string c.op.key, .string c.op.elem, .int .i64 c.op.n]::.own br 38 [.slice none 0 0, .slice none 0 0, .slice none 0 0]::Γ) rfl (fun w1 hw=>ih _ _ _ (.own bc 31 [.int .i64 c.ev.node, .int .i64 c.ev.seq, .int .i64 c.gen, .slice pc c.parents.length qc, .int .i64 c.op.kind, .string c.op.key, .string c.op.elem, .int .i64 c.op.n]::.own br 38 [.slice none 0 0, .slice none 0 0, .slice none 0 0]::Γ) R pc qc c.parents (s,M1) hu1 hM hn (by omega) hw) (fun y=>Wd (nO ?_))) (Wg rfl (fun bs=>Wd (nO ?_)))
 ·obtain ⟨⟨⟨ac,kc⟩,⟨ar,kr⟩,⟨ap,kp⟩⟩,⟨R2,hR2⟩⟩:=y
  dsimp only [stC]
  refine JP.both 10 14 (by kernel_rfl) rfl rfl rfl rfl (JR.call (v:=fun y:Sa=>.tuple ⟨[.agg ⟨stC (stDo s c.op c.ev c.gen).1 y⟩, .int .i64 (stDo s c.op c.ev c.gen).2]⟩) rfl (fun w1 hw=>Xjo w1 _ s c.op c.ev c.gen ac ar ap kc kr kp hw.get hw.get hw.get hfs htx lc (by omega) (by omega)) (fun z=>Wd (nO ?_))) (Wg rfl (fun bs=>Wd (nO ?_)))
  ·obtain ⟨⟨zc,jc⟩,⟨zr,jr⟩,⟨zp,jp⟩⟩:=z
   dsimp only [stC,stF,List.cons_append,List.nil_append]
   refine Xad 11 ?_
   refine Xad 12 ?_
   refine Xad 13 ?_
   refine Xal 14 rfl rfl (Wg rfl (fun bs=>Wd (nO ?_)))
   refine JP.reslot 7 (.pointer (some ⟨bs,0,none⟩)) rfl ?_
   refine Xal 15 rfl rfl (Wi (Wd (nO ?_)))
   refine Xad 16 ?_
   refine JP.nil (by kernel_rfl) ?_
   refine wz9 ?_
   exact Xab (((zc,jc),(zr,jr),(zp,jp)),⟨R2,hR2⟩) rfl
  ·refine Xal 10 rfl rfl (JR.call (v:=fun y:Sa=>.tuple ⟨[.agg ⟨stC (stDo s c.op c.ev c.gen).1 y⟩, .int .i64 (stDo s c.op c.ev c.gen).2]⟩) rfl (fun w1 hw=>Xjo w1 _ s c.op c.ev c.gen ac ar ap kc kr kp hw.get hw.get hw.get hfs htx lc (by omega) (by omega)) (fun z=>Wd (nO ?_)))
   obtain ⟨⟨zc,jc⟩,⟨zr,jr⟩,⟨zp,jp⟩⟩:=z
   dsimp only [stC,stF,List.cons_append,List.nil_append]
   refine Xad 11 ?_
   refine Xad 12 ?_
   refine Xad 13 ?_
   refine JP.reslot 7 (.pointer (some ⟨bs,0,none⟩)) rfl ?_
   refine Xal 15 rfl rfl (Wi (Wd (nO ?_)))
   refine Xad 16 ?_
   refine JP.nil (by kernel_rfl) ?_
   refine wz9 ?_
   exact Xab (((zc,jc),(zr,jr),(zp,jp)),⟨R2,hR2⟩) rfl
 ·refine JP.more (Γ':=.own bw 83 [.slice a L.length k, .map (some bm)]::.omap bm (ents idV (memV R)) (memV R).length::.st (memA R)::.st (sl a k L)::.st (sl pc qc c.parents)::.own bs 38 [.slice none 0 0, .slice none 0 0, .slice none 0 0]::.own bc 31 [.int .i64 c.ev.node, .int .i64 c.ev.seq, .int .i64 c.gen, .slice pc c.parents.length qc, .int .i64 c.op.kind, .string c.op.key, .string c.op.elem, .int .i64 c.op.n]::.own br 38 [.slice none 0 0, .slice none 0 0, .slice none 0 0]::Γ) (fun w1 ho=>ho.ent) ?_
  refine Xal 3 rfl rfl (Xax (v:=fun y:EvY M1=>.agg ⟨stC s y.1⟩) (B:=fun y=>.own bw 83 [.slice a L.length k, .map (some bm)]::.omap bm (ents idV (memV y.2.1)) (memV y.2.1).length::.st (memA y.2.1)::.st (sl a k L)::.st (sl y.1.1.1 y.1.1.2 s.c)::.st (sl y.1.2.1.1 y.1.2.1.2 s.r)::.st (sl y.1.2.2.1 y.1.2.2.2 s.p)::.own bs 38 [.slice none 0 0, .slice none 0 0, .slice none 0 0]::.own bc 31 [.int .i64 c.ev.node, .int .i64 c.ev.seq, .int .i64 c.gen, .slice pc c.parents.length qc, .int .i64 c.op.kind, .string c.op.key, .string c.op.elem, .int .i64 c.op.n]::.own br 38 [.slice none 0 0, .slice none 0 0, .slice none 0 0]::Γ) rfl (fun w1 hw=>ih _ _ _ (.own bs 38 [.slice none 0 0, .slice none 0 0, .slice none 0 0]::.own bc 31 [.int .i64 c.ev.node, .int .i64 c.ev.seq, .int .i64 c.gen, .slice pc c.parents.length qc, .int .i64 c.op.kind, .string c.op.key, .string c.op.elem, .int .i64 c.op.n]::.own br 38 [.slice none 0 0, .slice none 0 0, .slice none 0 0]::Γ) R pc qc c.parents (s,M1) hu1 hM hn (by omega) hw) (fun y=>Wd (nO ?_)))
  obtain ⟨⟨⟨ac,kc⟩,⟨ar,kr⟩,⟨ap,kp⟩⟩,⟨R2,hR2⟩⟩:=y
  dsimp only [stC]
  refine Xal 10 rfl rfl (JR.call (v:=fun y:Sa=>.tuple ⟨[.agg ⟨stC (stDo s c.op c.ev c.gen).1 y⟩, .int .i64 (stDo s c.op c.ev c.gen).2]⟩) rfl (fun w1 hw=>Xjo w1 _ s c.op c.ev c.gen ac ar ap kc kr kp hw.get hw.get hw.get hfs htx lc (by omega) (by omega)) (fun z=>Wd (nO ?_)))
  obtain ⟨⟨zc,jc⟩,⟨zr,jr⟩,⟨zp,jp⟩⟩:=z
  dsimp only [stC,stF,List.cons_append,List.nil_append]
  refine Xad 11 ?_
  refine Xad 12 ?_
  refine Xad 13 ?_
  refine JP.reslot 7 (.pointer (some ⟨bs,0,none⟩)) rfl ?_
  refine Xal 15 rfl rfl (Wi (Wd (nO ?_)))
  refine Xad 16 ?_
  refine JP.nil (by kernel_rfl) ?_
  refine wz9 ?_
  exact Xab (((zc,jc),(zr,jr),(zp,jp)),⟨R2,hR2⟩) rfl
end
end
section
variable {P:Program} {n:Nn} {w0:World} {F:Nat→Prop} {t:TypeId} {pos:String} {aft:Array Edge} {g:Option (Nat × Bool)} {e:E} {Γ:List Fact}
theorem Xpq [Dr] {x hi' mx:Operand} {a0:Option Addr} {m c k:Nat} {kk k2:IntKind} {j j2:Int} {ty el:TypeId} {ed:TypeDesc} {sz by_ es eb:Nat} {z ez:Value} {d:Option Nat}
  [hx:Ev e x (.slice a0 m c)] [hi:Ev e hi' (.int kk j)] [hm:Ev e mx (.int k2 j2)] [hk:NatI j k] [hk2:NatI j2 k] [hT:Ty P ty (.slice el) sz by_ z] [hE:Ty P el ed es eb ez] (h:∀ w,Hold w0 F Γ w→k≤c) :
  OpV P n w0 F ⟨d, .slice ty x none (some hi') (some mx),t,pos,aft,g⟩ e Γ (.slice a0 k k) :=
 fun a w fr ho=>by
  have hlc:=h w ho
  have h1:=Xaz (P:=P) (t:=ty) w
  have h2:=Xbg (P:=P) (t:=el) w
  have hj:=hk.ok
  have hj2:=hk2.ok
  subst hj hj2
  have hb:(Instr.sliceBound (.int k2 (k:Int)) c .slice3Acap).run P w = .ok k w:=by
   simp [Instr.sliceBound,asIntOf]
   omega
  have hb2:(Instr.sliceBound (.int kk (k:Int)) k .slice3B).run P w = .ok k w:=by
   simp [Instr.sliceBound,asIntOf]
  simp [execOp,hx.ok n a fr,hi.ok n a fr,hm.ok n a fr,Instr.sliceAt,Instr.slice,h1,h2,Instr.sliceBounds,hb,hb2]
  by_cases hc0:k=0
  ·simp [hc0]
  ·cases a0 with
   | none=>simp
   | some a1=>simp [Addr.add]
end
section
attribute [local irreducible] JC JO JR JQ andThen inBlock OpV Gives Xae JM JS
section
attribute [local irreducible] Xat idA l0 l1 ents
theorem Xxe {L:List Commit} {i:Nat} (h:i < L.length):topL (L.take (i+1))=max (topL (L.take i)) L[i].gen:=by
 simp only [topL,List.take_succ_eq_append_getElem h,List.foldl_append,List.foldl_cons,List.foldl_nil]
theorem Xq9 {c:Commit} (h:may c=true):c.parents.length≤8:=by
 unfold may at h
 split at h
 ·cases h
 ·rename_i hn
  simp only [Bool.or_eq_true,not_or,decide_eq_true_eq] at hn
  omega
theorem Xla:∀ {L:List Commit},(∀ c∈L,may c=true)→(Xbi L).length≤8 * L.length
 | [],_=>by simp [Xbi]
 | c::L,h=>by
  have h1:=Xla (L:=L) fun d hd=>h d (by simp [hd])
  have h2:=Xq9 (h c (by simp))
  simp only [Xbi,List.flatMap_cons,List.length_append,List.length_cons] at h1 ⊢
  omega
theorem Xpr {L:List Commit} {A:List ID}:(partF L A).Sublist L:=by
 unfold partF
 split
 ·exact List.filter_sublist
 ·exact List.nil_sublist _
theorem Xxf (a:Option Addr) (k:Nat) (L:List Commit) (h:(sl a k L).holds F w) :
  GivesV prog 39 [.slice a L.length k] w F (.int .i64 (topL L)):=by
 have hL:L.length < 9223372036854775807:=by have:=h.2.2.1; simp only [lim] at this; omega
 refine Xaa func39 rfl ntmps39 rfl rfl [.st (sl a k L)] (.start1 h) ?_
 refine wz4 ?_
 refine Xaj (fun i:Nat=>[(3, .int .i64 (topL (L.take i))),(6, .slice a L.length k),(7, .int .i64 (L.length:Int)),(8, .int .i64 (i:Int))]) (fun i=>[.st (sl a k L)]) (fun i=>i≤L.length) (fun i=>L.length - i) 0 (Nat.zero_le _) (by rw [List.take_zero,show topL []=0 from rfl]; infer_instance) ?_
 intro i hi
 refine wz11 ?_
 refine JC.test (fun hlt=>?_) (fun hge=>?_)
 ·have hlt':i < L.length:=by omega
  refine wz14 ?_
  refine Xb6 rfl hlt' ?_
  intro b1 o1 p1 q1
  (repeat (refine wE ?_; intro _)); refine wA ?_
  refine Wf OpV.max rfl ?_
  refine wz2 ?_
  exact ⟨i+1,by omega,by omega,by rw [Xxe hlt']; infer_instance⟩
 ·obtain rfl:i=L.length:=by omega
  rw [List.take_length]
  refine wz3 ?_
  exact Xab () rfl
theorem Xfh (a:Option Addr) (k:Nat) (L:List Commit) (h:(sl a k L).holds F w) (hl:L.length≤1000) (hf:∀ x∈L,fine x) :
  Xcp prog 40 [.slice a L.length k] w F (frontF L):=by
 refine Xaa func40 rfl ntmps40 rfl rfl [.st (sl a k L)] (.start1 h) ?_
 refine wz10 ?_
 refine JR.callV rfl (fun w1 hw=>Xef w1 _ a k L (closedB L) hw.get (by omega) hf Xbl) ?_
 cases hb:closedB L with
 | false =>
  refine wz8 ?_
  rw [Xwj (fun hc=>by rw [Xan hc] at hb; cases hb)]
  exact CT.done (none,0) rfl (fun w ho=>(ho.ent:Hold _ _ [] w).add Xau)
 | true =>
 have hc:=Xbl.1 hb
 have hpl:=Xla hc.may
 refine wA ?_
 refine JC.buf_nil (α:=ID) 72 ?_
 refine Xcg (fun (i:Nat) p q=>[(0, .slice a L.length k),(3, .slice p (Xbi (L.take i)).length q),(9, .slice a L.length k),(10, .int .i64 (L.length:Int)),(11, .int .i64 (i:Int))])
  (fun i p q=>[.res (buf p q 72 (Xbi (L.take i))), .st (sl a k L)]) (fun i _ _=>i≤L.length) (fun i _ _=>L.length - i) 0 none 0 (Nat.zero_le _) (by rw [List.take_zero,show Xbi []=[] from rfl]; infer_instance) ?_
 intro i p q hi
 refine wz11 ?_
 refine JC.test (fun hlt=>?_) (fun hge=>?_)
 ·have hlt':i < L.length:=by omega
  have h2:=Xqs L (i+1)
  rw [Xhh L i hlt',List.length_append] at h2
  refine wz14 ?_
  refine Xb6 rfl hlt' ?_
  intro b1 o1 p1 q1
  (repeat (refine wE ?_; intro _)); refine wA ?_
  refine Xbq rfl (by exact ⟨rfl,rfl,by decide⟩) (by omega) ?_
  intro r s
  refine wz2 ?_
  exact ⟨i+1,r,s,by omega,by omega,by rw [Xhh L i hlt']; infer_instance⟩
 ·obtain rfl:i=L.length:=by omega
  rw [List.take_length]
  refine JC.more (fun w1 ho=>ho.pub) ?_
  refine wz3 ?_
  refine JR.callSl (L:=cids L) rfl (fun w1 hw=>by have:=Xv7 w1 _ a k L hw.get (by omega) hf; rwa [Xji hc.may] at this) ?_
  intro a1 k1
  refine wz6 ?_
  refine JR.callBuf rfl (fun w1 hw=>Xqk w1 _ a1 p k1 q (cids L) (Xbi L) hw.get hw.get (by rw [Xcu]; omega)) ?_
  intro a2 k2
  refine JO.more (fun w1 ho=>ho.pub) ?_
  refine wz10 ?_
  have e1:frontF L=Xbz (cids L) (Xbi L) false:=by rw [frontF,hb]; rfl
  rw [e1]
  exact Xab (a2,k2) rfl
theorem Xuh (a b d:Option Addr) (k m n:Nat) (L:List Commit) (A B:List ID) (h:(sl a k L).holds F w) (h':(sl b m A).holds F w) (h2:(sl d n B).holds F w) (hl:L.length≤1000) (hA:A.length≤1000) (hB:B.length≤1000) (hf:∀ x∈L,fine x) :
  Xcp prog 160 [.slice a L.length k, .slice b A.length m, .slice d B.length n] w F (baseF L A B):=by
 have hx:=X1m (Xed L A)
 refine Xaa func160 rfl ntmps160 rfl rfl [.st (sl a k L), .st (sl b m A), .st (sl d n B)] (.start3 h h' h2) ?_
 refine wz10 ?_
 refine JR.callSl (L:=ancF L A) rfl (fun w1 hw=>Xwh w1 _ a b k m L A _ hw.get hw.get (by omega) (by omega) hf (Xed L A)) ?_
 intro a1 k1
 refine wz6 ?_
 refine JR.callSl (L:=ancF L B) rfl (fun w1 hw=>Xwh w1 _ a d k n L B _ hw.get hw.get (by omega) (by omega) hf (Xed L B)) ?_
 intro a2 k2
 refine wz13 ?_
 refine JR.callBuf rfl (fun w1 hw=>Xtr w1 _ a1 a2 k1 k2 (ancF L A) (ancF L B) hw.get hw.get (by omega)) ?_
 intro a4 k4
 refine JO.more (fun w1 ho=>ho.pub) ?_
 refine wz10 ?_
 exact CT.done (a4,k4) rfl (fun w ho=>(ho.ent:Hold _ _ [.st (sl a4 k4 (Xbz (ancF L A) (ancF L B) true))] w))
theorem Xho (a:Option Addr) (c:Nat) (L:List Commit) (h:(sl a c L).holds F w) (hl:L.length≤34359738368) :
  GivesBuf prog 42 [.slice a L.length c] w F 31 L:=by
 refine Xaa func42 rfl ntmps42 rfl rfl [.st (sl a c L)] (.start1 h) ?_
 refine wA ?_
 refine JC.test (fun ha=>?_) (fun ha=>?_)
 ·cases a with
  | some a=>cases ha
  | none =>
   obtain rfl:=Xd8 h
   refine wz9 ?_
   exact CT.done (none,0) rfl (fun w ho=>ho.bufNil)
 ·refine wz14 ?_
  refine Xjw (α:=Commit) rfl ?_
  intro a2
  refine wz6 ?_
  refine Xbq rfl (by exact ⟨rfl,rfl,by decide⟩) (by simpa using hl) ?_
  intro a3 c3
  rw [List.nil_append]
  refine wz10 ?_
  exact Xab (a3,c3) rfl
theorem Xxg {L:List Commit} {ev:Ev_} {o:Op_} (h:¬ Closed L):nextF L ev o=(commit0,false):=by
 unfold nextF; rw [Xgc h]; rfl
theorem Xxh {L:List Commit} {ev:Ev_} {o:Op_} (h:may (nextC L ev o)=false):nextF L ev o=(commit0,false):=by
 unfold nextF; rw [h,Bool.and_false]; rfl
theorem Xse {L:List Commit} {ev:Ev_} {o:Op_} (h:¬ Closed (L++[nextC L ev o])):nextF L ev o=(commit0,false):=by
 unfold nextF; rw [Xgc h,Bool.and_false]; rfl
theorem Xps {L:List Commit} {ev:Ev_} {o:Op_} (h:Closed L) (h1:may (nextC L ev o)=true) (h2:Closed (L++[nextC L ev o])):nextF L ev o=(nextC L ev o,true):=by
 unfold nextF; rw [Xan h,Xan h2,h1]; rfl
theorem Xxi (a:Option Addr) (k:Nat) (L:List Commit) (ev:Ev_) (o:Op_) (h:(sl a k L).holds F w) (hl:L.length≤900) (hf:∀ x∈L,fine x) (hot:o.key.size < 4611686018427387904∧o.elem.size < 4611686018427387904) :
  Gives prog 13 [.slice a L.length k, .agg ⟨[.int .i64 ev.node, .int .i64 ev.seq]⟩,opV o] w F (fun y:Option Addr × Nat=>.tuple ⟨[Xbk (nextF L ev o).1 y.1 y.2, .bool (nextF L ev o).2]⟩) (fun y=>[.st (sl y.1 y.2 (nextF L ev o).1.parents)]):=by
 obtain ⟨g,hg⟩:∃ g,g=IntKind.i64.wrap (topL L+1):=⟨_,rfl⟩
 refine Xaa func13 rfl ntmps13 rfl rfl [.st (sl a k L)] (.start1 h) ?_
 (repeat (refine wE ?_; intro _)); refine wA ?_
 rename_i b4 b5 b6
 refine Xfi (fun y:(Option Addr × Nat) × Nat=>[(0, .slice a L.length k),(6, .pointer (some ⟨b6,0,none⟩)),(7, .bool false),(8, .pointer (some ⟨y.2,0,none⟩))])
  (fun y=>[.own y.2 31 [.int .i64 ev.node, .int .i64 ev.seq, .int .i64 g, .slice y.1.1 (frontF L).length y.1.2, .int .i64 o.kind, .string o.key, .string o.elem, .int .i64 o.n], .st (sl y.1.1 y.1.2 (frontF L)), .own b6 31 [.int .i64 0, .int .i64 0, .int .i64 0, .slice none 0 0, .int .i64 0, .string .empty, .string .empty, .int .i64 0], .st (sl a k L)]) ?_ ?_
 ·refine Xca 9 mixed ?_
  refine JM.tv 0 ?_
  refine JM.tv 1 ?_
  refine JM.takeCall 2 rfl (by kernel_rfl) rfl (fun w1 hw=>Xxf w1 _ a k L hw.get) rfl rfl ?_
  refine JM.take 3 rfl (by kernel_rfl) rfl Xc1 rfl rfl ?_
  refine JM.reslot 12 (.int .i64 g) (by rw [hg]) ?_
  refine JM.tv 4 ?_
  refine JM.tv 6 ?_
  refine Xrg 5 8 (by kernel_rfl) rfl rfl rfl rfl rfl rfl rfl rfl (JS.callSl rfl (fun w1 hw=>Xfh w1 _ a k L hw.get (by omega) hf) fun af kf=>?_) (JS.alloc rfl fun b8=>?_)
  ·refine JM.take 7 rfl (by kernel_rfl) rfl (OpV.build [.int .i64 ev.node, .int .i64 ev.seq, .int .i64 g, .slice af (frontF L).length kf, .int .i64 o.kind, .string o.key, .string o.elem, .int .i64 o.n] (by kernel_rfl)) rfl rfl ?_
   refine JM.one 8 (by kernel_rfl) rfl rfl rfl rfl (JS.alloc rfl fun b8=>?_)
   refine Xah 9 (by kernel_rfl) rfl rfl rfl (Wi (Wd ⟨rfl,?_⟩))
   exact JM.nil (by kernel_rfl) ⟨rfl,((af,kf),b8),iI⟩
  ·refine JM.one 5 (by kernel_rfl) rfl rfl rfl rfl (JS.callSl rfl (fun w1 hw=>Xfh w1 _ a k L hw.get (by omega) hf) fun af kf=>?_)
   refine JM.take 7 rfl (by kernel_rfl) rfl (OpV.build [.int .i64 ev.node, .int .i64 ev.seq, .int .i64 g, .slice af (frontF L).length kf, .int .i64 o.kind, .string o.key, .string o.elem, .int .i64 o.n] (by kernel_rfl)) rfl rfl ?_
   refine Xah 9 (by kernel_rfl) rfl rfl rfl (Wi (Wd ⟨rfl,?_⟩))
   exact JM.nil (by kernel_rfl) ⟨rfl,((af,kf),b8),iI⟩
 rintro ⟨⟨af,kf⟩,b8⟩
 dsimp only
 refine wz14 ?_
 by_cases hc:Closed L
 case neg =>
  rw [Xxg hc]
  refine Xca 17 mixed ?_
  refine JM.tv 0 ?_
  refine JM.takeCall 1 rfl (by kernel_rfl) rfl (fun w1 hw=>Xwg w1 _ a k L hw.get (by omega) hf hc) rfl rfl ?_
  refine JM.tv 2 ?_
  refine JM.tv 3 ?_
  refine JM.ov 4 ?_
  refine JM.ov 5 ?_
  refine JM.ov 6 ?_
  refine JM.tv 7 ?_
  refine JM.tv 8 ?_
  refine JM.ov 9 ?_
  refine JM.ov 10 ?_
  refine JM.ov 11 ?_
  refine JM.ov 12 ?_
  refine JM.ov 13 ?_
  refine JM.ov 14 ?_
  refine JM.ov 15 ?_
  refine JM.tv 16 ?_
  refine JM.nil (by kernel_rfl) ?_
  refine wz8 ?_
  refine Wf (OpV.build [.int .i64 0, .int .i64 0, .int .i64 0, .slice none 0 0, .int .i64 0, .string .empty, .string .empty, .int .i64 0] (by kernel_rfl)) rfl ?_
  refine wz9 ?_
  exact CT.done (none,0) rfl (fun w ho=>(ho.ent:Hold _ _ [] w).add Xau)
 case pos =>
 have hgt:g=topL L+1:=by
  have h1:=Xr6 hc
  have h2:=Xy7 L
  rw [hg,Xmo (by omega)]
 subst hgt
 have hfc:fine (nextC L ev o):=⟨hot,by have:=Xhk hc; show (frontF L).length≤_; omega⟩
 have hfn:∀ x∈L++[nextC L ev o],fine x:=fun x hx=>by
  rcases List.mem_append.1 hx with hx | hx
  ·exact hf x hx
  ·rw [List.mem_singleton] at hx; subst hx; exact hfc
 cases hm:may (nextC L ev o) with
 | false =>
  rw [Xxh hm]
  refine Xca 17 mixed ?_
  refine JM.tv 0 ?_
  refine JM.takeCall 1 rfl (by kernel_rfl) rfl (fun w1 hw=>Xmh w1 _ a k L hw.get (by omega) hf hc) rfl rfl ?_
  refine JM.tv 2 ?_
  refine JM.tv 3 ?_
  refine JM.tv 4 ?_
  refine JM.takeCall 5 rfl (by kernel_rfl) rfl (fun w1 hw=>Xga w1 _ (nextC L ev o) af kf (hw.get (A:=sl af kf (frontF L))) hfc.1) rfl rfl ?_
  rw [hm]
  refine JM.tv 6 ?_
  refine JM.tv 7 ?_
  refine JM.tv 8 ?_
  refine JM.ov 9 ?_
  refine JM.ov 10 ?_
  refine JM.ov 11 ?_
  refine JM.ov 12 ?_
  refine JM.ov 13 ?_
  refine JM.ov 14 ?_
  refine JM.ov 15 ?_
  refine JM.tv 16 ?_
  refine JM.nil (by kernel_rfl) ?_
  refine wz8 ?_
  refine Wf (OpV.build [.int .i64 0, .int .i64 0, .int .i64 0, .slice none 0 0, .int .i64 0, .string .empty, .string .empty, .int .i64 0] (by kernel_rfl)) rfl ?_
  refine wz9 ?_
  exact CT.done (none,0) rfl (fun w ho=>(ho.ent:Hold _ _ [] w).add Xau)
 | true =>
  refine Xca 13 mixed ?_
  refine JM.tv 0 ?_
  refine JM.takeCall 1 rfl (by kernel_rfl) rfl (fun w1 hw=>Xmh w1 _ a k L hw.get (by omega) hf hc) rfl rfl ?_
  refine JM.tv 2 ?_
  refine JM.tv 3 ?_
  refine JM.tv 4 ?_
  refine JM.takeCall 5 rfl (by kernel_rfl) rfl (fun w1 hw=>Xga w1 _ (nextC L ev o) af kf (hw.get (A:=sl af kf (frontF L))) hfc.1) rfl rfl ?_
  rw [hm]
  refine JM.tv 6 ?_
  refine JM.tv 7 ?_
  refine JM.tv 8 ?_
  refine JM.tv 9 ?_
  refine JM.tv 11 ?_
  refine Xrg 10 12 (by kernel_rfl) rfl rfl rfl rfl rfl rfl rfl rfl (JS.callBuf rfl (fun w1 hw=>Xho w1 _ a k L hw.get (by omega)) fun a9 k9=>?_) (Xrk rfl ⟨rfl,by decide,by decide,by decide⟩ fun lb=>?_)
  ·refine JM.one 12 (by kernel_rfl) rfl rfl rfl rfl (Xrk rfl ⟨rfl,by decide,by decide,by decide⟩ fun lb=>?_)
   refine Xah 13 (by kernel_rfl) rfl rfl rfl (Xap (L:=L) (u:=nextC L ev o) rfl (by exact ⟨rfl,rfl,by decide⟩) (by omega) (fun r s=>Wd ⟨rfl,?_⟩))
   refine JM.more (Γ':=.st (sl r s (L++[nextC L ev o]))::[.own b8 31 [.int .i64 ev.node, .int .i64 ev.seq, .int .i64 (topL L+1), .slice af (frontF L).length kf, .int .i64 o.kind, .string o.key, .string o.elem, .int .i64 o.n], .st (sl af kf (frontF L)), .own b6 31 [.int .i64 0, .int .i64 0, .int .i64 0, .slice none 0 0, .int .i64 0, .string .empty, .string .empty, .int .i64 0], .st (sl a k L)]) (fun w1 ho=>(ho.ent:Hold _ _ (.res (buf r s 31 (L++[nextC L ev o]))::[.own b8 31 [.int .i64 ev.node, .int .i64 ev.seq, .int .i64 (topL L+1), .slice af (frontF L).length kf, .int .i64 o.kind, .string o.key, .string o.elem, .int .i64 o.n], .st (sl af kf (frontF L)), .own b6 31 [.int .i64 0, .int .i64 0, .int .i64 0, .slice none 0 0, .int .i64 0, .string .empty, .string .empty, .int .i64 0], .st (sl a k L)]) w1).pub) ?_
   refine Xah 14 (by kernel_rfl) rfl rfl rfl (JR.callV rfl (fun w1 hw=>Xef w1 _ r s (L++[nextC L ev o]) (closedB (L++[nextC L ev o])) hw.get (by simp; omega) hfn Xbl) (Wd ⟨rfl,?_⟩))
   refine Xah 15 (by kernel_rfl) rfl rfl rfl (Wf Vh rfl (Wd ⟨rfl,?_⟩))
   refine Xah 16 (by kernel_rfl) rfl rfl rfl (Wf Vj rfl (Wd ⟨rfl,?_⟩))
   refine JM.nil (by kernel_rfl) ?_
   cases hcn:closedB (L++[nextC L ev o]) with
   | false =>
    rw [Xse (fun h=>by rw [Xan h] at hcn; cases hcn)]
    refine wz8 ?_
    refine Wf (OpV.build [.int .i64 0, .int .i64 0, .int .i64 0, .slice none 0 0, .int .i64 0, .string .empty, .string .empty, .int .i64 0] (by kernel_rfl)) rfl ?_
    refine wz9 ?_
    exact CT.done (none,0) rfl (fun w ho=>(ho.ent:Hold _ _ [] w).add Xau)
   | true =>
    rw [Xps hc hm (Xbl.1 hcn)]
    refine wA ?_
    exact CT.done (af,kf) rfl (fun w ho=>(ho.ent:Hold _ _ [.st (sl af kf (frontF L))] w))
  ·refine JM.one 10 (by kernel_rfl) rfl rfl rfl rfl (JS.callBuf rfl (fun w1 hw=>Xho w1 _ a k L hw.get (by omega)) fun a9 k9=>?_)
   refine Xah 13 (by kernel_rfl) rfl rfl rfl (Xap (L:=L) (u:=nextC L ev o) rfl (by exact ⟨rfl,rfl,by decide⟩) (by omega) (fun r s=>Wd ⟨rfl,?_⟩))
   refine JM.more (Γ':=.st (sl r s (L++[nextC L ev o]))::[.own b8 31 [.int .i64 ev.node, .int .i64 ev.seq, .int .i64 (topL L+1), .slice af (frontF L).length kf, .int .i64 o.kind, .string o.key, .string o.elem, .int .i64 o.n], .st (sl af kf (frontF L)), .own b6 31 [.int .i64 0, .int .i64 0, .int .i64 0, .slice none 0 0, .int .i64 0, .string .empty, .string .empty, .int .i64 0], .st (sl a k L)]) (fun w1 ho=>(ho.ent:Hold _ _ (.res (buf r s 31 (L++[nextC L ev o]))::[.own b8 31 [.int .i64 ev.node, .int .i64 ev.seq, .int .i64 (topL L+1), .slice af (frontF L).length kf, .int .i64 o.kind, .string o.key, .string o.elem, .int .i64 o.n], .st (sl af kf (frontF L)), .own b6 31 [.int .i64 0, .int .i64 0, .int .i64 0, .slice none 0 0, .int .i64 0, .string .empty, .string .empty, .int .i64 0], .st (sl a k L)]) w1).pub) ?_
   refine Xah 14 (by kernel_rfl) rfl rfl rfl (JR.callV rfl (fun w1 hw=>Xef w1 _ r s (L++[nextC L ev o]) (closedB (L++[nextC L ev o])) hw.get (by simp; omega) hfn Xbl) (Wd ⟨rfl,?_⟩))
   refine Xah 15 (by kernel_rfl) rfl rfl rfl (Wf Vh rfl (Wd ⟨rfl,?_⟩))
   refine Xah 16 (by kernel_rfl) rfl rfl rfl (Wf Vj rfl (Wd ⟨rfl,?_⟩))
   refine JM.nil (by kernel_rfl) ?_
   cases hcn:closedB (L++[nextC L ev o]) with
   | false =>
    rw [Xse (fun h=>by rw [Xan h] at hcn; cases hcn)]
    refine wz8 ?_
    refine Wf (OpV.build [.int .i64 0, .int .i64 0, .int .i64 0, .slice none 0 0, .int .i64 0, .string .empty, .string .empty, .int .i64 0] (by kernel_rfl)) rfl ?_
    refine wz9 ?_
    exact CT.done (none,0) rfl (fun w ho=>(ho.ent:Hold _ _ [] w).add Xau)
   | true =>
    rw [Xps hc hm (Xbl.1 hcn)]
    refine wA ?_
    exact CT.done (af,kf) rfl (fun w ho=>(ho.ent:Hold _ _ [.st (sl af kf (frontF L))] w))
end
section
attribute [local irreducible] Xat
theorem Xzl {L:List Commit} (hc:Closed L) (A B:List ID):(lastE L A B).length≤8:=by
 have hP:Closed (L.filter fun c=>decide (idC c∈baseF L A B)):=Xgw hc (Xk2 hc A B)
 unfold lastE partF
 rw [Xan hc,if_pos rfl]
 exact Xhk hP
theorem Xra (A B:List ID):(Xq3 A B).length≤A.length+B.length:=by
 have h1:=Xft (A++B)
 rw [List.length_append] at h1
 unfold Xq3
 rw [Xfp]; exact h1
theorem Xui {of:OfT} {L:List Commit} {rest:List ID} {t u:State_ × List ID × Memo} (i:Nat) (h:rest.foldlM (joinStep of L) t=some u) (hi:i < rest.length) {v:State_ × List ID × Memo} (hv:(rest.take i).foldlM (joinStep of L) t=some v) :
  ∃ v2,joinStep of L v rest[i]=some v2∧(rest.take (i+1)).foldlM (joinStep of L) t=some v2:=by
 have e:rest=rest.take i++(rest[i]::rest.drop (i+1)):=by rw [List.getElem_cons_drop,List.take_append_drop]
 rw [e,List.foldlM_append,hv] at h
 obtain ⟨v2,h1,_⟩:=Option.bind_eq_some_iff.1 (show (joinStep of L v rest[i]).bind _=some u from h)
 refine ⟨v2,h1,?_⟩
 rw [List.take_succ_eq_append_getElem hi,List.foldlM_append,hv]
 show (joinStep of L v rest[i]).bind _=_
 rw [h1]; rfl
theorem Xxj {L:List Commit} (hL:EvL L) {a:Option Addr} {k bw bm:Nat} {of:OfT} (ih:OfC L a k bw bm of) (hh:Xwr L of) (hnn:∀ M f r,of M f=some r→(M.map (·.1)).Nodup→(r.2.map (·.1)).Nodup) {w0 w:World} {F:Nat→Prop} {Γ:List Fact} {R:List SRow} (p:Option Addr) (q:Nat) (x0:ID) (rest:List ID) (u:State_ × Memo) (hu:stJoin of L (memO R) x0 rest=some u)
  (hM:Xi6 L (memO R)) (hn:((memO R).map (·.1)).Nodup) (hlen:(x0::rest).length≤500)
  (ho:Hold w0 F (.own bw 83 [.slice a L.length k, .map (some bm)]::.omap bm (ents idV (memV R)) (memV R).length::.st (memA R)::.st (sl a k L)::.st (sl p q (x0::rest))::Γ) w):Calls prog 101 ⟨[.pointer (some ⟨bw,0,none⟩), .slice p (x0::rest).length q]⟩ w fun r w'=>∃ y:EvY u.2,r = .returned (.agg ⟨stC u.1 y.1⟩) ∧
   Hold w0 F (.own bw 83 [.slice a L.length k, .map (some bm)]::.omap bm (ents idV (memV y.2.1)) (memV y.2.1).length::.st (memA y.2.1)::.st (sl a k L)::.st (sl y.1.1.1 y.1.1.2 u.1.c)::.st (sl y.1.2.1.1 y.1.2.1.2 u.1.r)::.st (sl y.1.2.2.1 y.1.2.2.2 u.1.p)::Γ) w':=by
 have hll:=hL.len
 have hslf:=ho.sat (.st (sl p q (x0::rest))) (by simp)
 have hq:1≤q:=by
  have h0:(x0::rest).length≤q:=hslf.1
  rw [List.length_cons] at h0; omega
 have hrl:rest.length≤499:=by rw [List.length_cons] at hlen; omega
 unfold stJoin at hu
 obtain ⟨⟨s0,M0⟩,hu0,hu⟩:=Option.bind_eq_some_iff.1 hu
 obtain ⟨tf,hf,rfl⟩:=Option.map_eq_some_iff.1 hu
 obtain ⟨hs0,hM0⟩:=hh _ _ _ hu0 hM
 have hn0:=hnn _ _ _ hu0 hn
 dsimp only at hs0 hM0 hf hn0
 clear hu
 have ho2:Hold w0 F (.own bw 83 [.slice a L.length k, .map (some bm)]::.omap bm (ents idV (memV R)) (memV R).length::.st (memA R)::.st (sl a k L)::.st (sl p q (x0::rest))::.st (sl p 1 [x0])::.st (sl p q [x0])::Γ) w:=by
  have h1:=ho.add (A:=sl p 1 [x0]) (Xmr hslf (k:=1) (by simp) ⟨Nat.le_refl _,hq⟩)
  have h2:=h1.add (A:=sl p q [x0]) (Xmr (h1.sat (.st (sl p q (x0::rest))) (by simp)) (k:=1) (by simp) ⟨hq,Nat.le_refl _⟩)
  exact h2.ent
 clear ho
 refine Xbu (v:=fun y:EvY tf.2.2=>.agg ⟨stC tf.1 y.1⟩) (B:=fun y=>.own bw 83 [.slice a L.length k, .map (some bm)]::.omap bm (ents idV (memV y.2.1)) (memV y.2.1).length::.st (memA y.2.1)::.st (sl a k L)::.st (sl y.1.1.1 y.1.1.2 tf.1.c)::.st (sl y.1.2.1.1 y.1.2.1.2 tf.1.r)::.st (sl y.1.2.2.1 y.1.2.2.2 tf.1.p)::Γ)
  func101 rfl ntmps101 rfl rfl _ ho2 ?_
 (repeat (refine wE ?_; intro _)); refine wA ?_
 rename_i br
 refine Xfi (fun y:EvY M0 × Nat=>[(0, .pointer (some ⟨bw,0,none⟩)),(1, .slice p (x0::rest).length q),(4, .pointer (some ⟨br,0,none⟩)),(5, .pointer (some ⟨y.2,0,none⟩)),(6, .slice p 1 1)])
  (fun y=>.own y.2 38 [.slice y.1.1.1.1 s0.c.length y.1.1.1.2, .slice y.1.1.2.1.1 s0.r.length y.1.1.2.1.2, .slice y.1.1.2.2.1 s0.p.length y.1.1.2.2.2]::.own bw 83 [.slice a L.length k, .map (some bm)]::.omap bm (ents idV (memV y.1.2.1)) (memV y.1.2.1).length::.st (memA y.1.2.1)::.st (sl a k L)::.st (sl y.1.1.1.1 y.1.1.1.2 s0.c)::.st (sl y.1.1.2.1.1 y.1.1.2.1.2 s0.r)::.st (sl y.1.1.2.2.1 y.1.1.2.2.2 s0.p)::.st (sl p q (x0::rest))::.st (sl p 1 [x0])::.own br 38 [.slice none 0 0, .slice none 0 0, .slice none 0 0]::Γ) ?_ ?_
 ·refine JC.drawP mixed ?_
  refine Xad 0 ?_
  refine Xad 1 ?_
  refine JP.pure 2 rfl (by kernel_rfl) rfl (fun _=>Xbb (k:=1) (fun _ _=>hq)) rfl rfl ?_
  refine Xad 4 ?_
  refine JP.pure 5 rfl (by kernel_rfl) rfl (fun _=>Xpq (k:=1) (fun _ _=>hq)) rfl rfl ?_
  refine JP.more (Γ':=.own bw 83 [.slice a L.length k, .map (some bm)]::.omap bm (ents idV (memV R)) (memV R).length::.st (memA R)::.st (sl a k L)::.st (sl p q [x0])::.st (sl p q (x0::rest))::.st (sl p 1 [x0])::.own br 38 [.slice none 0 0, .slice none 0 0, .slice none 0 0]::Γ) (fun w1 ho=>ho.ent) ?_
  refine JP.both 3 6 (by kernel_rfl) rfl rfl rfl rfl (Xax (v:=fun y:EvY M0=>.agg ⟨stC s0 y.1⟩) (B:=fun y=>.own bw 83 [.slice a L.length k, .map (some bm)]::.omap bm (ents idV (memV y.2.1)) (memV y.2.1).length::.st (memA y.2.1)::.st (sl a k L)::.st (sl y.1.1.1 y.1.1.2 s0.c)::.st (sl y.1.2.1.1 y.1.2.1.2 s0.r)::.st (sl y.1.2.2.1 y.1.2.2.2 s0.p)::.st (sl p q (x0::rest))::.st (sl p 1 [x0])::.own br 38 [.slice none 0 0, .slice none 0 0, .slice none 0 0]::Γ) rfl (fun w1 hw=>ih _ _ _ (.st (sl p q (x0::rest))::.st (sl p 1 [x0])::.own br 38 [.slice none 0 0, .slice none 0 0, .slice none 0 0]::Γ) R p q [x0] (s0,M0) hu0 hM hn (by simp) hw) (fun y=>Wd (nO ?_))) (Wg rfl (fun bs=>Wd (nO ?_)))
  ·obtain ⟨⟨⟨ac,kc⟩,⟨ar,kr⟩,⟨ap,kp⟩⟩,⟨R2,hR2⟩⟩:=y
   dsimp only [stC]
   refine Xal 6 rfl rfl (Wg rfl (fun bs=>Wd (nO ?_)))
   refine JP.reslot 5 (.pointer (some ⟨bs,0,none⟩)) rfl ?_
   refine Xal 7 rfl rfl (Wi (Wd (nO ?_)))
   refine Xad 8 ?_
   refine JP.nil (by kernel_rfl) ?_
   exact ⟨rfl,(((((ac,kc),(ar,kr),(ap,kp)),⟨R2,hR2⟩):EvY M0),bs),iI⟩
  ·refine JP.more (Γ':=.own bw 83 [.slice a L.length k, .map (some bm)]::.omap bm (ents idV (memV R)) (memV R).length::.st (memA R)::.st (sl a k L)::.st (sl p q [x0])::.own bs 38 [.slice none 0 0, .slice none 0 0, .slice none 0 0]::.st (sl p q (x0::rest))::.st (sl p 1 [x0])::.own br 38 [.slice none 0 0, .slice none 0 0, .slice none 0 0]::Γ) (fun w1 ho=>ho.ent) ?_
   refine Xal 3 rfl rfl (Xax (v:=fun y:EvY M0=>.agg ⟨stC s0 y.1⟩) (B:=fun y=>.own bw 83 [.slice a L.length k, .map (some bm)]::.omap bm (ents idV (memV y.2.1)) (memV y.2.1).length::.st (memA y.2.1)::.st (sl a k L)::.st (sl y.1.1.1 y.1.1.2 s0.c)::.st (sl y.1.2.1.1 y.1.2.1.2 s0.r)::.st (sl y.1.2.2.1 y.1.2.2.2 s0.p)::.own bs 38 [.slice none 0 0, .slice none 0 0, .slice none 0 0]::.st (sl p q (x0::rest))::.st (sl p 1 [x0])::.own br 38 [.slice none 0 0, .slice none 0 0, .slice none 0 0]::Γ) rfl (fun w1 hw=>ih _ _ _ (.own bs 38 [.slice none 0 0, .slice none 0 0, .slice none 0 0]::.st (sl p q (x0::rest))::.st (sl p 1 [x0])::.own br 38 [.slice none 0 0, .slice none 0 0, .slice none 0 0]::Γ) R p q [x0] (s0,M0) hu0 hM hn (by simp) hw) (fun y=>Wd (nO ?_)))
   obtain ⟨⟨⟨ac,kc⟩,⟨ar,kr⟩,⟨ap,kp⟩⟩,⟨R2,hR2⟩⟩:=y
   dsimp only [stC]
   refine JP.reslot 5 (.pointer (some ⟨bs,0,none⟩)) rfl ?_
   refine Xal 7 rfl rfl (Wi (Wd (nO ?_)))
   refine Xad 8 ?_
   refine JP.nil (by kernel_rfl) ?_
   exact ⟨rfl,(((((ac,kc),(ar,kr),(ap,kp)),⟨R2,hR2⟩):EvY M0),bs),iI⟩
 rintro ⟨⟨⟨⟨ac,kc⟩,⟨ar,kr⟩,⟨ap,kp⟩⟩,⟨R2,hR2⟩⟩,bs⟩
 dsimp only
 refine wz14 ?_
 refine Xfm (L:=x0::rest) (k:=1) rfl rfl (by simp) ?_
 intro pr qr
 rw [show List.drop 1 (x0::rest)=rest from rfl]
 refine wz4 ?_
 refine Xcg (fun (i:Nat) (t:State_ × List ID × Memo) (m:Sa × List SRow × Option Addr × Nat)=>[(0, .pointer (some ⟨bw,0,none⟩)),(4, .pointer (some ⟨br,0,none⟩)),(5, .pointer (some ⟨bs,0,none⟩)),(6, .slice m.2.2.1 t.2.1.length m.2.2.2),(18, .slice pr rest.length qr),(19, .int .i64 (rest.length:Int)),(20, .int .i64 (i:Int))])
  (fun i t m=>.own bs 38 [.slice m.1.1.1 t.1.c.length m.1.1.2, .slice m.1.2.1.1 t.1.r.length m.1.2.1.2, .slice m.1.2.2.1 t.1.p.length m.1.2.2.2]::.own bw 83 [.slice a L.length k, .map (some bm)]::.omap bm (ents idV (memV m.2.1)) (memV m.2.1).length::.st (memA m.2.1)::.st (sl a k L)::.st (sl m.1.1.1 m.1.1.2 t.1.c)::.st (sl m.1.2.1.1 m.1.2.1.2 t.1.r)::.st (sl m.1.2.2.1 m.1.2.2.2 t.1.p)::.st (sl m.2.2.1 m.2.2.2 t.2.1)::.st (sl pr qr rest)::.own br 38 [.slice none 0 0, .slice none 0 0, .slice none 0 0]::Γ)
  (fun i t m=>i≤rest.length∧(rest.take i).foldlM (joinStep of L) (s0,[x0],M0)=some t∧memO m.2.1=t.2.2∧Xib L t.1∧Xi6 L t.2.2∧(t.2.2.map (·.1)).Nodup∧t.2.1.length≤i+1) (fun i _ _=>rest.length - i) 0 (s0,[x0],M0) (((ac,kc),(ar,kr),(ap,kp)),R2,(p,1)) ⟨Nat.zero_le _,rfl,hR2,hs0,hM0,hn0,Nat.le_refl _⟩ (by dsimp only; exact iI) ?_
 rintro i ⟨s,seen,M⟩ ⟨⟨⟨ac,kc⟩,⟨ar,kr⟩,⟨ap,kp⟩⟩,R3,⟨ps,qs⟩⟩ ⟨hi,hfold,hR3,hs,hM3,hn3,hsl⟩
 dsimp only at hfold hR3 hs hM3 hn3 hsl ⊢
 subst hR3
 refine wz11 ?_
 refine JC.test (fun hlt=>?_) (fun hge=>?_)
 ·have hlt':i < rest.length:=by omega
  obtain ⟨v2,hj,hfold2⟩:=Xui i hf hlt' hfold
  obtain ⟨x,hx⟩:∃ x,x=rest[i]:=⟨_,rfl⟩
  rw [← hx] at hj
  unfold joinStep at hj
  obtain ⟨⟨sb,M1⟩,hb,hj⟩:=Option.bind_eq_some_iff.1 hj
  obtain ⟨⟨sn,M2⟩,hnx,rfl⟩:=Option.map_eq_some_iff.1 hj
  dsimp only at hb hnx hfold2
  obtain ⟨hsb,hM1⟩:=hh _ _ _ hb hM3
  have hn1:=hnn _ _ _ hb hn3
  obtain ⟨hsn,hM2⟩:=hh _ _ _ hnx hM1
  have hn2:=hnn _ _ _ hnx hn1
  dsimp only at hsb hM1 hn1 hsn hM2 hn2
  have hlf:=Xzl hL.closed seen [x]
  have hbl:(baseF L seen [x]).length≤1000:=by
   have h1:=Xh6 (Xmi (ancF L seen) (ancF L [x]) true) (K:=cids L) (fun y hy=>(Xk2 hL.closed seen [x]).ids hL.closed hy)
   have h2:(cids L).length=L.length:=by simp [cids]
   unfold baseF; omega
  have hpf:∀ y∈partF L (baseF L seen [x]),fine y:=fun y hy=>hL.fine y (Xy8 hy)
  have hpl:(partF L (baseF L seen [x])).length≤1000:=by
   unfold partF
   split
   ·have:=List.length_filter_le (fun c=>decide (idC c∈baseF L seen [x])) L; omega
   ·simp
  refine wz14 ?_
  refine Xbx rfl hlt' ?_
  intro b1 o1
  rw [← hx]
  (repeat (refine wE ?_; intro _)); refine wA ?_
  rename_i bx lb
  refine JC.more (Γ':=.own bs 38 [.slice ac s.c.length kc, .slice ar s.r.length kr, .slice ap s.p.length kp]::.own bw 83 [.slice a L.length k, .map (some bm)]::.omap bm (ents idV (memV R3)) (memV R3).length::.st (memA R3)::.st (sl (some ⟨lb,0,none⟩) 1 [x])::.st (sl a k L)::.st (sl ac kc s.c)::.st (sl ar kr s.r)::.st (sl ap kp s.p)::.st (sl ps qs seen)::.st (sl pr qr rest)::.own br 38 [.slice none 0 0, .slice none 0 0, .slice none 0 0]::Γ) (fun w1 ho=>?_) ?_
  ·have h1:Hold _ _ (.own lb 72 (idc x)::.own bs 38 [.slice ac s.c.length kc, .slice ar s.r.length kr, .slice ap s.p.length kp]::.own bw 83 [.slice a L.length k, .map (some bm)]::.omap bm (ents idV (memV R3)) (memV R3).length::.st (memA R3)::.st (sl a k L)::.st (sl ac kc s.c)::.st (sl ar kr s.r)::.st (sl ap kp s.p)::.st (sl ps qs seen)::.st (sl pr qr rest)::.own br 38 [.slice none 0 0, .slice none 0 0, .slice none 0 0]::Γ) w1:=ho.ent
   have h2:Hold _ _ (.st (sl (some ⟨lb,0,none⟩) 1 [x])::.own bs 38 [.slice ac s.c.length kc, .slice ar s.r.length kr, .slice ap s.p.length kp]::.own bw 83 [.slice a L.length k, .map (some bm)]::.omap bm (ents idV (memV R3)) (memV R3).length::.st (memA R3)::.st (sl a k L)::.st (sl ac kc s.c)::.st (sl ar kr s.r)::.st (sl ap kp s.p)::.st (sl ps qs seen)::.st (sl pr qr rest)::.own br 38 [.slice none 0 0, .slice none 0 0, .slice none 0 0]::Γ) w1:=Hold.pubRow [(x,())] h1 (by simp [flat,Cell.cells]) (by simp [Cell.facts]) (by simp)
   exact h2.ent
  refine JC.drawP mixed ?_
  refine Xad 0 ?_
  refine Xad 1 ?_
  refine Xad 2 ?_
  refine JP.tv 3 [.own bw 83 [.slice a L.length k, .map (some bm)]] ?_
  refine Xad 4 ?_
  refine Xad 5 ?_
  refine Xad 6 ?_
  refine JP.tv 7 [.own bw 83 [.slice a L.length k, .map (some bm)]] ?_
  refine Xad 8 ?_
  refine Xad 9 ?_
  refine Xal 10 rfl rfl (JR.callSl rfl (fun w1 hw=>Xuh w1 _ a ps (some ⟨lb,0,none⟩) k qs 1 L seen [x] hw.get hw.get hw.get (by omega) (by omega) (by simp) hL.fine) (fun pb qb=>Wd (nO ?_)))
  refine Xal 11 rfl rfl (JR.callSl rfl (fun w1 hw=>Xxd w1 _ a pb k qb L (partF L (baseF L seen [x])) (baseF L seen [x]) hw.get hw.get (by omega) hL.fine (Xy6 L _)) (fun p3 q3=>Wd (nO ?_)))
  refine Xal 12 rfl rfl (JR.callSl (L:=lastE L seen [x]) rfl (fun w1 hw=>Xfh w1 _ p3 q3 (partF L (baseF L seen [x])) hw.get hpl hpf) (fun p4 q4=>Wd (nO ?_)))
  refine Xad 13 ?_
  refine JP.nil (by kernel_rfl) ?_
  refine wz14 ?_
  refine JC.drawP mixed ?_
  refine Xad 0 ?_
  refine Xad 1 ?_
  refine JP.tv 3 [.own bs 38 [.slice ac s.c.length kc, .slice ar s.r.length kr, .slice ap s.p.length kp]] ?_
  refine Xad 4 ?_
  refine Xad 5 ?_
  refine JP.more (Γ':=.own bw 83 [.slice a L.length k, .map (some bm)]::.omap bm (ents idV (memV R3)) (memV R3).length::.st (memA R3)::.st (sl a k L)::.st (sl p4 q4 (lastE L seen [x]))::.own bs 38 [.slice ac s.c.length kc, .slice ar s.r.length kr, .slice ap s.p.length kp]::.st (sl (some ⟨lb,0,none⟩) 1 [x])::.st (sl ac kc s.c)::.st (sl ar kr s.r)::.st (sl ap kp s.p)::.st (sl ps qs seen)::.st (sl pr qr rest)::.own br 38 [.slice none 0 0, .slice none 0 0, .slice none 0 0]::Γ) (fun w1 ho=>ho.ent) ?_
  refine Xal 2 rfl rfl (Xax (v:=fun y:EvY M1=>.agg ⟨stC sb y.1⟩) (B:=fun y=>.own bw 83 [.slice a L.length k, .map (some bm)]::.omap bm (ents idV (memV y.2.1)) (memV y.2.1).length::.st (memA y.2.1)::.st (sl a k L)::.st (sl y.1.1.1 y.1.1.2 sb.c)::.st (sl y.1.2.1.1 y.1.2.1.2 sb.r)::.st (sl y.1.2.2.1 y.1.2.2.2 sb.p)::.own bs 38 [.slice ac s.c.length kc, .slice ar s.r.length kr, .slice ap s.p.length kp]::.st (sl (some ⟨lb,0,none⟩) 1 [x])::.st (sl ac kc s.c)::.st (sl ar kr s.r)::.st (sl ap kp s.p)::.st (sl ps qs seen)::.st (sl pr qr rest)::.own br 38 [.slice none 0 0, .slice none 0 0, .slice none 0 0]::Γ) rfl (fun w1 hw=>ih _ _ _ (.own bs 38 [.slice ac s.c.length kc, .slice ar s.r.length kr, .slice ap s.p.length kp]::.st (sl (some ⟨lb,0,none⟩) 1 [x])::.st (sl ac kc s.c)::.st (sl ar kr s.r)::.st (sl ap kp s.p)::.st (sl ps qs seen)::.st (sl pr qr rest)::.own br 38 [.slice none 0 0, .slice none 0 0, .slice none 0 0]::Γ) R3 p4 q4 (lastE L seen [x]) (sb,M1) hb hM3 hn3 (by omega) hw) (fun y=>Wd (nO ?_)))
  obtain ⟨⟨⟨bc,jc⟩,⟨br2,jr⟩,⟨bp,jp⟩⟩,⟨R4,hR4⟩⟩:=y
  dsimp only [stC]
  have hnx':of (memO R4) [x]=some (sn,M2):=by rw [hR4]; exact hnx
  have hM1':Xi6 L (memO R4):=by rw [hR4]; exact hM1
  have hn1':((memO R4).map (·.1)).Nodup:=by rw [hR4]; exact hn1
  refine JP.more (Γ':=.own bw 83 [.slice a L.length k, .map (some bm)]::.omap bm (ents idV (memV R4)) (memV R4).length::.st (memA R4)::.st (sl a k L)::.st (sl (some ⟨lb,0,none⟩) 1 [x])::.own bs 38 [.slice ac s.c.length kc, .slice ar s.r.length kr, .slice ap s.p.length kp]::.st (sl (some ⟨lb,0,none⟩) 1 [x])::.st (sl bc jc sb.c)::.st (sl br2 jr sb.r)::.st (sl bp jp sb.p)::.st (sl ac kc s.c)::.st (sl ar kr s.r)::.st (sl ap kp s.p)::.st (sl ps qs seen)::.st (sl pr qr rest)::.own br 38 [.slice none 0 0, .slice none 0 0, .slice none 0 0]::Γ) (fun w1 ho=>(ho.add (A:=sl (some ⟨lb,0,none⟩) 1 [x]) (ho.get (A:=sl (some ⟨lb,0,none⟩) 1 [x]))).ent) ?_
  refine Xal 6 rfl rfl (Xax (v:=fun y:EvY M2=>.agg ⟨stC sn y.1⟩) (B:=fun y=>.own bw 83 [.slice a L.length k, .map (some bm)]::.omap bm (ents idV (memV y.2.1)) (memV y.2.1).length::.st (memA y.2.1)::.st (sl a k L)::.st (sl y.1.1.1 y.1.1.2 sn.c)::.st (sl y.1.2.1.1 y.1.2.1.2 sn.r)::.st (sl y.1.2.2.1 y.1.2.2.2 sn.p)::.own bs 38 [.slice ac s.c.length kc, .slice ar s.r.length kr, .slice ap s.p.length kp]::.st (sl (some ⟨lb,0,none⟩) 1 [x])::.st (sl bc jc sb.c)::.st (sl br2 jr sb.r)::.st (sl bp jp sb.p)::.st (sl ac kc s.c)::.st (sl ar kr s.r)::.st (sl ap kp s.p)::.st (sl ps qs seen)::.st (sl pr qr rest)::.own br 38 [.slice none 0 0, .slice none 0 0, .slice none 0 0]::Γ) rfl (fun w1 hw=>ih _ _ _ (.own bs 38 [.slice ac s.c.length kc, .slice ar s.r.length kr, .slice ap s.p.length kp]::.st (sl (some ⟨lb,0,none⟩) 1 [x])::.st (sl bc jc sb.c)::.st (sl br2 jr sb.r)::.st (sl bp jp sb.p)::.st (sl ac kc s.c)::.st (sl ar kr s.r)::.st (sl ap kp s.p)::.st (sl ps qs seen)::.st (sl pr qr rest)::.own br 38 [.slice none 0 0, .slice none 0 0, .slice none 0 0]::Γ) R4 (some ⟨lb,0,none⟩) 1 [x] (sn,M2) hnx' hM1' hn1' (by simp) hw) (fun y=>Wd (nO ?_)))
  obtain ⟨⟨⟨nc,ic⟩,⟨nr,ir⟩,⟨np,ip⟩⟩,⟨R5,hR5⟩⟩:=y
  dsimp only [stC]
  refine Xal 7 rfl rfl (JR.call (v:=fun y:Sa=>.tuple ⟨[.agg ⟨stC (stMerge sb s sn).1 y⟩, .int .i64 (stMerge sb s sn).2]⟩) rfl (fun w1 hw=>Xq8 w1 _ sb s sn (Xwn L) (Xwo L) (Xpg L) bc br2 bp ac ar ap nc nr np jc jr jp kc kr kp ic ir ip hw.get hw.get hw.get hw.get hw.get hw.get hw.get hw.get hw.get hsb hs hsn (by simp only [Xwn,List.length_map]; omega) (by simp only [Xwo,List.length_map]; omega) (by simp only [Xpg,List.length_map]; omega) hL.fk hL.fr hL.fp) (fun z=>Wd (nO ?_)))
  have hsm:=hsb.merge hs hsn
  obtain ⟨⟨zc,oc⟩,⟨zr,or⟩,⟨zp,op⟩⟩:=z
  dsimp only [stC,stF,List.cons_append,List.nil_append]
  refine Xad 8 ?_
  refine Xad 9 ?_
  refine Xad 10 ?_
  refine JP.reslot 5 (.pointer (some ⟨bs,0,none⟩)) rfl ?_
  refine Xal 11 rfl rfl (Wi (Wd (nO ?_)))
  refine JP.nil (by kernel_rfl) ?_
  generalize hSM:(stMerge sb s sn).1=sm at hsm hfold2
  refine wz14 ?_
  refine JR.callSl (L:=Xq3 seen [x]) rfl (fun w1 hw=>(Xy5 w1 _ ps (some ⟨lb,0,none⟩) qs 1 seen [x] hw.get hw.get (by omega) (by simp)).sl) ?_
  intro p5 q5
  refine wz2 ?_
  have hbl2:=Xra seen [x]
  rw [List.length_singleton] at hbl2
  exact ⟨i+1,(sm,Xq3 seen [x],M2),(((zc,oc),(zr,or),(zp,op)),R5,(p5,q5)),⟨by omega,hfold2,hR5,hsm,hM2,hn2,by dsimp only; omega⟩,by omega,iI⟩
 ·obtain rfl:i=rest.length:=by omega
  rw [List.take_length,hf] at hfold
  injection hfold with hfold
  subst hfold
  dsimp only
  refine wz3 ?_
  exact Xab (((ac,kc),(ar,kr),(ap,kp)),⟨R3,rfl⟩) rfl
theorem X1z {of:OfT} {L:List Commit} (ih:∀ M f r,of M f=some r→(M.map (·.1)).Nodup→(r.2.map (·.1)).Nodup) {t u:State_ × List ID × Memo} {a:ID} (h:joinStep of L t a=some u) (h2:(t.2.2.map (·.1)).Nodup):(u.2.2.map (·.1)).Nodup:=by
 unfold joinStep at h
 obtain ⟨x,hx,h⟩:=Option.bind_eq_some_iff.1 h
 obtain ⟨y,hy,rfl⟩:=Option.map_eq_some_iff.1 h
 exact ih _ _ _ hy (ih _ _ _ hx h2)
theorem Xxk {of:OfT} {L:List Commit} (ih:∀ M f r,of M f=some r→(M.map (·.1)).Nodup→(r.2.map (·.1)).Nodup):∀ {rest:List ID} {t u:State_ × List ID × Memo},rest.foldlM (joinStep of L) t=some u→(t.2.2.map (·.1)).Nodup→(u.2.2.map (·.1)).Nodup
 | [],t,u,h,h2=>by
  simp only [List.foldlM_nil] at h
  injection h with h; subst h
  exact h2
 | a::rest,t,u,h,h2=>by
  rw [List.foldlM_cons] at h
  obtain ⟨x,hx,h⟩:=Option.bind_eq_some_iff.1 h
  exact Xxk ih h (X1z ih hx h2)
theorem Xz4 {of:OfT} {L:List Commit} (ih:∀ M f r,of M f=some r→(M.map (·.1)).Nodup→(r.2.map (·.1)).Nodup) {M:Memo} {a:ID} {u:State_ × Memo} (hu:oneF of L M a=some u) (hM:(M.map (·.1)).Nodup):(u.2.map (·.1)).Nodup:=by
 unfold oneF at hu
 obtain ⟨x,hx,rfl⟩:=Option.map_eq_some_iff.1 hu
 have h9:=ih _ _ _ hx hM
 exact h9
theorem Xxl {of:OfT} {L:List Commit} (ih:∀ M f r,of M f=some r→(M.map (·.1)).Nodup→(r.2.map (·.1)).Nodup) {M:Memo} {a:ID} {rest:List ID} {u:State_ × Memo} (hu:stJoin of L M a rest=some u) (hM:(M.map (·.1)).Nodup):(u.2.map (·.1)).Nodup:=by
 unfold stJoin at hu
 obtain ⟨x,hx,hu⟩:=Option.bind_eq_some_iff.1 hu
 obtain ⟨y,hy,rfl⟩:=Option.map_eq_some_iff.1 hu
 exact Xxk ih hy (ih _ _ _ hx hM)
theorem Xz5 (L:List Commit):∀ n M f r,ofF n L M f=some r→(M.map (·.1)).Nodup→(r.2.map (·.1)).Nodup
 | 0,M,f,r,h,_=>by cases h
 | n+1,M,f,r,h,hM=>by
  have ih:=Xz5 L n
  rw [Xfe] at h
  split at h
  ·injection h with h; subst h; exact hM
  ·rename_i hne
   split at h
   ·injection h with h; subst h; exact hM
   ·obtain ⟨u,hu,rfl⟩:=Option.map_eq_some_iff.1 h
    refine Xug ?_ _ _
    match f,hne,hu with
    | [a],_,hu=>exact Xz4 ih hu hM
    | a::b::rest,_,hu=>exact Xxl ih hu hM
theorem X10 {L:List Commit} (hL:EvL L) {a:Option Addr} {k bw bm:Nat} (n:Nat) (ih:OfC L a k bw bm (ofF n L)):OfC L a k bw bm (ofF (n+1) L):=by
 have hh:=Xnv L n
 have hnn:=Xz5 L n
 intro w0 w F Γ R p q f u hu hM hn hl ho
 rw [Xfe] at hu
 have hslf:=ho.sat (.st (sl p q f)) (by simp)
 have hfq:f.length≤q:=hslf.1
 have hnR:((memV R).map (·.1)).Nodup:=by rw [Xk8]; exact hn
 refine Xbu (v:=fun y:EvY u.2=>.agg ⟨stC u.1 y.1⟩) (B:=fun y=>.own bw 83 [.slice a L.length k, .map (some bm)]::.omap bm (ents idV (memV y.2.1)) (memV y.2.1).length::.st (memA y.2.1)::.st (sl a k L)::.st (sl y.1.1.1 y.1.1.2 u.1.c)::.st (sl y.1.2.1.1 y.1.2.1.2 u.1.r)::.st (sl y.1.2.2.1 y.1.2.2.2 u.1.p)::Γ)
  func43 rfl ntmps43 rfl rfl _ ho ?_
 (repeat (refine wE ?_; intro _)); refine wA ?_
 rename_i br
 refine JC.test (fun h0=>?_) (fun h0=>?_)
 ·have hf0:f=[]:=List.eq_nil_of_length_eq_zero (by omega)
  subst hf0
  rw [if_pos rfl] at hu
  injection hu with hu
  subst hu
  refine wz14 ?_
  refine Wf (OpV.build [.slice none 0 0, .slice none 0 0, .slice none 0 0] (by kernel_rfl)) rfl ?_
  refine wz9 ?_
  refine CT.done (((none,0),(none,0),(none,0)),⟨R,rfl⟩) rfl (fun w ho=>?_)
  have h9:=((ho.add (A:=sl (α:=Pair_) none 0 []) Xau).add (A:=sl (α:=Reg_) none 0 []) Xau).add (A:=sl (α:=Ctr_) none 0 []) Xau
  exact (show Hold _ _ (.own bw 83 [.slice a L.length k, .map (some bm)]::.omap bm (ents idV (memV R)) (memV R).length::.st (memA R)::.st (sl a k L)::.st (sl (α:=Ctr_) none 0 [])::.st (sl (α:=Reg_) none 0 [])::.st (sl (α:=Pair_) none 0 [])::Γ) w from h9.ent)
 have hne:f≠[]:=by intro h; subst h; simp at h0
 rw [if_neg hne] at hu
 refine wz14 ?_
 refine JR.callV rfl (fun w1 hw=>Xzi w1 _ p q f hw.get (by omega)) ?_
 generalize keyF f=kf at hu
 (repeat (refine wE ?_; intro _)); refine wA ?_
 rename_i bk
 refine JC.drawP mixed ?_
 refine Xad 0 ?_
 refine Xad 1 ?_
 refine Xad 2 ?_
 refine JP.tv 3 [.own bw 83 [.slice a L.length k, .map (some bm)]] ?_
 refine JP.tv 4 [.own bk 72 (idc kf)] ?_
 rcases X1x (R:=R) (k:=kf) with ⟨hg,hg2⟩ | ⟨r,hr,hg,hg2⟩
 ·rw [hg] at hu
  dsimp only at hu
  obtain ⟨⟨s,M1⟩,hb,rfl⟩:=Option.map_eq_some_iff.1 hu
  dsimp only
  clear hu
  refine JP.take 5 [.omap bm (ents idV (memV R)) (memV R).length] rfl (by kernel_rfl) rfl (Xbp (M:=memV R) (v:=.agg ⟨[.slice none 0 0, .slice none 0 0, .slice none 0 0]⟩) (is:=false) kf hnR (by rw [hg2]; rfl) (by rw [hg2]; rfl)) rfl rfl ?_
  refine Xad 6 ?_
  refine Xad 7 ?_
  refine Xad 8 ?_
  refine Xal 9 rfl rfl (Wg rfl (fun b6=>Wd (nO ?_)))
  refine JP.reslot 6 (.pointer (some ⟨b6,0,none⟩)) rfl ?_
  refine Xal 10 rfl rfl (Wi (Wd (nO ?_)))
  refine Xad 11 ?_
  refine JP.nil (by kernel_rfl) ?_
  (repeat (refine wE ?_; intro _)); refine wA ?_
  rename_i b8
  cases f with
  | nil=>exact absurd rfl hne
  | cons x rest =>
  cases rest with
  | nil =>
   refine wz8 ?_
   refine Xbx (L:=[x]) (k:=0) rfl (by simp) ?_
   intro b1 o1
   dsimp only [List.getElem_cons_zero]
   refine wz6 ?_
   refine JR.more (Γ':=.own bw 83 [.slice a L.length k, .map (some bm)]::.omap bm (ents idV (memV R)) (memV R).length::.st (memA R)::.st (sl a k L)::.own bk 72 (idc kf)::.own b8 38 [.slice none 0 0, .slice none 0 0, .slice none 0 0]::.st (sl p q [x])::.own br 38 [.slice none 0 0, .slice none 0 0, .slice none 0 0]::Γ) (fun w1 ho=>ho.ent) ?_
   refine Xax (v:=fun y:EvY M1=>.agg ⟨stC s y.1⟩) (B:=fun y=>.own bw 83 [.slice a L.length k, .map (some bm)]::.omap bm (ents idV (memV y.2.1)) (memV y.2.1).length::.st (memA y.2.1)::.st (sl a k L)::.st (sl y.1.1.1 y.1.1.2 s.c)::.st (sl y.1.2.1.1 y.1.2.1.2 s.r)::.st (sl y.1.2.2.1 y.1.2.2.2 s.p)::.own bk 72 (idc kf)::.own b8 38 [.slice none 0 0, .slice none 0 0, .slice none 0 0]::.st (sl p q [x])::.own br 38 [.slice none 0 0, .slice none 0 0, .slice none 0 0]::Γ) rfl (fun w1 hw=>Xzk hL ih hh x (s,M1) hb hM hn hw) ?_
   rintro ⟨⟨⟨ac,kc⟩,⟨ar,kr⟩,⟨ap,kp⟩⟩,⟨R2,hR2⟩⟩
   dsimp only [stC]
   have hnR2:((memV R2).map (·.1)).Nodup:=by rw [Xk8,hR2]; exact Xz4 hnn hb hn
   refine wz9 ?_
   refine JC.drawP mixed ?_
   refine Xad 0 ?_
   refine Xad 1 ?_
   refine Xad 2 ?_
   refine JP.tv 3 [.own bw 83 [.slice a L.length k, .map (some bm)]] ?_
   refine JP.tv 4 [.own bk 72 (idc kf)] ?_
   refine JP.tv 5 [.own b8 38 [.slice ac s.c.length kc, .slice ar s.r.length kr, .slice ap s.p.length kp]] ?_
   refine Xal 6 rfl rfl (Xbo (M:=memV R2) (k:=kf) (.inl rfl) hnR2 (Wd (nO ?_)))
   rw [← Xsd R2 kf s ((ac,kc),(ar,kr),(ap,kp))]
   refine JP.more (fun w1 ho=>ho.add (A:=memA (updR R2 kf s ((ac,kc),(ar,kr),(ap,kp)))) (Xxb (ho.get (A:=memA R2)) (ho.get (A:=sl ac kc s.c)) (ho.get (A:=sl ar kr s.r)) (ho.get (A:=sl ap kp s.p)))) ?_
   refine JP.nil (by kernel_rfl) ?_
   refine wz9 ?_
   exact Xab (((ac,kc),(ar,kr),(ap,kp)),⟨updR R2 kf s ((ac,kc),(ar,kr),(ap,kp)),by rw [Xsc,hR2]⟩) rfl
  | cons x1 rest =>
   rw [Xff] at hb
   refine wz7 ?_
   refine JR.more (Γ':=.own bw 83 [.slice a L.length k, .map (some bm)]::.omap bm (ents idV (memV R)) (memV R).length::.st (memA R)::.st (sl a k L)::.st (sl p q (x::x1::rest))::.own bk 72 (idc kf)::.own b8 38 [.slice none 0 0, .slice none 0 0, .slice none 0 0]::.own br 38 [.slice none 0 0, .slice none 0 0, .slice none 0 0]::Γ) (fun w1 ho=>ho.ent) ?_
   refine Xax (v:=fun y:EvY M1=>.agg ⟨stC s y.1⟩) (B:=fun y=>.own bw 83 [.slice a L.length k, .map (some bm)]::.omap bm (ents idV (memV y.2.1)) (memV y.2.1).length::.st (memA y.2.1)::.st (sl a k L)::.st (sl y.1.1.1 y.1.1.2 s.c)::.st (sl y.1.2.1.1 y.1.2.1.2 s.r)::.st (sl y.1.2.2.1 y.1.2.2.2 s.p)::.own bk 72 (idc kf)::.own b8 38 [.slice none 0 0, .slice none 0 0, .slice none 0 0]::.own br 38 [.slice none 0 0, .slice none 0 0, .slice none 0 0]::Γ) rfl (fun w1 hw=>Xxj hL ih hh hnn p q x (x1::rest) (s,M1) hb hM hn hl hw) ?_
   rintro ⟨⟨⟨ac,kc⟩,⟨ar,kr⟩,⟨ap,kp⟩⟩,⟨R2,hR2⟩⟩
   dsimp only [stC]
   have hnR2:((memV R2).map (·.1)).Nodup:=by rw [Xk8,hR2]; exact Xxl hnn hb hn
   refine wz9 ?_
   refine JC.drawP mixed ?_
   refine Xad 0 ?_
   refine Xad 1 ?_
   refine Xad 2 ?_
   refine JP.tv 3 [.own bw 83 [.slice a L.length k, .map (some bm)]] ?_
   refine JP.tv 4 [.own bk 72 (idc kf)] ?_
   refine JP.tv 5 [.own b8 38 [.slice ac s.c.length kc, .slice ar s.r.length kr, .slice ap s.p.length kp]] ?_
   refine Xal 6 rfl rfl (Xbo (M:=memV R2) (k:=kf) (.inl rfl) hnR2 (Wd (nO ?_)))
   rw [← Xsd R2 kf s ((ac,kc),(ar,kr),(ap,kp))]
   refine JP.more (fun w1 ho=>ho.add (A:=memA (updR R2 kf s ((ac,kc),(ar,kr),(ap,kp)))) (Xxb (ho.get (A:=memA R2)) (ho.get (A:=sl ac kc s.c)) (ho.get (A:=sl ar kr s.r)) (ho.get (A:=sl ap kp s.p)))) ?_
   refine JP.nil (by kernel_rfl) ?_
   refine wz9 ?_
   exact Xab (((ac,kc),(ar,kr),(ap,kp)),⟨updR R2 kf s ((ac,kc),(ar,kr),(ap,kp)),by rw [Xsc,hR2]⟩) rfl
 ·rw [hg] at hu
  dsimp only at hu
  injection hu with hu
  subst hu
  dsimp only
  refine JP.take 5 [.omap bm (ents idV (memV R)) (memV R).length] rfl (by kernel_rfl) rfl (Xbp (M:=memV R) (v:=.agg ⟨stC r.1.2 r.2⟩) (is:=true) kf hnR (by rw [hg2]; rfl) (by rw [hg2]; rfl)) rfl rfl ?_
  refine Xad 6 ?_
  refine Xad 7 ?_
  refine Xad 8 ?_
  refine Xal 9 rfl rfl (Wg rfl (fun b6=>Wd (nO ?_)))
  refine JP.reslot 6 (.pointer (some ⟨b6,0,none⟩)) rfl ?_
  refine Xal 10 rfl rfl (Wi (Wd (nO ?_)))
  refine Xad 11 ?_
  refine JP.nil (by kernel_rfl) ?_
  refine wA ?_
  refine CT.done (r.2,⟨R,rfl⟩) rfl (fun w ho=>?_)
  have hat:=Xxa (ho.get (A:=memA R)) hr
  have h1:=ho.add (A:=sl r.2.1.1 r.2.1.2 r.1.2.c) hat.1
  have h2:=h1.add (A:=sl r.2.2.1.1 r.2.2.1.2 r.1.2.r) (Xxa (h1.get (A:=memA R)) hr).2.1
  have h3:=h2.add (A:=sl r.2.2.2.1 r.2.2.2.2 r.1.2.p) (Xxa (h2.get (A:=memA R)) hr).2.2
  exact h3.ent
theorem Xz6 {L:List Commit} (hL:EvL L) {a:Option Addr} {k bw bm:Nat}:∀ n,OfC L a k bw bm (ofF n L)
 | 0=>fun _ _ _ _ _ _ _ _ _ hu=>by cases hu
 | n+1=>X10 hL n (Xz6 hL n)
theorem Xxm {L:List Commit} (h:closedB L=false):evalF L=(st0,1):=by unfold evalF; rw [h]; rfl
theorem Xf4 {L:List Commit} (h:closedB L=true):evalF L=(evalS L,0):=by unfold evalF; rw [h]; rfl
theorem Xhp (a:Option Addr) (k:Nat) (L:List Commit) (h:(sl a k L).holds F w) (hl:L.length≤11) (hf:∀ x∈L,fine x) :
  Gives prog 14 [.slice a L.length k] w F (fun y:Sa=>.tuple ⟨[.agg ⟨stC (evalF L).1 y⟩, .int .i64 (evalF L).2]⟩) (fun y=>stF (evalF L).1 y):=by
 refine Xaa func14 rfl ntmps14 rfl rfl [.st (sl a k L)] (.start1 h) ?_
 (repeat (refine wE ?_; intro _)); refine wA ?_
 rename_i br
 refine JR.callV rfl (fun w1 hw=>Xef w1 _ a k L (closedB L) hw.get (by omega) hf Xbl) ?_
 cases hc:closedB L with
 | false =>
  rw [Xxm hc]
  refine wz8 ?_
  refine Wf (OpV.build [.slice none 0 0, .slice none 0 0, .slice none 0 0] (by kernel_rfl)) rfl ?_
  refine wz9 ?_
  refine CT.done ((none,0),(none,0),(none,0)) rfl (fun w ho=>?_)
  have h9:=((ho.add (A:=sl (α:=Pair_) none 0 []) Xau).add (A:=sl (α:=Reg_) none 0 []) Xau).add (A:=sl (α:=Ctr_) none 0 []) Xau
  exact (show Hold _ _ [.st (sl (α:=Ctr_) none 0 []), .st (sl (α:=Reg_) none 0 []), .st (sl (α:=Pair_) none 0 [])] w from h9.ent)
 | true =>
 have hcl:=Xbl.1 hc
 obtain ⟨M,hM⟩:=Xhl hcl
 have hfl:=Xhk hcl
 rw [Xf4 hc]
 generalize evalS L=s at hM
 dsimp only
 refine wz7 ?_
 refine JR.makeMap idV rfl ?_
 intro bm
 refine wz13 ?_
 refine Wf (OpV.build [.slice a L.length k, .map (some bm)] (by kernel_rfl)) rfl ?_
 (repeat (refine wE ?_; intro _)); refine wA ?_
 rename_i bw
 refine JR.callSl rfl (fun w1 hw=>Xfh w1 _ a k L hw.get (by omega) hf) ?_
 intro pf qf
 refine wz13 ?_
 refine JR.more (Γ':=.own bw 83 [.slice a L.length k, .map (some bm)]::.omap bm (ents idV ([]:List (ID × Value))) ([]:List (ID × Value)).length::.st (memA [])::.st (sl a k L)::.st (sl pf qf (frontF L))::.own br 38 [.slice none 0 0, .slice none 0 0, .slice none 0 0]::[]) (fun w1 ho=>(ho.add (A:=memA []) X1y).ent) ?_
 refine Xax (v:=fun y:EvY M=>.agg ⟨stC s y.1⟩) (B:=fun y=>.own bw 83 [.slice a L.length k, .map (some bm)]::.omap bm (ents idV (memV y.2.1)) (memV y.2.1).length::.st (memA y.2.1)::.st (sl a k L)::.st (sl y.1.1.1 y.1.1.2 s.c)::.st (sl y.1.2.1.1 y.1.2.1.2 s.r)::.st (sl y.1.2.2.1 y.1.2.2.2 s.p)::.own br 38 [.slice none 0 0, .slice none 0 0, .slice none 0 0]::[]) rfl (fun w1 hw=>Xz6 ⟨hcl,hl,hf⟩ _ _ _ _ (.own br 38 [.slice none 0 0, .slice none 0 0, .slice none 0 0]::[]) [] pf qf (frontF L) (s,M) hM (by intro p hp; cases hp) List.nodup_nil (by omega) hw) ?_
 rintro ⟨⟨⟨ac,kc⟩,⟨ar,kr⟩,⟨ap,kp⟩⟩,⟨R2,hR2⟩⟩
 dsimp only [stC]
 refine wz9 ?_
 exact Xab ((ac,kc),(ar,kr),(ap,kp)) rfl
end
end
section
variable {P:Program}
end
section
variable {P:Program} {n:Nn} {w0:World} {F:Nat→Prop} {d:Option Nat} {t:TypeId} {pos:String} {aft:Array Edge} {g:Option (Nat × Bool)} {e:E} {Γ:List Fact}
end
section
variable {P:Program} {n:Nn} {w0:World} {F:Nat→Prop} {Q:Cont} {e:E} {Γ:List Fact}
end
structure Digits (i:List UInt8) (l:UInt8):Prop where
 great:∀ c∈i,128≤c.toNat
 small:l.toNat < 128
 some:i≠[]→l.toNat≠0
open Classical in
noncomputable def getN (b:List UInt8):Nat × Nat:=if h:∃ n,n < 18446744073709551616∧numL n <+: b then (Classical.choose h,(numL (Classical.choose h)).length) else (0,0)
section
attribute [local irreducible] JC JO JR JQ andThen inBlock OpV Gives Xae JM JS
section
variable {w0 w:World} {F:Nat→Prop} {Γ:List Fact} {br:Nat} {a:Option Addr} {c:Nat} {L:List UInt8}
def X2z (L:List UInt8) (h:32≤L.length):ID:=⟨L.take 32,by rw [List.length_take]; omega⟩
end
end
def strB (L:List UInt8):ByteArray:=⟨L.toArray⟩
section
attribute [local irreducible] JC JO JR JQ andThen inBlock OpV Gives Xae JM JS
def Xxn (m:Nat):Int:=if m % 2=0 then ((m / 2:Nat):Int) else -1 - ((m / 2:Nat):Int)
noncomputable def cutT (b:List UInt8) (m:Nat):ByteArray × List UInt8 × Bool :=
 if (getN b).2=0∨m < (getN b).1∨b.length - (getN b).2 < (getN b).1 then (.empty,[],false) else (strB ((b.drop (getN b).2).take (getN b).1),(b.drop (getN b).2).drop (getN b).1,true)
def X20 (L:List UInt8):List UInt8:=(sumL L).take 4
def Xxo (L:List UInt8):List UInt8:=numL L.length++L++X20 L
def X21 (b:List UInt8) (room:Int) (L:List UInt8):List UInt8 × Int :=
 if 4000 < L.length then ([],5) else if room < (b.length+(Xxo L).length:Nat) then ([],4) else (b++Xxo L,0)
noncomputable def storeT (b:List UInt8) (room:Int) (c:Commit):List UInt8 × Int:=if (Xbc c).2=0 then X21 b room (Xbc c).1 else ([],(Xbc c).2)
noncomputable def readStep (b:List UInt8):Option (List UInt8 × List UInt8) :=
 if (getN b).2=0∨4000 < (getN b).1∨b.length < (getN b).2+(getN b).1+4 then none
 else if X20 ((b.drop (getN b).2).take (getN b).1)=(b.drop ((getN b).2+(getN b).1)).take 4 then some ((b.drop (getN b).2).take (getN b).1,b.drop ((getN b).2+(getN b).1+4)) else none
noncomputable def readF:Nat→List UInt8→List (List UInt8)
 | 0,_=>[]
 | f+1,b=>match readStep b with | none=>[] | some q=>q.1::readF f q.2
noncomputable def readL (b:List UInt8):List (List UInt8):=readF b.length b
def Xxp (l:List (List UInt8)):List UInt8:=(l.map Xxo).flatten
noncomputable def readEnd (b:List UInt8):Nat:=(Xxp (readL b)).length
end
section
variable {Q:Cont} {e:E} {Γ:List Fact}
end
section
variable {P:Program} {n:Nn} {w0:World} {F:Nat→Prop} {Q:Cont} {e:E} {Γ:List Fact}
end
section
attribute [local irreducible] JC JO JR JQ andThen inBlock OpV Gives Xae JM JS
section
attribute [local irreducible] JX
instance {Γ:List Fact} {a:Option Addr} {c:Nat} {L:List UInt8} [h:Mem (sl a c L) Γ]:Typed Γ [.slice a L.length c] L:=⟨(a,c),rfl,fun A hA=>by
 simp only [Cell.facts,List.mem_singleton] at hA
 subst hA; exact h.ok⟩
end
section
variable {w0 w:World} {F:Nat→Prop} {Γ:List Fact} {bo:Nat} {a:Option Addr} {c:Nat} {b:List UInt8} {o:Op_}
end
noncomputable def restOp (k:Nat) (key:ByteArray) (b:List UInt8):Op_ × List UInt8 × Bool :=
 if k=0 then (⟨0,key, .empty,Xxn (getN b).1⟩,b.drop (getN b).2,decide (0 < (getN b).2)) else (⟨(k:Int),key,(cutT b 8).1,0⟩,(cutT b 8).2.1,(cutT b 8).2.2)
noncomputable def getOp (b:List UInt8):Op_ × List UInt8 × Int :=
 if (getN b).2=0∨4≤(getN b).1 then (op0,[],2) else
 if (cutT (b.drop (getN b).2) 8).2.2=false then (op0,[],2) else
 if (restOp (getN b).1 (cutT (b.drop (getN b).2) 8).1 (cutT (b.drop (getN b).2) 8).2.1).2.2=true∧Xes (restOp (getN b).1 (cutT (b.drop (getN b).2) 8).1 (cutT (b.drop (getN b).2) 8).2.1).1=true then
  ((restOp (getN b).1 (cutT (b.drop (getN b).2) 8).1 (cutT (b.drop (getN b).2) 8).2.1).1,(restOp (getN b).1 (cutT (b.drop (getN b).2) 8).1 (cutT (b.drop (getN b).2) 8).2.1).2.1,0) else (op0,[],2)
end
section
attribute [local irreducible] JC JO JR JQ andThen inBlock OpV Gives Xae JM JS
noncomputable section
def numO (b:List UInt8):Option (Nat × List UInt8):=if (getN b).2=0 then none else some ((getN b).1,b.drop (getN b).2)
def X11 (m:Nat) (b:List UInt8):Option (Nat × List UInt8):=if (getN b).2=0∨m < (getN b).1 then none else some ((getN b).1,b.drop (getN b).2)
def Xz7:Nat→List UInt8→Option (List ID × List UInt8)
 | 0,b=>some ([],b)
 | n+1,b=>if h:32≤b.length then (Xz7 n (b.drop 32)).map (fun q=>(X2z b h::q.1,q.2)) else none
def finC (c:Commit) (b:List UInt8):Option (Commit × List UInt8):=if may c=true then some (c,b) else none
def opC (n0:Int) (n1 n2:Nat) (ps:List ID) (b:List UInt8):Option (Commit × List UInt8) :=
 if n0 = -1 then finC ⟨⟨n0,n1⟩,n2,ps,op0⟩ b else if (getOp b).2.2=0 then finC ⟨⟨n0,n1⟩,n2,ps,(getOp b).1⟩ (getOp b).2.1 else none
def getC (b:List UInt8):Option (Commit × List UInt8) :=
 (numO b).bind fun q0=>(X11 1048576 q0.2).bind fun q1=>(X11 1048576 q1.2).bind fun q2=>(X11 8 q2.2).bind fun q3=>(Xz7 q3.1 q3.2).bind fun q4 =>
  opC (Xxn q0.1) q1.1 q2.1 q4.1 q4.2
end
structure ReadY (L:List UInt8) where
 c:Commit
 r:List UInt8
 ok:getC L=some (c,r)
 pa:Option Addr
 pc:Nat
 ra:Option Addr
 rc:Nat
section
variable {w0 w:World} {F:Nat→Prop} {Γ:List Fact} {br:Nat} {a:Option Addr} {c:Nat} {L:List UInt8}
end
end
section
variable {P:Program}
end
section
variable {P:Program} {w0:World} {F:Nat→Prop} {Q:Cont} {e:E} {Γ Γ':List Fact}
end
section
variable {P:Program} {n:Nn} {w0:World} {F:Nat→Prop} {d:Option Nat} {t:TypeId} {pos:String} {aft:Array Edge} {g:Option (Nat × Bool)} {e:E} {Γ:List Fact}
end
section
attribute [local irreducible] JC JO JR JQ andThen inBlock OpV Gives Xae JM JS
section
variable {w0:World} {F:Nat→Prop} {b2 b3 b4:Nat} {A B C:List Value} {v2 v3 v4:List Value}
end
def com0:Commit:=⟨⟨0,0⟩,0,[],op0⟩
noncomputable def getT (b:List UInt8):Commit × List UInt8 × Int:=match getC b with | some q=>(q.1,q.2,0) | none=>(com0,[],2)
structure GetY (b:List UInt8) where
 pa:Option Addr
 pc:Nat
 ra:Option Addr
 rc:Nat
noncomputable section
def decL:List (List UInt8)→List Commit
 | []=>[]
 | b::l=>match getC b with
  | some (c,[])=>c::decL l
  | _=>[]
end
end
abbrev rnd (l:Nat):Fence:=Fence.wide.inRound l
def Xjp:Oper→Bool
 | ⟨_, .defer _,_,_,_,_⟩=>false
 | _=>true
theorem Xrb {o:Oper} (h:Xjp o=true) (c:Call):o.op≠.defer c:=by
 obtain ⟨d,op,t,p,a,g⟩:=o
 rintro rfl
 cases h
section
variable {P:Program} {ops:Array Oper} {Q:Exit→Act→World→Prop} {l m:Nat}
theorem X12 {F:Fence} (hdp:F.depth=none) (hfn:∀ f,F.fn f) (hcalls:∀ {f args w R},Calls P f args w R→CallsIn F (m - 1) P f args w R) (hrows:∀ {row args w R},Rows P row args w R→RowsIn F (m - 1) P row args w R)
  {o:Oper} {a:Act} {K K':Act→World→Prop} (hK:∀ a w,K a w→K' a w) (r:Result Next) (h:o.upon P a K Q r):o.uponIn F m P a K' Q r:=by
 have hn:F.depth.isSome=true→1≤m:=by rw [hdp]; intro h; cases h
 cases r with
 | halt x w'=>cases x <;> exact h
 | ok x w' =>
  cases x with
  | value v=>exact hK _ _ h
  | skip=>exact hK _ _ h
  | defer d=>exact hK _ _ h
  | enter f args =>
   refine ⟨hn,hcalls (Calls.mono h ?_)⟩
   intro e w'' he
   cases e with
   | returned v=>exact hK _ _ he
   | panicked c=>exact he
   | outgrown=>exact he
  | row row args=>exact ⟨hn,(hrows h).mono fun v w'' h=>hK _ _ h⟩
  | round l f tmps assign body=>exact h.elim
  | _=>exact h
theorem Xhq (hd:∀ o∈ops,Xjp o=true) (hQ:¬ LetsOut Q):∀ (is:List Nat) (a:Act) (w:World),wpOps P ops Q is a w→wpOpsIn (rnd l) m P ops Q is a w
 | [],a,w,h=>h
 | i::is,a,w,h=>by
  unfold wpOps at h
  unfold wpOpsIn
  cases ho:ops[i]? with
  | none=>rw [ho] at h; exact Xhq hd hQ is a w h
  | some o =>
   rw [ho] at h
   dsimp only at h ⊢
   by_cases hw:Region.wanted o (yielded ops a.tmps)=true
   ·rw [if_pos hw] at h ⊢
    rcases h with h | h
    ·refine ⟨fun _ _=>trivial,?_⟩
     have hm:o∈ops:=Array.mem_of_getElem? ho
     rw [Oper.semAt_eq _ _ _ (Xrb (hd o hm))]
     exact X12 rfl (fun _=>trivial) (fun h=>CallsIn.inRound l (callsIn_wide.2 h)) (fun h c cs _=>let ⟨v,w',r,s⟩:=h c cs; ⟨v,w',r,stepsIn_wide.2 s⟩) (fun a w h=>Xhq hd hQ is a w h) _ h
    ·exact (hQ h.2).elim
   ·rw [if_neg hw] at h ⊢
    exact ⟨fun _ _=>trivial,Xhq hd hQ is _ w h⟩
end
section
variable {P:Program} {n:Nn} {w0:World} {F:Nat→Prop} {l:Nat} {Q:Cont} {e:E} {Γ:List Fact} [Dr]
def JI (P:Program) (n:Nn) (w0:World) (F:Nat→Prop) (l:Nat) (c:Code) (Q:Cont) (e:E) (Γ:List Fact):Prop :=
 (∀ e Γ,¬ Q .outgrown e Γ)→∀ a w,Fr n e a→Hold w0 F Γ w→c.wpIn (rnd l) 1 P (up n w0 F Q) a w
theorem JI.skip (h:Q .normal e Γ):JI P n w0 F l .skip Q e Γ:=fun _ _ _ fr ho=>wpIn_skip ⟨e,Γ,h,fr,ho⟩
theorem JI.ret (h:Q .ret e Γ):JI P n w0 F l .ret Q e Γ:=fun _ _ _ fr ho=>wpIn_ret ⟨e,Γ,h,fr,ho⟩
theorem JI.seq {x y:Code} (h:JI P n w0 F l x (andThen (JI P n w0 F l y Q) Q) e Γ):JI P n w0 F l (.seq x y) Q e Γ:=by
 intro hq a w fr ho
 refine wpIn_seq (wpIn_mono (h hq a w fr ho) ?_)
 rintro x a w ⟨e,Γ,h,fr,ho⟩
 cases x <;> first | exact h hq a w fr ho | exact ⟨e,Γ,h,fr,ho⟩
theorem Xz8 {c:Operand} {x y:Code} [hc:Ev e c (.bool true)] (h:JI P n w0 F l x Q e Γ):JI P n w0 F l (.cond c x y) Q e Γ :=
 fun hq a w fr ho=>wpIn_cond_true (hc.ok n a fr) (h hq a w fr ho)
theorem Xzm {c:Operand} {x y:Code} [hc:Ev e c (.bool false)] (h:JI P n w0 F l y Q e Γ):JI P n w0 F l (.cond c x y) Q e Γ :=
 fun hq a w fr ho=>wpIn_cond_false (hc.ok n a fr) (h hq a w fr ho)
theorem JI.block {id:Nat} {c:Code} (h:JI P n w0 F l c (inBlock id Q) e Γ):JI P n w0 F l (.block id c) Q e Γ:=by
 intro hq a w fr ho
 refine wpIn_block (wpIn_mono (h hq a w fr ho) ?_)
 rintro x a w ⟨e,Γ,hq,fr,ho⟩
 cases x with
 | exit id' =>
  simp only [inBlock,Exit.inBlock] at *
  split
  ·rename_i he; rw [if_pos he] at hq; exact ⟨e,Γ,hq,fr,ho⟩
  ·rename_i he; rw [if_neg he] at hq; exact ⟨e,Γ,hq,fr,ho⟩
 | _=>exact ⟨e,Γ,hq,fr,ho⟩
theorem JI.more {c:Code} {Γ':List Fact} (h:∀ w,Hold w0 F Γ w→Hold w0 F Γ' w) (k:JI P n w0 F l c Q e Γ'):JI P n w0 F l c Q e Γ:=fun hq a w fr ho=>k hq a w fr (h w ho)
theorem Xz9 (hq:∀ e Γ,¬ Q .outgrown e Γ):¬ LetsOut (up n w0 F Q):=by
 rintro ⟨a,w,e,Γ,h,_⟩
 exact hq e Γ h
theorem JI.region {id:Nat} {os:List Oper} (hd:os.all Xjp=true) (h:JO P n w0 F ⟨os⟩ 0 os Q e Γ):JI P n w0 F l (.region id ⟨os⟩ false) Q e Γ:=by
 intro hq a w fr ho
 refine wpIn_region ?_
 have e1:List.range (Array.size ⟨os⟩:Nat)=List.range' 0 os.length:=by simp [List.range_eq_range']
 rw [e1]
 refine Xhq (fun o ho=>?_) (Xz9 hq) _ _ _ (h rfl a w fr ho)
 exact List.all_eq_true.1 hd o (by simpa using ho)
theorem JI.drawP {id:Nat} {ops:List Oper} (hm:P.follows .mixedOrders=true) (hd:ops.all Xjp=true) (h:JP P n w0 F ops [] ops.length (List.replicate ops.length false) Q e Γ):JI P n w0 F l (.region id ⟨ops⟩ true) Q e Γ:=by
 intro hq a w fr ho
 refine wpIn_region_draw fun t=>?_
 simp only [Region.schedule,hm,Bool.true_or,if_true]
 refine Xhq (fun o ho=>List.all_eq_true.1 hd o (by simpa using ho)) (Xz9 hq) _ _ _ ?_
 have:=Xp5 Xrl _ _ _ _ (h a w.drew fr ho.drew)
 have e1:(⟨List.replicate ops.length false⟩:Array Bool)=Array.replicate (⟨ops⟩:Array Oper).size false:=by apply Array.ext'; simp
 rw [e1] at this
 exact wpAny_sound _ t _ a _ this
def JY (P:Program) (n:Nn) (w0:World) (F:Nat→Prop) (ops:Array Oper) (i:Nat) (os:List Oper) (Q:Cont) (e:E) (Γ:List Fact):Prop :=
 ops.toList.drop i=os→∀ a w,Fr n e a→Hold w0 F Γ w→wpOpsIn Fence.wide 2 P ops (up n w0 F Q) (List.range' i os.length) a w
theorem JY.nil {ops:Array Oper} {i:Nat} (h:Q .normal e Γ):JY P n w0 F ops i [] Q e Γ :=
 fun _ a w fr ho=>by show wpOpsIn Fence.wide 2 P ops (up n w0 F Q) [] a w; unfold wpOpsIn; exact ⟨e,Γ,h,fr,ho⟩
section
variable {ops:List Oper} {i d:Nat} {op:Op} {t:TypeId} {pos:String} {aft:Array Edge} {g:Option (Nat × Bool)} {os:List Oper}
theorem JY.val {v:Value} (hg:Xbj ops e g=some true) (h:OpV P n w0 F ⟨some d,op,t,pos,aft,g⟩ e Γ v) (hd:Nat.blt d n.s=true) (k:JY P n w0 F ⟨ops⟩ (i+1) os Q ((d,v)::e) Γ):JY P n w0 F ⟨ops⟩ i (⟨some d,op,t,pos,aft,g⟩::os) Q e Γ:=by
 intro hdr a w fr ho
 obtain ⟨h1,h2⟩:=Xdm hdr
 simp only [List.length_cons,List.range'_succ,wpOpsIn]
 rw [h1]
 simp only [Xa9 (o:=⟨some d,op,t,pos,aft,g⟩) hg fr,if_true]
 refine ⟨fun _ _=>trivial,?_⟩
 show Oper.uponIn _ _ _ _ _ _ _ ((execOp a.eval ⟨some d,op,t,pos,aft,g⟩).run P w)
 rw [h a w fr ho]
 exact k h2 _ w (fr.put hd v) ho
theorem JY.omit (hg:Xbj ops e g=some false) (hd:Nat.blt d n.s=true) (k:JY P n w0 F ⟨ops⟩ (i+1) os Q ((d,undef)::e) Γ):JY P n w0 F ⟨ops⟩ i (⟨some d,op,t,pos,aft,g⟩::os) Q e Γ:=by
 intro hdr a w fr ho
 obtain ⟨h1,h2⟩:=Xdm hdr
 simp only [List.length_cons,List.range'_succ,wpOpsIn]
 rw [h1]
 simp only [Xa9 (o:=⟨some d,op,t,pos,aft,g⟩) hg fr,Bool.false_eq_true,if_false]
 exact ⟨fun _ _=>trivial,k h2 _ w (fr.put hd _) ho⟩
theorem JY.skip (hg:Xu5 ops e g=true) (hd:Nat.blt d n.s=true) (k:JY P n w0 F ⟨ops⟩ (i+1) os Q ((d,undef)::e) Γ):JY P n w0 F ⟨ops⟩ i (⟨some d,op,t,pos,aft,g⟩::os) Q e Γ:=by
 intro hdr a w fr ho
 obtain ⟨h1,h2⟩:=Xdm hdr
 simp only [List.length_cons,List.range'_succ,wpOpsIn]
 rw [h1]
 simp only [Xm5 (o:=⟨some d,op,t,pos,aft,g⟩) hg fr,Bool.false_eq_true,if_false]
 exact ⟨fun _ _=>trivial,k h2 _ w (fr.put hd _) ho⟩
theorem JY.test (s:Nat) {b:Bool} {p:Prop} [hc:Lk e s (.bool b)] [hp:Says b p] (ht:p→JY P n w0 F ⟨ops⟩ i os Q ((s, .bool true)::e) Γ) (hf:¬ p→JY P n w0 F ⟨ops⟩ i os Q ((s, .bool false)::e) Γ):JY P n w0 F ⟨ops⟩ i os Q e Γ:=by
 intro hd a w fr ho
 have key:Fr n ((s, .bool b)::e) a:=fr.again hc.ok
 cases b with
 | true=>exact ht (hp.ok.1 rfl) hd a w key ho
 | false=>exact hf (fun h=>by have:=hp.ok.2 h; cases this) hd a w key ho
theorem JY.reslot (s:Nat) {v:Value} (u:Value) [hs:Lk e s v] (h:v=u) (k:JY P n w0 F ⟨ops⟩ i os Q ((s,u)::e) Γ):JY P n w0 F ⟨ops⟩ i os Q e Γ :=
 fun hd a w fr ho=>k hd a w (fr.again (by rw [← h]; exact hs.ok)) ho
theorem JY.more {Γ':List Fact} (h:∀ w,Hold w0 F Γ w→Hold w0 F Γ' w) (k:JY P n w0 F ⟨ops⟩ i os Q e Γ'):JY P n w0 F ⟨ops⟩ i os Q e Γ:=fun hd a w fr ho=>k hd a w fr (h w ho)
theorem JY.yield {f:Operand} {args:Array Operand} {ats:Array TypeId} {vs:List Value} {l:Nat} {κ ξ:Type} {Γt:ξ→List Fact} {Γf:κ→List Fact} (hg:Xbj ops e g=some true) [hf:Ev e f (.func (.yield l) #[] #[])] [hv:ArgVs e args.toList vs] (hd:Nat.blt d n.s=true)
  (h:∀ w,Hold w0 F Γ w→YieldAt Fence.wide 1 P l ⟨vs⟩ w fun x w'=>(x = .returned (.bool true)∧∃ s,Hold w0 F (Γt s) w')∨(x = .returned (.bool false)∧∃ k,Hold w0 F (Γf k) w'))
  (kt:∀ s,JY P n w0 F ⟨ops⟩ (i+1) os Q ((d, .bool true)::e) (Γt s)) (kf:∀ k,JY P n w0 F ⟨ops⟩ (i+1) os Q ((d, .bool false)::e) (Γf k)) :
  JY P n w0 F ⟨ops⟩ i (⟨some d, .call ⟨.value f,args,ats⟩,t,pos,aft,g⟩::os) Q e Γ:=by
 intro hdr a w fr ho
 obtain ⟨h1,h2⟩:=Xdm hdr
 simp only [List.length_cons,List.range'_succ,wpOpsIn]
 rw [h1]
 simp only [Xa9 (o:=⟨some d, .call ⟨.value f,args,ats⟩,t,pos,aft,g⟩) hg fr,if_true]
 refine ⟨fun _ _=>trivial,?_⟩
 obtain ⟨fn,tmps,assign,body,hy,hR⟩:=h w ho
 have e1:=hf.ok n a fr
 have e2:args.map a.eval=⟨vs⟩:=by apply Array.ext'; simp [hv.ok n a fr]
 have hrun:(execOp a.eval ⟨some d, .call ⟨.value f,args,ats⟩,t,pos,aft,g⟩).run P w = .ok (.round l fn tmps assign body) w:=by
  have e3:(resolve a.eval ⟨.value f,args,ats⟩ t).run P w = .ok ⟨.fn (.yield l) #[],⟨vs⟩⟩ w:=by
   simp [resolve,e1,Deferred.ofValue]
   apply Array.ext'; simp [hv.ok n a fr]
  have e4:(⟨vs⟩:Array Value)++(#[]:Array Value)=⟨vs⟩:=by apply Array.ext'; simp
  simp only [execOp,Sem.run_bind,e3,Result.andThen_ok,invoke]
  simpa [e4] using hy
 show Oper.uponIn _ _ _ _ _ _ _ ((execOp a.eval ⟨some d, .call ⟨.value f,args,ats⟩,t,pos,aft,g⟩).run P w)
 rw [hrun]
 refine ⟨fun h=>(by cases h),hR.mono ?_⟩
 rintro x w' (⟨rfl,s,ho'⟩ | ⟨rfl,k,ho'⟩)
 ·exact kt s h2 _ w' (fr.put hd _) ho'
 ·exact kf k h2 _ w' (fr.put hd _) ho'
end
end
theorem X13 (p1 p2:Nat) (v1 v2:Value) (T:Array Value):((#[p1,p2]:Array Nat).zip (⟨[v1,v2]⟩:Array Value)).foldl (fun t (p,v)=>t.setIfInBounds p v) T=(T.setIfInBounds p1 v1).setIfInBounds p2 v2:=by
 simp
section
variable {P:Program} {n:Nn} {w0:World} {F:Nat→Prop} {l:Nat} {Q:Cont} {e:E} {Γ:List Fact}
end
section
variable {P:Program} {n:Nn} {w0:World} {F:Nat→Prop} {l:Nat} {e:E} {Γ:List Fact} [Dr]
theorem Hold.turn {w:World} {r:Nat} {o o':Obj} {Δ:List Fact} (h:Hold w0 F (.obj r o::Δ) w):Hold w0 F (.obj r o'::Δ) (w.putObj r o'):=Xly h
theorem Hold.objAt {w:World} {r:Nat} {o:Obj} {Δ:List Fact} (h:Hold w0 F (.obj r o::Δ) w):w.heap[r]? = some o:=h.sat (.obj r o) (by simp)
def Iter (P:Program) (w0:World) (F:Nat→Prop) (gf:FuncId) (lb:List Value) (N:Nat) {ι:Type} (v1 v2:Nat→ι→Value) (G:Nat→ι→List Fact) (Γi:List Fact):Prop :=
 ∀ (l:Nat) (κ ξ:Type) (M:Nat→ξ→List Fact) (X:κ→List Fact),
  (∀ i,i < N→∀ (u:ι) (s:ξ) (Γ:List Fact) w,Hold w0 F (G i u++Γ++M i s) w→YieldAt Fence.wide 1 P l ⟨[v1 i u,v2 i u]⟩ w fun x w'=>(x = .returned (.bool true)∧∃ s,Hold w0 F (Γ++M (i+1) s) w')∨(x = .returned (.bool false)∧∃ k,Hold w0 F (Γ++X k) w')) →
  ∀ s w,Hold w0 F (Γi++M 0 s) w→Calls P gf ⟨.func (.yield l) #[] #[]::lb⟩ w fun x w'=>(∃ v,x = .returned v)∧((∃ s,Hold w0 F (M N s) w')∨∃ k,Hold w0 F (X k) w')
theorem JX.range {Q:Nn→Cont} {g:Operand} {p1 p2:Nat} {assign body:Code} {gf:FuncId} {lb:List Value} {N:Nat} {ι ζ κ ξ:Type} {v1 v2:Nat→ι→Value} {G:Nat→ι→List Fact} {Γi:List Fact}
  (M:Nat→ξ→List Fact) (X:κ→List Fact) (E2:Nat→ι→ξ→ζ→E) (N2:Nat→ι→ξ→ζ→List Fact) (s0:ξ)
  [hg:Ev e g (.func (.func gf) #[] ⟨lb⟩)] [hb:Body P gf] (h1:Nat.blt p1 n.s=true) (h2:Nat.blt p2 n.s=true)
  (hi:Iter P w0 F gf lb N v1 v2 G Γi) (h0:∀ w,Hold w0 F Γ w→Hold w0 F (Γi++M 0 s0) w)
  (ha:∀ i,i < N→∀ (u:ι) (s:ξ) (Γ:List Fact) l,JI P ⟨n.s,[]⟩ w0 F l assign (fun x e' Γ'=>x = .normal∧∃ z,Ent e' Γ' (E2 i u s z) (N2 i u s z++Γ)) ((p2,v2 i u)::(p1,v1 i u)::e) (G i u++M i s++Γ))
  (hbd:∀ i,i < N→∀ (u:ι) (s:ξ) (z:ζ) (Γ:List Fact) l,JI P ⟨n.s,[]⟩ w0 F l body (fun x e' Γ'=>(x = .normal∧∃ s,∀ w,Hold w0 F Γ' w→Hold w0 F (M (i+1) s++Γ) w)∨(x = .ret∧∃ k,∀ w,Hold w0 F Γ' w→Hold w0 F (X k++Γ) w)) (E2 i u s z) (N2 i u s z++Γ))
  (kn:∀ D s,Q ⟨n.s,⟨.collected D,#[]⟩::n.ds⟩ .normal e (.obj D (.deferred (some []))::M N s))
  (kr:∀ D k,Q ⟨n.s,⟨.collected D,#[]⟩::n.ds⟩ .ret e (.obj D (.deferred (some []))::X k)) :
  JX P n w0 F (.rangeFunc g #[p1,p2] assign body) Q e Γ:=by
 intro a w fr ho
 refine (wpIn_wide (n:=3)).1 (wpIn_rangeFunc ?_)
 intro fn hfn
 obtain ⟨rec,hrec⟩:∃ rec:LoopState→Option Code→Loop,rec=fun st pe=>{ state:=st,pending:=pe,fn,tmps:=a.tmps,params:=#[p1,p2],assign,body,defers:=w.heap.size }:=⟨_,rfl⟩
 have ho1:Hold w0 F (.obj (w.heap.size+1) (.loop (rec .ready none))::.obj w.heap.size (.deferred (some []))::(Γi++M 0 s0)) ((w.alloc (.deferred (some []))).alloc (.loop (rec .ready none))):=by
  have a1:=(h0 w ho).push (f:=.obj w.heap.size (.deferred (some []))) (fun _=>Iff.rfl) (fun _ _ h=>h)
  have a2:=a1.push (f:=.obj (w.alloc (.deferred (some []))).heap.size (.loop (rec .ready none))) (fun _=>Iff.rfl) (fun _ _ h=>h)
  simpa only [World.size_alloc] using a2
 obtain ⟨W1,hW1⟩:∃ W1,(w.alloc (.deferred (some []))).alloc (.loop (rec .ready none))=W1:=⟨_,rfl⟩
 rw [hW1] at ho1
 obtain ⟨D,hD⟩:∃ D,D=w.heap.size:=⟨_,rfl⟩
 have eg:=hg.ok n a fr
 have e3:(#[.func (.yield (D+1)) #[] #[]]:Array Value)++(⟨lb⟩:Array Value)=⟨.func (.yield (D+1)) #[] #[]::lb⟩:=by apply Array.ext'; simp
 have hLr:∀ st pe,(rec st pe).state=st:=fun st pe=>by rw [hrec]
 have fr0:Fr ⟨n.s,[]⟩ e ⟨a.tmps,[]⟩:=⟨rfl,fr.size,fr.slot⟩
 refine ⟨D+1,[{ target:=.collected D,args:=#[] }],W1,{ target:=.fn (.func gf) ⟨lb⟩,args:=#[.func (.yield (D+1)) #[] #[]] },W1,gf,⟨.func (.yield (D+1)) #[] #[]::lb⟩,W1,?_,?_,?_,?_,fun h=>(by cases h),?_⟩
 ·rw [← hW1,hrec,hD]; exact run_enterLoop_outer _ _ _ _ _
 ·simp only [resolve,eg]
  simp [go_sem,Deferred.ofValue]
 ·intro f' _; trivial
 ·simp only [invoke,e3,hb.ok]
 ·rw [← hD] at ho1
  let M':Nat→ξ→List Fact:=fun i s=>.obj (D+1) (.loop (rec .ready none))::.obj D (.deferred (some []))::M i s
  let X':κ→List Fact:=fun k=>.obj (D+1) (.loop { rec .ready none with state:=.done,pending:=some .ret })::.obj D (.deferred (some []))::X k
  refine callsIn_wide.2 (Calls.mono (hi (D+1) κ ξ M' X' ?_ s0 W1 (ho1.perm ?_)) ?_)
  ·intro i hin u s Γ W hW
   have hW':Hold w0 F (.obj (D+1) (.loop (rec .ready none))::(G i u++M i s++.obj D (.deferred (some []))::Γ)) W:=by
    refine hW.perm ?_
    show (G i u++Γ++.obj (D+1) (.loop (rec .ready none))::.obj D (.deferred (some []))::M i s).Perm _
    refine List.perm_middle.trans (List.Perm.cons _ ?_)
    refine List.perm_middle.trans ((List.Perm.cons _ ?_).trans List.perm_middle.symm)
    rw [List.append_assoc,List.append_assoc]
    exact List.Perm.append_left _ List.perm_append_comm
   have hl:=hW'.objAt
   have hy:=run_yield (P:=P) (args:=⟨[v1 i u,v2 i u]⟩) hl (by rw [hrec]; rfl)
   refine ⟨_,_,_,_,hy,roundIn_of_wpIn trivial ?_⟩
   have etm:((rec .ready none).params.zip (⟨[v1 i u,v2 i u]⟩:Array Value)).foldl (fun t (p,v)=>t.setIfInBounds p v) (rec .ready none).tmps=(a.tmps.setIfInBounds p1 (v1 i u)).setIfInBounds p2 (v2 i u):=by
    rw [hrec]; exact X13 p1 p2 _ _ _
   have ea:(rec .ready none).assign=assign:=by rw [hrec]
   have eb:(rec .ready none).body=body:=by rw [hrec]
   rw [etm,ea,eb]
   have fr1:=(fr0.put h1 (v1 i u)).put h2 (v2 i u)
   have hW2:Hold w0 F (G i u++M i s++(.obj (D+1) (.loop (rec .ready none))::.obj D (.deferred (some []))::Γ)) W:=hW'.perm List.perm_middle.symm
   refine wpIn_mono (ha i hin u s _ (D+1) (fun _ _ h=>by cases h.1) _ W fr1 hW2) ?_
   rintro x a2 W2 ⟨e2,Γ2,⟨rfl,z,hent⟩,fr2,ho2⟩
   have ho3:Hold w0 F (.obj (D+1) (.loop (rec .ready none))::(N2 i u s z++.obj D (.deferred (some []))::Γ)) W2:=(hent.facts w0 F W2 ho2).perm List.perm_middle
   have fr3:=hent.slots _ _ fr2
   refine ⟨_,run_beginRound ho3.objAt (hLr _ _),?_⟩
   have ho4:=(ho3.turn (o':=.loop { rec .ready none with state:=.busy })).perm (List.perm_middle (l₁:=N2 i u s z)).symm
   refine wpIn_mono (hbd i hin u s z _ (D+1) (fun _ _ h=>by rcases h with h | h <;> cases h.1) _ _ fr3 ho4) ?_
   rintro x a5 W5 ⟨e5,Γ5,hx,fr5,ho5⟩
   rcases hx with ⟨rfl,s2,hm⟩ | ⟨rfl,k,hm⟩
   ·have ho6:=(hm _ ho5).perm (List.perm_middle (l₁:=M (i+1) s2))
    refine ⟨_,_,run_endRound none ho6.objAt, .inl ⟨rfl,s2,?_⟩⟩
    have ho7:=ho6.turn (o':=.loop (rec .ready none))
    have er:(Obj.loop { ({ rec .ready none with state:=.busy }:Loop) with state:=if (none:Option Code).isNone then .ready else .done,pending:=none }) = .loop (rec .ready none):=by rw [hrec]; rfl
    rw [er]
    refine ho7.perm ?_
    show List.Perm _ (Γ++.obj (D+1) (.loop (rec .ready none))::.obj D (.deferred (some []))::M (i+1) s2)
    refine (List.Perm.cons _ ?_).trans List.perm_middle.symm
    refine List.perm_middle.trans ((List.Perm.cons _ List.perm_append_comm).trans List.perm_middle.symm)
   ·have ho6:=(hm _ ho5).perm (List.perm_middle (l₁:=X k))
    refine ⟨_,_,run_endRound (some .ret) ho6.objAt, .inr ⟨rfl,k,?_⟩⟩
    have ho7:=ho6.turn (o':=.loop { rec .ready none with state:=.done,pending:=some .ret })
    have er:(Obj.loop { ({ rec .ready none with state:=.busy }:Loop) with state:=if (some Code.ret:Option Code).isNone then .ready else .done,pending:=some .ret }) = .loop { rec .ready none with state:=.done,pending:=some .ret }:=by rfl
    rw [er]
    refine ho7.perm ?_
    show List.Perm _ (Γ++.obj (D+1) (.loop { rec .ready none with state:=.done,pending:=some .ret })::.obj D (.deferred (some []))::X k)
    refine (List.Perm.cons _ ?_).trans List.perm_middle.symm
    refine List.perm_middle.trans ((List.Perm.cons _ List.perm_append_comm).trans List.perm_middle.symm)
  ·show List.Perm _ (Γi++.obj (D+1) (.loop (rec .ready none))::.obj D (.deferred (some []))::M 0 s0)
   refine (List.Perm.trans ?_ List.perm_middle.symm)
   exact List.Perm.cons _ List.perm_middle.symm
  ·have frD:∀ {W},Hold w0 F Γ W→Fr ⟨n.s,⟨.collected D,#[]⟩::n.ds⟩ e { a with defers:=[⟨.collected D,#[]⟩]++a.defers }:=fun _=>⟨by show [_]++a.defers=_; rw [fr.defers]; rfl,fr.size,fr.slot⟩
   have frE:=frD ho
   rintro x W3 ⟨⟨v,rfl⟩,⟨s,hM⟩ | ⟨k,hX⟩⟩
   ·refine ⟨none,W3.putObj (D+1) (.loop { rec .ready none with state:=.exhausted }),?_,?_⟩
    ·have:=run_endLoop (P:=P) hM.objAt (by rw [hLr]; simp)
     have ep:(rec .ready none).pending=none:=by rw [hrec]
     exact this.trans (congrArg (fun x=>Result.ok x _) ep)
    ·have ho9:=(hM.turn (o':=.loop { rec .ready none with state:=.exhausted })).tail
     exact ⟨_,e,_,kn D s,frE,ho9⟩
   ·refine ⟨some .ret,_,run_endLoop (P:=P) hX.objAt (by simp),?_⟩
    have ho9:=(hX.turn (o':=.loop { ({ rec .ready none with state:=.done,pending:=some .ret }:Loop) with state:=.exhausted })).tail
    exact wpIn_ret ⟨_,e,_,kr D k,frE,ho9⟩
theorem JX.block {Q:Nn→Cont} {id:Nat} {c:Code} (h:JX P n w0 F c (fun n'=>inBlock id (Q n')) e Γ):JX P n w0 F (.block id c) Q e Γ:=by
 intro a w fr ho
 refine wp_block (wp_mono (h a w fr ho) ?_)
 rintro x a w ⟨n',e,Γ,hq,fr,ho⟩
 cases x with
 | exit id' =>
  simp only [inBlock,Exit.inBlock] at *
  split
  ·rename_i he; rw [if_pos he] at hq; exact ⟨n',e,Γ,hq,fr,ho⟩
  ·rename_i he; rw [if_neg he] at hq; exact ⟨n',e,Γ,hq,fr,ho⟩
 | _=>exact ⟨n',e,Γ,hq,fr,ho⟩
end
section
attribute [local irreducible] JC JO JR JQ andThen inBlock OpV Gives Xae JM JS
section
attribute [local irreducible] JY JI JX
noncomputable def comAt (b:List UInt8) (i:Nat):Commit:=(decL (readL b)).getD i com0
noncomputable def endAt (b:List UInt8) (i:Nat):Nat:=(Xxp ((readL b).take (i+1))).length
end
section
attribute [local irreducible] Xat
theorem Xxq (L:List Commit):∀ (ps:List ID) (g:Int),g≤ps.foldl (fun g p=>max g (Xbs L p)) g∧∀ p∈ps,Xbs L p≤ps.foldl (fun g p=>max g (Xbs L p)) g
 | [],g=>⟨Int.le_refl _,by simp⟩
 | q::ps,g=>by
  obtain ⟨h1,h2⟩:=Xxq L ps (max g (Xbs L q))
  refine ⟨by simp only [List.foldl_cons]; omega,fun p hp=>?_⟩
  simp only [List.foldl_cons]
  rcases List.mem_cons.1 hp with rfl | hp
  ·omega
  ·exact h2 p hp
theorem Xxr {L:List Commit} {p:ID} {ps:List ID} (h:p∈ps):Xbs L p≤Xce L ps:=(Xxq L ps 0).2 p h
theorem Closed.take {s:List Commit} (h:Closed s) (hs:s.Pairwise leS) (k:Nat):Closed (s.take k):=by
 refine h.sub (fun c hc=>List.mem_of_mem_take hc) (Xo7 h.nodup (List.take_sublist k s)) fun c hc p hp=>?_
 obtain ⟨i,hi,rfl⟩:=List.getElem_of_mem hc
 rw [List.length_take] at hi
 rw [List.getElem_take] at hp
 have hm:s[i]∈s:=List.getElem_mem _
 have hf:=h.fine s[i] hm
 obtain ⟨d,hd,rfl⟩:=Xas.1 (hf.here p hp)
 obtain ⟨j,hj,rfl⟩:=List.getElem_of_mem hd
 have hg:Xbs s (idC s[j])≤Xce s s[i].parents:=Xxr hp
 rw [Xb5 h.nodup hd] at hg
 have hg2:=hf.gen
 have hji:j < i:=by
  rcases Nat.lt_trichotomy j i with h1 | h1 | h1
  ·exact h1
  ·subst h1; omega
  ·have:=List.pairwise_iff_getElem.1 hs i j (by omega) hj h1
   rcases this with h2 | ⟨h2,_⟩ <;> omega
 exact Xas.2 ⟨s[j],List.mem_of_getElem? (i:=j) (by rw [List.getElem?_take_of_lt (by omega),List.getElem?_eq_getElem hj]),rfl⟩
theorem Xxs {L:List Commit} {M:Memo} (n:Nat):ofF (n+1) L M []=some (st0,M):=by rw [Xfe,if_pos rfl]
theorem Xxt {L:List Commit} {M:Memo} (n:Nat) {f:List ID} {s:State_} (hf:f≠[]) (h:getS M (keyF f)=some s):ofF (n+1) L M f=some (s,M):=by rw [Xfe,if_neg hf,h]
theorem Xpt {L:List Commit} {M:Memo} (n:Nat) {f:List ID} {u:State_ × Memo} (hf:f≠[]) (h:getS M (keyF f)=none) (hb:bodyF (ofF n L) L M f=some u):ofF (n+1) L M f=some (u.1,updS u.2 (keyF f) u.1):=by rw [Xfe,if_neg hf,h,hb]; rfl
theorem Xsf {of:OfT} {L:List Commit} {M:Memo} {a:ID} {c:Commit} {u:State_ × Memo} (hc:(Xcf L a).1=c) (h:of M c.parents=some u):bodyF of L M [a]=some ((stDo u.1 c.op c.ev c.gen).1,u.2):=by
 show oneF of L M a=_
 unfold oneF; rw [hc,h]; rfl
theorem X14 {of:OfT} {L:List Commit} {M:Memo} {x y:ID} {u v r:State_ × Memo} (h1:of M [x]=some u) (h2:of u.2 (lastE L [x] [y])=some v) (h3:of v.2 [y]=some r):bodyF of L M [x,y]=some ((stMerge v.1 u.1 r.1).1,r.2):=by
 rw [Xff]
 unfold stJoin
 rw [h1]
 simp only [Option.bind_some,List.foldlM_cons,List.foldlM_nil,joinStep]
 rw [h2]
 simp only [Option.bind_some]
 rw [h3]
 rfl
theorem Xpu {L:List Commit} {a x y:ID} {ca cx cy:Commit} (hA:(Xcf L a).1=ca) (hX:(Xcf L x).1=cx) (hY:(Xcf L y).1=cy) (pA:ca.parents=[]) (pX:cx.parents=[a]) (pY:cy.parents=[a])
  (hl:lastE L [x] [y]=[a]) (k1:keyF [a]≠keyF [x]) (k2:keyF [a]≠keyF [y]) (k3:keyF [x]≠keyF [y]) (n:Nat) :
  ∃ M,ofF (n+4) L [] [x,y]=some ((stMerge (stDo st0 ca.op ca.ev ca.gen).1 (stDo (stDo st0 ca.op ca.ev ca.gen).1 cx.op cx.ev cx.gen).1 (stDo (stDo st0 ca.op ca.ev ca.gen).1 cy.op cy.ev cy.gen).1).1,M):=by
 obtain ⟨sa,ha⟩:∃ sa,sa=(stDo st0 ca.op ca.ev ca.gen).1:=⟨_,rfl⟩
 have o1:ofF (n+2) L [] [a]=some (sa,[(keyF [a],sa)]):=by
  have h:=Xpt (L:=L) (M:=[]) (n+1) (f:=[a]) (by simp) rfl (Xsf hA (by rw [pA]; exact Xxs n))
  rw [h,ha]; rfl
 rw [← ha]
 obtain ⟨sx,hx⟩:∃ sx,sx=(stDo sa cx.op cx.ev cx.gen).1:=⟨_,rfl⟩
 obtain ⟨sy,hy⟩:∃ sy,sy=(stDo sa cy.op cy.ev cy.gen).1:=⟨_,rfl⟩
 have o2:ofF (n+3) L [] [x]=some (sx,[(keyF [a],sa),(keyF [x],sx)]):=by
  have h:=Xpt (L:=L) (M:=[]) (n+2) (f:=[x]) (by simp) rfl (Xsf hX (by rw [pX]; exact o1))
  rw [h]
  dsimp only
  rw [← hx]
  have:updS [(keyF [a],sa)] (keyF [x]) sx=[(keyF [a],sa),(keyF [x],sx)]:=by simp [updS,k1]
  rw [this]
 have g1:getS [(keyF [a],sa),(keyF [x],sx)] (keyF [a])=some sa:=by simp [getS]
 have g2:getS [(keyF [a],sa),(keyF [x],sx)] (keyF [y])=none:=by simp [getS,k2,k3]
 have o3:ofF (n+3) L [(keyF [a],sa),(keyF [x],sx)] (lastE L [x] [y])=some (sa,[(keyF [a],sa),(keyF [x],sx)]):=by rw [hl]; exact Xxt (n+2) (by simp) g1
 have o4:ofF (n+3) L [(keyF [a],sa),(keyF [x],sx)] [y]=some (sy,updS [(keyF [a],sa),(keyF [x],sx)] (keyF [y]) sy):=by
  have h:=Xpt (L:=L) (n+2) (f:=[y]) (by simp) g2 (Xsf hY (by rw [pY]; exact Xxt (n+1) (by simp) g1))
  rw [h]
  dsimp only
  rw [← hy]
 have h:=Xpt (L:=L) (M:=[]) (n+3) (f:=[x,y]) (by simp) rfl (X14 o2 o3 o4)
 rw [← hx,← hy]
 exact ⟨_,h⟩
end
end
section
attribute [local irreducible] JC JO JR JQ andThen inBlock OpV Gives Xae JM JS
attribute [local irreducible] Xat
def keyX:ByteArray:=⟨#[120]⟩
def eA:Commit:=⟨⟨0,1⟩,1,[],⟨2,keyA,keyX,0⟩⟩
def iE:ID:=sumI (Xa0 eA)
def eB:Commit:=⟨⟨0,2⟩,2,[iE],⟨3,keyA,keyX,0⟩⟩
def eC:Commit:=⟨⟨1,1⟩,2,[iE],⟨2,keyA,keyX,0⟩⟩
def iF:ID:=sumI (Xa0 eB)
def iG:ID:=sumI (Xa0 eC)
set_option maxRecDepth 100000 in
theorem X0a:may eA=true:=by decide +kernel
set_option maxRecDepth 100000 in
theorem X0b:may eB=true:=by decide +kernel
set_option maxRecDepth 100000 in
theorem X0c:may eC=true:=by decide +kernel
theorem Xxu:Xat eA=(iE,0):=by simp only [Xat,X0a,if_true]; rfl
theorem X15:Xat eB=(iF,0):=by simp only [Xat,X0b,if_true]; rfl
theorem X16:Xat eC=(iG,0):=by simp only [Xat,X0c,if_true]; rfl
theorem Xrc:idC eA=iE:=by unfold idC; rw [Xxu]
theorem Xuj:idC eB=iF:=by unfold idC; rw [X15]
theorem Xxv:idC eC=iG:=by unfold idC; rw [X16]
set_option maxRecDepth 100000 in
theorem ef1:sumL (Xa0 eA)≠sumL (Xa0 eB):=by decide +kernel
set_option maxRecDepth 100000 in
theorem ef2:sumL (Xa0 eA)≠sumL (Xa0 eC):=by decide +kernel
set_option maxRecDepth 100000 in
theorem ef3:sumL (Xa0 eB)≠sumL (Xa0 eC):=by decide +kernel
theorem ne1:iE≠iF:=fun h=>ef1 (congrArg (·.1) h)
theorem ne2:iE≠iG:=fun h=>ef2 (congrArg (·.1) h)
theorem ne3:iF≠iG:=fun h=>ef3 (congrArg (·.1) h)
set_option maxRecDepth 100000 in
theorem kf1:sumL (idsL [iE])≠sumL (idsL [iF]):=by decide +kernel
set_option maxRecDepth 100000 in
theorem kf2:sumL (idsL [iE])≠sumL (idsL [iG]):=by decide +kernel
set_option maxRecDepth 100000 in
theorem kf3:sumL (idsL [iF])≠sumL (idsL [iG]):=by decide +kernel
theorem ke1:keyF [iE]≠keyF [iF]:=fun h=>kf1 (congrArg (·.1) h)
theorem ke2:keyF [iE]≠keyF [iG]:=fun h=>kf2 (congrArg (·.1) h)
theorem ke3:keyF [iF]≠keyF [iG]:=fun h=>kf3 (congrArg (·.1) h)
attribute [local irreducible] iE iF iG
def L3:List Commit:=[eA,eB,eC]
theorem Xiw:cids L3=[iE,iF,iG]:=by show [idC eA,idC eB,idC eC]=_; rw [Xrc,Xuj,Xxv]
theorem Xlb {c:Commit}:c∈L3↔c=eA∨c=eB∨c=eC:=by simp [L3]
theorem X17 {x y:ID}:par L3 x y↔(x=iF∨x=iG)∧y=iE:=by
 constructor
 ·rintro ⟨c,hc,rfl,hy,_⟩
  rcases Xlb.1 hc with rfl | rfl | rfl
  ·simp [eA] at hy
  ·exact ⟨.inl Xuj,by simpa [eB] using hy⟩
  ·exact ⟨.inr Xxv,by simpa [eC] using hy⟩
 ·rintro ⟨rfl | rfl,rfl⟩
  ·exact ⟨eB,by simp [L3],Xuj,by simp [eB],by rw [Xiw]; simp⟩
  ·exact ⟨eC,by simp [L3],Xxv,by simp [eC],by rw [Xiw]; simp⟩
theorem Xlc {x y:ID}:Xb0 L3 x y↔(x=iF∨x=iG)∧y=iE:=by
 constructor
 ·intro h
  induction h with
  | single h1=>exact X17.1 h1
  | tail _ h1 ih =>
   have h2:=X17.1 h1
   rcases h2.1 with e | e
   ·exact absurd (ih.2.symm.trans e) ne1
   ·exact absurd (ih.2.symm.trans e) ne2
 ·intro h; exact .single (X17.2 h)
theorem Xxw:(cids L3).Nodup:=by rw [Xiw]; simp [ne1,ne2,ne3]
theorem closed_3:Closed L3:=by
 have hg:Xbs L3 iE=1:=by rw [← Xrc]; exact Xb5 Xxw (c:=eA) (by simp [L3])
 have hfree:∀ p,p=iE→∀ q,q=iE→¬ Xb0 L3 p q:=by
  rintro p rfl q rfl hk
  rcases (Xlc.1 hk).1 with e | e
  ·exact ne1 e
  ·exact ne2 e
 refine ⟨fun c hc=>?_,Xxw,fun c hc=>?_,fun c hc d hd hne hnode=>?_⟩
 ·rcases Xlb.1 hc with rfl | rfl | rfl
  ·exact X0a
  ·exact X0b
  ·exact X0c
 ·rcases Xlb.1 hc with rfl | rfl | rfl
  ·exact ⟨by simp [merge,eA],by simp [eA],by simp [eA],by simp [eA,Xce]⟩
  ·refine ⟨by simp [merge,eB],?_,?_,?_⟩
   ·rw [Xiw]; simp [eB]
   ·intro p hp q hq; exact hfree p (by simpa [eB] using hp) q (by simpa [eB] using hq)
   ·show (2:Int)=Xce L3 [iE]+1
    rw [Xce,List.foldl_cons,List.foldl_nil,hg]; rfl
  ·refine ⟨by simp [merge,eC],?_,?_,?_⟩
   ·rw [Xiw]; simp [eC]
   ·intro p hp q hq; exact hfree p (by simpa [eC] using hp) q (by simpa [eC] using hq)
   ·show (2:Int)=Xce L3 [iE]+1
    rw [Xce,List.foldl_cons,List.foldl_nil,hg]; rfl
 ·rcases Xlb.1 hc with rfl | rfl | rfl <;> rcases Xlb.1 hd with rfl | rfl | rfl
  ·exact (hne rfl).elim
  ·exact ⟨by decide,fun h=>absurd h (by decide)⟩
  ·exact absurd hnode (by decide)
  ·refine ⟨by decide,fun _=>?_⟩
   rw [Xrc,Xuj]
   exact Xlc.2 ⟨.inl rfl,rfl⟩
  ·exact (hne rfl).elim
  ·exact absurd hnode (by decide)
  ·exact absurd hnode (by decide)
  ·exact absurd hnode (by decide)
  ·exact (hne rfl).elim
theorem Xnz:Closed [eA]:=closed_3.sub (by simp [L3]) (by simp [cids]) (by simp [eA])
theorem Xxx:frontF [eA]=[iE]:=by
 have hm:∀ x,x∈frontF [eA]↔x=iE:=by
  intro x
  rw [Xck Xnz]
  show x∈[idC eA]∧_↔_
  rw [Xrc]
  simp [eA]
 refine List.perm_singleton.1 ((List.perm_ext_iff_of_nodup (Xdd _) (by simp)).2 fun x=>?_)
 rw [hm]; simp
theorem X18:frontF L3=[iF,iG]∨frontF L3=[iG,iF]:=by
 have hm:∀ x,x∈frontF L3↔x=iF∨x=iG:=by
  intro x
  rw [Xck closed_3,Xiw]
  constructor
  ·rintro ⟨h1,h2⟩
   simp only [List.mem_cons,List.not_mem_nil,or_false] at h1
   rcases h1 with rfl | h1
   ·exact absurd (by simp [eB]) (h2 eB (by simp [L3]))
   ·exact h1
  ·intro h
   refine ⟨by rcases h with rfl | rfl <;> simp,fun c hc=>?_⟩
   rcases Xlb.1 hc with rfl | rfl | rfl
   ·simp [eA]
   ·rcases h with rfl | rfl
    ·simpa [eB] using fun e=>ne1 e.symm
    ·simpa [eB] using fun e=>ne2 e.symm
   ·rcases h with rfl | rfl
    ·simpa [eC] using fun e=>ne1 e.symm
    ·simpa [eC] using fun e=>ne2 e.symm
 have hp:(frontF L3).Perm [iF,iG]:=(List.perm_ext_iff_of_nodup (Xdd _) (by simp [ne3])).2 fun x=>by rw [hm]; simp
 have hn:=Xdd L3
 match h:frontF L3,hp with
 | [x,y],hp =>
  have hx:x=iF∨x=iG:=by rw [← hm,h]; simp
  have hy:y=iF∨y=iG:=by rw [← hm,h]; simp
  rw [h] at hn
  simp at hn
  rcases hx with rfl | rfl <;> rcases hy with rfl | rfl
  ·exact (hn rfl).elim
  ·exact .inl rfl
  ·exact .inr rfl
  ·exact (hn rfl).elim
 | [],hp=>have:=hp.length_eq; simp at this
 | [x],hp=>have:=hp.length_eq; simp at this
 | x::y::z::l,hp=>have:=hp.length_eq; simp at this
theorem X22 {x:ID} (hx:x=iF∨x=iG) (z:ID):z∈ancF L3 [x]↔z=iE∨z=x:=by
 rw [(Xed L3 [x]).mem closed_3]
 unfold Xtp
 rw [Xiw]
 constructor
 ·rintro ⟨_,h | ⟨y,hy,hk⟩⟩
  ·exact .inr (by simpa using h)
  ·exact .inl (Xlc.1 hk).2
 ·rintro (rfl | rfl)
  ·exact ⟨by simp, .inr ⟨x,by simp,Xlc.2 ⟨hx,rfl⟩⟩⟩
  ·exact ⟨by rcases hx with rfl | rfl <;> simp, .inl (by simp)⟩
theorem X0d {B:List ID} (hB:∀ z,z∈B↔z=iE):partF L3 B=[eA]:=by
 unfold partF
 rw [Xan closed_3,if_pos rfl]
 have h1:decide (idC eA∈B)=true:=decide_eq_true ((hB _).2 Xrc)
 have h2:decide (idC eB∈B)=false:=decide_eq_false fun h=>ne1 (((hB _).1 h).symm.trans Xuj)
 have h3:decide (idC eC∈B)=false:=decide_eq_false fun h=>ne2 (((hB _).1 h).symm.trans Xxv)
 simp [L3,List.filter_cons,h1,h2,h3]
theorem X0e {x y:ID} (hx:x=iF∨x=iG) (hy:y=iF∨y=iG) (hxy:x≠y):lastE L3 [x] [y]=[iE]:=by
 unfold lastE
 rw [X0d fun z=>?_,Xxx]
 rw [Xr7,X22 hx,X22 hy]
 constructor
 ·rintro ⟨h1 | h1,h2 | h2⟩
  ·exact h1
  ·exact h1
  ·exact h2
  ·exact (hxy (h1.symm.trans h2)).elim
 ·intro h; exact ⟨.inl h, .inl h⟩
theorem X3g (z:ID):z∈ancF L3 [iE]↔z=iE:=by
 rw [(Xed L3 [iE]).mem closed_3]
 unfold Xtp
 rw [Xiw]
 constructor
 ·rintro ⟨_,h | ⟨y,hy,hk⟩⟩
  ·simpa using h
  ·exact (Xlc.1 hk).2
 ·rintro rfl
  exact ⟨by simp, .inl (by simp)⟩
end
section
attribute [local irreducible] JC JO JR JQ andThen inBlock OpV Gives Xae JM JS
section
attribute [local irreducible] Xat iE iF iG
def pA:Pair_:=⟨keyA,keyX,⟨0,1⟩⟩
def pC:Pair_:=⟨keyA,keyX,⟨1,1⟩⟩
theorem Xxy {s:State_} {o:Op_} {ev:Ev_} {gen:Int} (h:doOk s o ev gen=true):(stDo s o ev gen).1=stDone s o ev gen:=by unfold stDo; rw [if_pos h]
theorem do_A:(stDo st0 eA.op eA.ev eA.gen).1=⟨[],[],[pA]⟩:=by
 rw [Xxy (by decide +kernel)]
 show State_.mk [] [] (addP [] pA)=_
 have:addP [] pA=[pA]:=by decide +kernel
 rw [this]
theorem do_B:(stDo ⟨[],[],[pA]⟩ eB.op eB.ev eB.gen).1=⟨[],[],[]⟩:=by
 rw [Xxy (show doOk ⟨[],[],[pA]⟩ eB.op eB.ev eB.gen=true by decide +kernel)]
 show State_.mk [] [] (delP [pA] keyA keyX)=_
 have:delP [pA] keyA keyX=[]:=by decide +kernel
 rw [this]
theorem do_C:(stDo ⟨[],[],[pA]⟩ eC.op eC.ev eC.gen).1=⟨[],[],[pA,pC]⟩:=by
 rw [Xxy (show doOk ⟨[],[],[pA]⟩ eC.op eC.ev eC.gen=true by decide +kernel)]
 show State_.mk [] [] (addP [pA] pC)=_
 have:addP [pA] pC=[pA,pC]:=by
  unfold addP
  rw [if_pos (by decide +kernel),show addK [pA] pC=[pA,pC] by decide +kernel]
  exact Xin (Xct _) (Xdh _) (by simp only [List.pairwise_cons,List.mem_cons,List.not_mem_nil,or_false,forall_eq,false_imp_iff,implies_true,List.Pairwise.nil,and_true]; decide +kernel)
 rw [this]
theorem X19:(stMerge ⟨[],[],[pA]⟩ ⟨[],[],[]⟩ ⟨[],[],[pA,pC]⟩).1.p=[pC]:=by
 unfold stMerge
 rw [if_pos (by decide +kernel)]
 show Xea [pA] [] [pA,pC]=_
 unfold Xea
 rw [if_pos (by decide +kernel),show Xhb [pA] [] [pA,pC] _=[pC] by decide +kernel]
 exact List.perm_singleton.1 (Xct _)
theorem X2a:(stMerge ⟨[],[],[pA]⟩ ⟨[],[],[pA,pC]⟩ ⟨[],[],[]⟩).1.p=[pC]:=by
 unfold stMerge
 rw [if_pos (by decide +kernel)]
 show Xea [pA] [pA,pC] []=_
 unfold Xea
 rw [if_pos (by decide +kernel),show Xhb [pA] [pA,pC] [] _=[pC] by decide +kernel]
 exact List.perm_singleton.1 (Xct _)
theorem X0f:(Xcf L3 iE).1=eA:=by rw [← Xrc,Xdx closed_3 (by simp [L3])]
theorem X0g:(Xcf L3 iF).1=eB:=by rw [← Xuj,Xdx closed_3 (by simp [L3])]
theorem X0h:(Xcf L3 iG).1=eC:=by rw [← Xxv,Xdx closed_3 (by simp [L3])]
theorem X23:∃ s,evalF L3=(s,0)∧s.p=[pC]:=by
 refine ⟨_,Xf4 (Xan closed_3),?_⟩
 unfold evalS evalN
 rcases X18 with h | h
 ·obtain ⟨M,hM⟩:=Xpu X0f X0g X0h rfl rfl rfl (X0e (.inl rfl) (.inr rfl) ne3) ke1 ke2 ke3 4
  rw [h]
  have e:2 * L3.length+2=4+4:=rfl
  rw [e,hM]
  dsimp only
  rw [do_A,do_B,do_C]
  exact X19
 ·obtain ⟨M,hM⟩:=Xpu X0f X0h X0g rfl rfl rfl (X0e (.inr rfl) (.inl rfl) (fun e=>ne3 e.symm)) ke2 ke1 (fun e=>ke3 e.symm) 4
  rw [h]
  have e:2 * L3.length+2=4+4:=rfl
  rw [e,hM]
  dsimp only
  rw [do_A,do_B,do_C]
  exact X2a
theorem X24:partF L3 (ancF L3 [iE])=[eA]:=X0d X3g
theorem X25:(Xcf [eA] iE).1=eA:=by rw [← Xrc,Xdx Xnz (by simp)]
theorem X26:∃ s,evalF [eA]=(s,0)∧s.p=[pA]:=by
 refine ⟨_,Xf4 (Xan Xnz),?_⟩
 unfold evalS evalN
 have h:=Xpt (L:=[eA]) (M:=[]) 3 (f:=[iE]) (by simp) rfl (Xsf X25 (u:=(st0,[])) (Xxs 2))
 rw [Xxx]
 have e:2 * [eA].length+2=3+1:=rfl
 rw [e,h]
 dsimp only
 rw [do_A]
end
end
section
variable [Dr]
def JCL (P:Program) (n:Nn) (w2 w0:World) (F:Nat→Prop) (c:Code) (Q:Cont) (e:E) (Δ:List Fact):Prop :=
 ∀ (a:Act) (w:World),Fr n e a→Hold w2 (fun _=>True) Δ w→c.wp P (fun x a' w'=>∃ e' Γ',Q x e' Γ'∧Fr n e' a'∧Hold w0 F Γ' w') a w
variable {P:Program} {n:Nn} {w0 w2:World} {F:Nat→Prop} {Q:Cont} {e:E} {Γ Δ:List Fact}
theorem JCL.back {c:Code} (hb:Hold w0 F Γ w2) (h:JC P n w0 F c Q e Γ):JCL P n w2 w0 F c Q e Δ :=
 fun a w fr ho=>h a w fr (hb.of_below ho.below)
theorem JCL.seq {x y:Code} (hb:Hold w0 F Γ w2) (h:JC P n w2 (fun _=>True) x (andThen (fun e' Δ'=>JCL P n w2 w0 F y Q e' Δ') (fun ex e' _=>Q ex e' Γ)) e Δ):JCL P n w2 w0 F (.seq x y) Q e Δ:=by
 intro a w fr ho
 refine wp_seq (wp_mono (h a w fr ho) ?_)
 rintro x a' w' ⟨e',Δ',hq,fr',ho'⟩
 cases x <;> first | exact hq a' w' fr' ho' | exact ⟨e',Γ,hq,fr',hb.of_below ho'.below⟩
end
section
attribute [local irreducible] JC JO JR JQ andThen inBlock OpV Gives Xae JM JS
section
attribute [local irreducible] Xat iE iF iG
theorem X2b (a d:Option Addr) (k m:Nat) (L:List Commit) (A:List ID) (h:(sl a k L).holds F w) (h':(sl d m A).holds F w) (hl:L.length≤11) (hA:A.length≤1000) (hf:∀ x∈L,fine x) (hc:Closed L) (s:State_) (er:Int) (hs:evalF (partF L (ancF L A))=(s,er)) :
  Gives prog 37 [.slice a L.length k, .slice d A.length m] w F (fun y:Sa=>.tuple ⟨[.agg ⟨stC s y⟩, .int .i64 er]⟩) (fun y=>stF s y):=by
 have hev:=fun (w:World) (F:Nat→Prop) (a:Option Addr) (k:Nat) (h:(sl a k (partF L (ancF L A))).holds F w)=>Xhp w F a k (partF L (ancF L A)) h (Nat.le_trans (Xpr (L:=L) (A:=ancF L A)).length_le hl) (fun x hx=>hf x ((Xpr (L:=L) (A:=ancF L A)).mem hx))
 rw [hs] at hev
 dsimp only at hev
 have hpt:=fun (w:World) (F:Nat→Prop) (a d:Option Addr) (k m:Nat) (h:(sl a k L).holds F w) (h':(sl d m (ancF L A)).holds F w)=>X1l w F a d k m L (ancF L A) h h' (by omega) hf hc
 have e:partF L (ancF L A)=L.filter fun c=>decide (idC c∈ancF L A):=by unfold partF; rw [Xan hc,if_pos rfl]
 rw [← e] at hpt
 have han:=fun (w:World) (F:Nat→Prop) (a d:Option Addr) (k m:Nat) (h:(sl a k L).holds F w) (h':(sl d m A).holds F w)=>Xwh w F a d k m L A (ancF L A) h h' (by omega) hA hf (Xed L A)
 clear hs e
 generalize partF L (ancF L A)=P at hev hpt
 generalize ancF L A=N at hpt han
 refine Xaa func37 rfl ntmps37 rfl rfl [.st (sl a k L), .st (sl d m A)] (.start2 h h') ?_
 repeat (first|refine Wa ?_|refine Wb ?_|refine Wc ?_|refine Wd ?_|refine We rfl ?_|refine Wf (by first|exact Va|exact Vb|exact Vc|exact Vd|exact Ve|exact Vf|exact Vg|exact Vh|exact Vi|exact Vj|exact Vk (by omega)|exact Vl|exact Vm|exact Vn|exact Vo|exact Vp|exact Vq|exact Vr|exact Vs (by omega)|exact Vt (by omega)|exact Vu (by omega)|exact Vv (by omega)|exact Vw|exact Vx|exact Vy|exact Vz|exact VA|exact VB|exact VC|exact VD|exact VE|exact VF) rfl ?_|(refine Wg rfl ?_; intro _)|(refine Wh rfl ?_; intro _)|refine Wi ?_|refine Wj ?_|refine Wk ?_|refine Wl ?_|refine Wm ?_|refine Wn ?_|refine Wo ?_|refine Wp ?_|refine Wq rfl ?_|refine Wr ?_|refine Ws ?_|refine Wt ?_|refine Wu ?_|refine Wv rfl rfl ?_|(refine Ww rfl ⟨rfl,by decide,by decide,by decide⟩ ?_; intro _))
 refine JR.callV rfl (fun w1 hw=>Xef w1 _ a k L true hw.get (by omega) hf (by simp [hc])) ?_
 repeat (first|refine Wa ?_|refine Wb ?_|refine Wc ?_|refine Wd ?_|refine We rfl ?_|refine Wf (by first|exact Va|exact Vb|exact Vc|exact Vd|exact Ve|exact Vf|exact Vg|exact Vh|exact Vi|exact Vj|exact Vk (by omega)|exact Vl|exact Vm|exact Vn|exact Vo|exact Vp|exact Vq|exact Vr|exact Vs (by omega)|exact Vt (by omega)|exact Vu (by omega)|exact Vv (by omega)|exact Vw|exact Vx|exact Vy|exact Vz|exact VA|exact VB|exact VC|exact VD|exact VE|exact VF) rfl ?_|(refine Wg rfl ?_; intro _)|(refine Wh rfl ?_; intro _)|refine Wi ?_|refine Wj ?_|refine Wk ?_|refine Wl ?_|refine Wm ?_|refine Wn ?_|refine Wo ?_|refine Wp ?_|refine Wq rfl ?_|refine Wr ?_|refine Ws ?_|refine Wt ?_|refine Wu ?_|refine Wv rfl rfl ?_|(refine Ww rfl ⟨rfl,by decide,by decide,by decide⟩ ?_; intro _))
 refine JR.callSl rfl (fun w1 hw=>han w1 _ a d k m hw.get hw.get) ?_
 intro a1 k1
 repeat (first|refine Wa ?_|refine Wb ?_|refine Wc ?_|refine Wd ?_|refine We rfl ?_|refine Wf (by first|exact Va|exact Vb|exact Vc|exact Vd|exact Ve|exact Vf|exact Vg|exact Vh|exact Vi|exact Vj|exact Vk (by omega)|exact Vl|exact Vm|exact Vn|exact Vo|exact Vp|exact Vq|exact Vr|exact Vs (by omega)|exact Vt (by omega)|exact Vu (by omega)|exact Vv (by omega)|exact Vw|exact Vx|exact Vy|exact Vz|exact VA|exact VB|exact VC|exact VD|exact VE|exact VF) rfl ?_|(refine Wg rfl ?_; intro _)|(refine Wh rfl ?_; intro _)|refine Wi ?_|refine Wj ?_|refine Wk ?_|refine Wl ?_|refine Wm ?_|refine Wn ?_|refine Wo ?_|refine Wp ?_|refine Wq rfl ?_|refine Wr ?_|refine Ws ?_|refine Wt ?_|refine Wu ?_|refine Wv rfl rfl ?_|(refine Ww rfl ⟨rfl,by decide,by decide,by decide⟩ ?_; intro _))
 refine JR.callSl rfl (fun w1 hw=>hpt w1 _ a a1 k k1 hw.get hw.get) ?_
 intro a2 k2
 repeat (first|refine Wa ?_|refine Wb ?_|refine Wc ?_|refine Wd ?_|refine We rfl ?_|refine Wf (by first|exact Va|exact Vb|exact Vc|exact Vd|exact Ve|exact Vf|exact Vg|exact Vh|exact Vi|exact Vj|exact Vk (by omega)|exact Vl|exact Vm|exact Vn|exact Vo|exact Vp|exact Vq|exact Vr|exact Vs (by omega)|exact Vt (by omega)|exact Vu (by omega)|exact Vv (by omega)|exact Vw|exact Vx|exact Vy|exact Vz|exact VA|exact VB|exact VC|exact VD|exact VE|exact VF) rfl ?_|(refine Wg rfl ?_; intro _)|(refine Wh rfl ?_; intro _)|refine Wi ?_|refine Wj ?_|refine Wk ?_|refine Wl ?_|refine Wm ?_|refine Wn ?_|refine Wo ?_|refine Wp ?_|refine Wq rfl ?_|refine Wr ?_|refine Ws ?_|refine Wt ?_|refine Wu ?_|refine Wv rfl rfl ?_|(refine Ww rfl ⟨rfl,by decide,by decide,by decide⟩ ?_; intro _))
 refine JR.call (v:=fun y:Sa=>.tuple ⟨[.agg ⟨stC s y⟩, .int .i64 er]⟩) rfl (fun w1 hw=>hev w1 _ a2 k2 hw.get) ?_
 rintro ⟨⟨ac,kc⟩,⟨ar,kr⟩,⟨ap,kp⟩⟩
 dsimp only [stC,stF,List.cons_append,List.nil_append]
 repeat (first|refine Wa ?_|refine Wb ?_|refine Wc ?_|refine Wd ?_|refine We rfl ?_|refine Wf (by first|exact Va|exact Vb|exact Vc|exact Vd|exact Ve|exact Vf|exact Vg|exact Vh|exact Vi|exact Vj|exact Vk (by omega)|exact Vl|exact Vm|exact Vn|exact Vo|exact Vp|exact Vq|exact Vr|exact Vs (by omega)|exact Vt (by omega)|exact Vu (by omega)|exact Vv (by omega)|exact Vw|exact Vx|exact Vy|exact Vz|exact VA|exact VB|exact VC|exact VD|exact VE|exact VF) rfl ?_|(refine Wg rfl ?_; intro _)|(refine Wh rfl ?_; intro _)|refine Wi ?_|refine Wj ?_|refine Wk ?_|refine Wl ?_|refine Wm ?_|refine Wn ?_|refine Wo ?_|refine Wp ?_|refine Wq rfl ?_|refine Wr ?_|refine Ws ?_|refine Wt ?_|refine Wu ?_|refine Wv rfl rfl ?_|(refine Ww rfl ⟨rfl,by decide,by decide,by decide⟩ ?_; intro _))
 exact Xab ((ac,kc),(ar,kr),(ap,kp)) rfl
theorem X0i:∀ x∈L3,fine x:=by
 intro c hc
 rcases Xlb.1 hc with rfl | rfl | rfl <;> exact ⟨⟨by decide,by decide⟩,by simp [eA,eB,eC]⟩
theorem X27 {w0 w:World} {F:Nat→Prop} {Γ:List Fact} {bl bp bq:Nat} (h:Hold w0 F (.own bl 31 [.int .i64 l0.ev.node, .int .i64 l0.ev.seq, .int .i64 l0.gen, .slice none l0.parents.length 0, .int .i64 2, .string keyA, .string keyX, .int .i64 0, .int .i64 0, .int .i64 2, .int .i64 2, .slice (some ⟨bp,0,none⟩) 1 1, .int .i64 3, .string keyA, .string keyX, .int .i64 0, .int .i64 1, .int .i64 1, .int .i64 2, .slice (some ⟨bq,0,none⟩) 1 1, .int .i64 2, .string keyA, .string keyX, .int .i64 0]::Γ) w) (hp:Fact.st (sl (some ⟨bp,0,none⟩) 1 [iE])∈Γ) (hq:Fact.st (sl (some ⟨bq,0,none⟩) 1 [iE])∈Γ) :
  Hold w0 F (.st (sl (some ⟨bl,0,none⟩) 3 L3)::.st (sl (α:=ID) none 0 [])::Γ) w:=by
 have h1:=h.add (A:=sl (α:=ID) none 0 []) Xau
 have h2:Hold _ _ (.own bl 31 (Xc7 eA none 0++Xc7 eB (some ⟨bp,0,none⟩) 1++Xc7 eC (some ⟨bq,0,none⟩) 1)::.st (sl (α:=ID) none 0 [])::Γ) w:=h1.perm (List.Perm.swap _ _ _)
 exact Hold.pubRow [(eA,((none,0):Cell.Ix Commit)),(eB,((some ⟨bp,0,none⟩,1):Cell.Ix Commit)),(eC,((some ⟨bq,0,none⟩,1):Cell.Ix Commit))] h2 (by simp [flat]; rfl) (by simp [Cell.facts,eA,eB,eC,hp,hq]) (by simp)
theorem Xuk:GivesV prog 11 [] w F (.bool true):=by
 have hh:=fun (w:World) (F:Nat→Prop)=>Xgv w F eA none 0 Xau ⟨by decide,by decide⟩
 simp only [Xxu] at hh
 obtain ⟨s3,e3,g3⟩:=X23
 obtain ⟨s1,e1,g1⟩:=X26
 rw [← X24] at e1
 refine Xaa func11 rfl ntmps11 rfl rfl [] (.start w F) ?_
 repeat (first|refine Wa ?_|refine Wb ?_|refine Wc ?_|refine Wd ?_|refine We rfl ?_|refine Wf (by first|exact Va|exact Vb|exact Vc|exact Vd|exact Ve|exact Vf|exact Vg|exact Vh|exact Vi|exact Vj|exact Vk (by omega)|exact Vl|exact Vm|exact Vn|exact Vo|exact Vp|exact Vq|exact Vr|exact Vs (by omega)|exact Vt (by omega)|exact Vu (by omega)|exact Vv (by omega)|exact Vw|exact Vx|exact Vy|exact Vz|exact VA|exact VB|exact VC|exact VD|exact VE|exact VF) rfl ?_|(refine Wg rfl ?_; intro _)|(refine Wh rfl ?_; intro _)|refine Wi ?_|refine Wj ?_|refine Wk ?_|refine Wl ?_|refine Wm ?_|refine Wn ?_|refine Wo ?_|refine Wp ?_|refine Wq rfl ?_|refine Wr ?_|refine Ws ?_|refine Wt ?_|refine Wu ?_|refine Wv rfl rfl ?_|(refine Ww rfl ⟨rfl,by decide,by decide,by decide⟩ ?_; intro _))
 refine JR.callV rfl (fun w1 hw=>Xy1 w1 _) ?_
 repeat (first|refine Wa ?_|refine Wb ?_|refine Wc ?_|refine Wd ?_|refine We rfl ?_|refine Wf (by first|exact Va|exact Vb|exact Vc|exact Vd|exact Ve|exact Vf|exact Vg|exact Vh|exact Vi|exact Vj|exact Vk (by omega)|exact Vl|exact Vm|exact Vn|exact Vo|exact Vp|exact Vq|exact Vr|exact Vs (by omega)|exact Vt (by omega)|exact Vu (by omega)|exact Vv (by omega)|exact Vw|exact Vx|exact Vy|exact Vz|exact VA|exact VB|exact VC|exact VD|exact VE|exact VF) rfl ?_|(refine Wg rfl ?_; intro _)|(refine Wh rfl ?_; intro _)|refine Wi ?_|refine Wj ?_|refine Wk ?_|refine Wl ?_|refine Wm ?_|refine Wn ?_|refine Wo ?_|refine Wp ?_|refine Wq rfl ?_|refine Wr ?_|refine Ws ?_|refine Wt ?_|refine Wu ?_|refine Wv rfl rfl ?_|(refine Ww rfl ⟨rfl,by decide,by decide,by decide⟩ ?_; intro _))
 rename_i b1
 refine Wf (OpV.build [.int .i64 2, .string keyA, .string keyX, .int .i64 0] (by kernel_rfl)) rfl ?_
 repeat (first|refine Wa ?_|refine Wb ?_|refine Wc ?_|refine Wd ?_|refine We rfl ?_|refine Wf (by first|exact Va|exact Vb|exact Vc|exact Vd|exact Ve|exact Vf|exact Vg|exact Vh|exact Vi|exact Vj|exact Vk (by omega)|exact Vl|exact Vm|exact Vn|exact Vo|exact Vp|exact Vq|exact Vr|exact Vs (by omega)|exact Vt (by omega)|exact Vu (by omega)|exact Vv (by omega)|exact Vw|exact Vx|exact Vy|exact Vz|exact VA|exact VB|exact VC|exact VD|exact VE|exact VF) rfl ?_|(refine Wg rfl ?_; intro _)|(refine Wh rfl ?_; intro _)|refine Wi ?_|refine Wj ?_|refine Wk ?_|refine Wl ?_|refine Wm ?_|refine Wn ?_|refine Wo ?_|refine Wp ?_|refine Wq rfl ?_|refine Wr ?_|refine Ws ?_|refine Wt ?_|refine Wu ?_|refine Wv rfl rfl ?_|(refine Ww rfl ⟨rfl,by decide,by decide,by decide⟩ ?_; intro _))
 refine JR.callV rfl (fun w1 hw=>hh w1 _) ?_
 repeat (first|refine Wa ?_|refine Wb ?_|refine Wc ?_|refine Wd ?_|refine We rfl ?_|refine Wf (by first|exact Va|exact Vb|exact Vc|exact Vd|exact Ve|exact Vf|exact Vg|exact Vh|exact Vi|exact Vj|exact Vk (by omega)|exact Vl|exact Vm|exact Vn|exact Vo|exact Vp|exact Vq|exact Vr|exact Vs (by omega)|exact Vt (by omega)|exact Vu (by omega)|exact Vv (by omega)|exact Vw|exact Vx|exact Vy|exact Vz|exact VA|exact VB|exact VC|exact VD|exact VE|exact VF) rfl ?_|(refine Wg rfl ?_; intro _)|(refine Wh rfl ?_; intro _)|refine Wi ?_|refine Wj ?_|refine Wk ?_|refine Wl ?_|refine Wm ?_|refine Wn ?_|refine Wo ?_|refine Wp ?_|refine Wq rfl ?_|refine Wr ?_|refine Ws ?_|refine Wt ?_|refine Wu ?_|refine Wv rfl rfl ?_|(refine Ww rfl ⟨rfl,by decide,by decide,by decide⟩ ?_; intro _))
 rename_i b2
 refine Wf (OpV.build [.int .i64 0, .int .i64 2] (by kernel_rfl)) rfl ?_
 repeat (first|refine Wa ?_|refine Wb ?_|refine Wc ?_|refine Wd ?_|refine We rfl ?_|refine Wf (by first|exact Va|exact Vb|exact Vc|exact Vd|exact Ve|exact Vf|exact Vg|exact Vh|exact Vi|exact Vj|exact Vk (by omega)|exact Vl|exact Vm|exact Vn|exact Vo|exact Vp|exact Vq|exact Vr|exact Vs (by omega)|exact Vt (by omega)|exact Vu (by omega)|exact Vv (by omega)|exact Vw|exact Vx|exact Vy|exact Vz|exact VA|exact VB|exact VC|exact VD|exact VE|exact VF) rfl ?_|(refine Wg rfl ?_; intro _)|(refine Wh rfl ?_; intro _)|refine Wi ?_|refine Wj ?_|refine Wk ?_|refine Wl ?_|refine Wm ?_|refine Wn ?_|refine Wo ?_|refine Wp ?_|refine Wq rfl ?_|refine Wr ?_|refine Ws ?_|refine Wt ?_|refine Wu ?_|refine Wv rfl rfl ?_|(refine Ww rfl ⟨rfl,by decide,by decide,by decide⟩ ?_; intro _))
 rename_i bp
 refine Wf (OpV.build [.int .i64 3, .string keyA, .string keyX, .int .i64 0] (by kernel_rfl)) rfl ?_
 repeat (first|refine Wa ?_|refine Wb ?_|refine Wc ?_|refine Wd ?_|refine We rfl ?_|refine Wf (by first|exact Va|exact Vb|exact Vc|exact Vd|exact Ve|exact Vf|exact Vg|exact Vh|exact Vi|exact Vj|exact Vk (by omega)|exact Vl|exact Vm|exact Vn|exact Vo|exact Vp|exact Vq|exact Vr|exact Vs (by omega)|exact Vt (by omega)|exact Vu (by omega)|exact Vv (by omega)|exact Vw|exact Vx|exact Vy|exact Vz|exact VA|exact VB|exact VC|exact VD|exact VE|exact VF) rfl ?_|(refine Wg rfl ?_; intro _)|(refine Wh rfl ?_; intro _)|refine Wi ?_|refine Wj ?_|refine Wk ?_|refine Wl ?_|refine Wm ?_|refine Wn ?_|refine Wo ?_|refine Wp ?_|refine Wq rfl ?_|refine Wr ?_|refine Ws ?_|refine Wt ?_|refine Wu ?_|refine Wv rfl rfl ?_|(refine Ww rfl ⟨rfl,by decide,by decide,by decide⟩ ?_; intro _))
 refine Wf (OpV.build [.int .i64 0, .int .i64 2, .int .i64 2, .slice (some ⟨bp,0,none⟩) 1 1, .int .i64 3, .string keyA, .string keyX, .int .i64 0] (by kernel_rfl)) rfl ?_
 repeat (first|refine Wa ?_|refine Wb ?_|refine Wc ?_|refine Wd ?_|refine We rfl ?_|refine Wf (by first|exact Va|exact Vb|exact Vc|exact Vd|exact Ve|exact Vf|exact Vg|exact Vh|exact Vi|exact Vj|exact Vk (by omega)|exact Vl|exact Vm|exact Vn|exact Vo|exact Vp|exact Vq|exact Vr|exact Vs (by omega)|exact Vt (by omega)|exact Vu (by omega)|exact Vv (by omega)|exact Vw|exact Vx|exact Vy|exact Vz|exact VA|exact VB|exact VC|exact VD|exact VE|exact VF) rfl ?_|(refine Wg rfl ?_; intro _)|(refine Wh rfl ?_; intro _)|refine Wi ?_|refine Wj ?_|refine Wk ?_|refine Wl ?_|refine Wm ?_|refine Wn ?_|refine Wo ?_|refine Wp ?_|refine Wq rfl ?_|refine Wr ?_|refine Ws ?_|refine Wt ?_|refine Wu ?_|refine Wv rfl rfl ?_|(refine Ww rfl ⟨rfl,by decide,by decide,by decide⟩ ?_; intro _))
 rename_i b4
 refine Wf (OpV.build [.int .i64 1, .int .i64 1] (by kernel_rfl)) rfl ?_
 repeat (first|refine Wa ?_|refine Wb ?_|refine Wc ?_|refine Wd ?_|refine We rfl ?_|refine Wf (by first|exact Va|exact Vb|exact Vc|exact Vd|exact Ve|exact Vf|exact Vg|exact Vh|exact Vi|exact Vj|exact Vk (by omega)|exact Vl|exact Vm|exact Vn|exact Vo|exact Vp|exact Vq|exact Vr|exact Vs (by omega)|exact Vt (by omega)|exact Vu (by omega)|exact Vv (by omega)|exact Vw|exact Vx|exact Vy|exact Vz|exact VA|exact VB|exact VC|exact VD|exact VE|exact VF) rfl ?_|(refine Wg rfl ?_; intro _)|(refine Wh rfl ?_; intro _)|refine Wi ?_|refine Wj ?_|refine Wk ?_|refine Wl ?_|refine Wm ?_|refine Wn ?_|refine Wo ?_|refine Wp ?_|refine Wq rfl ?_|refine Wr ?_|refine Ws ?_|refine Wt ?_|refine Wu ?_|refine Wv rfl rfl ?_|(refine Ww rfl ⟨rfl,by decide,by decide,by decide⟩ ?_; intro _))
 rename_i bq
 refine Wf (OpV.build [.int .i64 1, .int .i64 1, .int .i64 2, .slice (some ⟨bq,0,none⟩) 1 1, .int .i64 2, .string keyA, .string keyX, .int .i64 0] (by kernel_rfl)) rfl ?_
 repeat (first|refine Wa ?_|refine Wb ?_|refine Wc ?_|refine Wd ?_|refine We rfl ?_|refine Wf (by first|exact Va|exact Vb|exact Vc|exact Vd|exact Ve|exact Vf|exact Vg|exact Vh|exact Vi|exact Vj|exact Vk (by omega)|exact Vl|exact Vm|exact Vn|exact Vo|exact Vp|exact Vq|exact Vr|exact Vs (by omega)|exact Vt (by omega)|exact Vu (by omega)|exact Vv (by omega)|exact Vw|exact Vx|exact Vy|exact Vz|exact VA|exact VB|exact VC|exact VD|exact VE|exact VF) rfl ?_|(refine Wg rfl ?_; intro _)|(refine Wh rfl ?_; intro _)|refine Wi ?_|refine Wj ?_|refine Wk ?_|refine Wl ?_|refine Wm ?_|refine Wn ?_|refine Wo ?_|refine Wp ?_|refine Wq rfl ?_|refine Wr ?_|refine Ws ?_|refine Wt ?_|refine Wu ?_|refine Wv rfl rfl ?_|(refine Ww rfl ⟨rfl,by decide,by decide,by decide⟩ ?_; intro _))
 rename_i b5 bl
 refine JR.pubOwn bp ?_
 refine JR.pubOwn bq ?_
 refine JR.more (Γ':=[.st (sl (some ⟨bl,0,none⟩) 3 L3), .own b5 31 [.int .i64 1, .int .i64 1, .int .i64 2, .slice (some ⟨bq,0,none⟩) 1 1, .int .i64 2, .string keyA, .string keyX, .int .i64 0], .own b4 31 [.int .i64 0, .int .i64 2, .int .i64 2, .slice (some ⟨bp,0,none⟩) 1 1, .int .i64 3, .string keyA, .string keyX, .int .i64 0], .own b2 72 (idc iE), .own b1 31 [.int .i64 l0.ev.node, .int .i64 l0.ev.seq, .int .i64 l0.gen, .slice none l0.parents.length 0, .int .i64 2, .string keyA, .string keyX, .int .i64 0], .st (sl (some ⟨bp,0,none⟩) 1 [iE]), .st (sl (some ⟨bq,0,none⟩) 1 [iE])]) (fun w1 ho=>?_) ?_
 ·have k1:=ho.add (A:=sl (some ⟨bp,0,none⟩) 1 [iE]) (Xns (ho.get (A:=ro bp 0 (idc iE))))
  have k2:=k1.add (A:=sl (some ⟨bq,0,none⟩) 1 [iE]) (Xns (k1.get (A:=ro bq 0 (idc iE))))
  have k3:Hold _ _ [.own bl 31 [.int .i64 l0.ev.node, .int .i64 l0.ev.seq, .int .i64 l0.gen, .slice none l0.parents.length 0, .int .i64 2, .string keyA, .string keyX, .int .i64 0, .int .i64 0, .int .i64 2, .int .i64 2, .slice (some ⟨bp,0,none⟩) 1 1, .int .i64 3, .string keyA, .string keyX, .int .i64 0, .int .i64 1, .int .i64 1, .int .i64 2, .slice (some ⟨bq,0,none⟩) 1 1, .int .i64 2, .string keyA, .string keyX, .int .i64 0], .own b5 31 [.int .i64 1, .int .i64 1, .int .i64 2, .slice (some ⟨bq,0,none⟩) 1 1, .int .i64 2, .string keyA, .string keyX, .int .i64 0], .own b4 31 [.int .i64 0, .int .i64 2, .int .i64 2, .slice (some ⟨bp,0,none⟩) 1 1, .int .i64 3, .string keyA, .string keyX, .int .i64 0], .own b2 72 (idc iE), .own b1 31 [.int .i64 l0.ev.node, .int .i64 l0.ev.seq, .int .i64 l0.gen, .slice none l0.parents.length 0, .int .i64 2, .string keyA, .string keyX, .int .i64 0], .st (sl (some ⟨bp,0,none⟩) 1 [iE]), .st (sl (some ⟨bq,0,none⟩) 1 [iE])] w1:=k2.ent
  exact (X27 k3 (by simp) (by simp)).ent
 refine JR.call (v:=fun y:Sa=>.tuple ⟨[.agg ⟨stC s3 y⟩, .int .i64 0]⟩) (B:=fun y=>stF s3 y) rfl (fun w1 hw=>by have:=Xhp w1 _ (some ⟨bl,0,none⟩) 3 L3 hw.get (by decide) X0i; rw [e3] at this; exact this) ?_
 rintro ⟨⟨ac,kc⟩,⟨ar,kr⟩,⟨ap,kp⟩⟩
 dsimp only [stC,stF,List.cons_append,List.nil_append]
 repeat (first|refine Wa ?_|refine Wb ?_|refine Wc ?_|refine Wd ?_|refine We rfl ?_|refine Wf (by first|exact Va|exact Vb|exact Vc|exact Vd|exact Ve|exact Vf|exact Vg|exact Vh|exact Vi|exact Vj|exact Vk (by omega)|exact Vl|exact Vm|exact Vn|exact Vo|exact Vp|exact Vq|exact Vr|exact Vs (by omega)|exact Vt (by omega)|exact Vu (by omega)|exact Vv (by omega)|exact Vw|exact Vx|exact Vy|exact Vz|exact VA|exact VB|exact VC|exact VD|exact VE|exact VF) rfl ?_|(refine Wg rfl ?_; intro _)|(refine Wh rfl ?_; intro _)|refine Wi ?_|refine Wj ?_|refine Wk ?_|refine Wl ?_|refine Wm ?_|refine Wn ?_|refine Wo ?_|refine Wp ?_|refine Wq rfl ?_|refine Wr ?_|refine Ws ?_|refine Wt ?_|refine Wu ?_|refine Wv rfl rfl ?_|(refine Ww rfl ⟨rfl,by decide,by decide,by decide⟩ ?_; intro _))
 rename_i b6 bm bs
 refine JR.pubOwn bs ?_
 refine JR.more (Γ':=[.st (sl (some ⟨bm,0,none⟩) 3 L3), .st (sl (some ⟨bs,0,none⟩) 1 [iE]), .own b6 38 [.slice ac s3.c.length kc, .slice ar s3.r.length kr, .slice ap s3.p.length kp], .st (sl ap kp s3.p), .own b5 31 [.int .i64 1, .int .i64 1, .int .i64 2, .slice (some ⟨bq,0,none⟩) 1 1, .int .i64 2, .string keyA, .string keyX, .int .i64 0], .own b4 31 [.int .i64 0, .int .i64 2, .int .i64 2, .slice (some ⟨bp,0,none⟩) 1 1, .int .i64 3, .string keyA, .string keyX, .int .i64 0], .own b2 72 (idc iE), .own b1 31 [.int .i64 l0.ev.node, .int .i64 l0.ev.seq, .int .i64 l0.gen, .slice none l0.parents.length 0, .int .i64 2, .string keyA, .string keyX, .int .i64 0], .st (sl (some ⟨bp,0,none⟩) 1 [iE]), .st (sl (some ⟨bq,0,none⟩) 1 [iE])]) (fun w1 ho=>?_) ?_
 ·have k1:=ho.add (A:=sl (some ⟨bs,0,none⟩) 1 [iE]) (Xns (ho.get (A:=ro bs 0 (idc iE))))
  have k3:Hold _ _ [.own bm 31 [.int .i64 l0.ev.node, .int .i64 l0.ev.seq, .int .i64 l0.gen, .slice none l0.parents.length 0, .int .i64 2, .string keyA, .string keyX, .int .i64 0, .int .i64 0, .int .i64 2, .int .i64 2, .slice (some ⟨bp,0,none⟩) 1 1, .int .i64 3, .string keyA, .string keyX, .int .i64 0, .int .i64 1, .int .i64 1, .int .i64 2, .slice (some ⟨bq,0,none⟩) 1 1, .int .i64 2, .string keyA, .string keyX, .int .i64 0], .st (sl (some ⟨bs,0,none⟩) 1 [iE]), .own b6 38 [.slice ac s3.c.length kc, .slice ar s3.r.length kr, .slice ap s3.p.length kp], .st (sl ap kp s3.p), .own b5 31 [.int .i64 1, .int .i64 1, .int .i64 2, .slice (some ⟨bq,0,none⟩) 1 1, .int .i64 2, .string keyA, .string keyX, .int .i64 0], .own b4 31 [.int .i64 0, .int .i64 2, .int .i64 2, .slice (some ⟨bp,0,none⟩) 1 1, .int .i64 3, .string keyA, .string keyX, .int .i64 0], .own b2 72 (idc iE), .own b1 31 [.int .i64 l0.ev.node, .int .i64 l0.ev.seq, .int .i64 l0.gen, .slice none l0.parents.length 0, .int .i64 2, .string keyA, .string keyX, .int .i64 0], .st (sl (some ⟨bp,0,none⟩) 1 [iE]), .st (sl (some ⟨bq,0,none⟩) 1 [iE])] w1:=k1.ent
  exact (X27 k3 (by simp) (by simp)).ent
 refine JR.call (v:=fun y:Sa=>.tuple ⟨[.agg ⟨stC s1 y⟩, .int .i64 0]⟩) (B:=fun y=>stF s1 y) rfl (fun w1 hw=>X2b w1 _ (some ⟨bm,0,none⟩) (some ⟨bs,0,none⟩) 3 1 L3 [iE] hw.get hw.get (by decide) (by decide) X0i closed_3 s1 0 e1) ?_
 rintro ⟨⟨ac2,kc2⟩,⟨ar2,kr2⟩,⟨ap2,kp2⟩⟩
 dsimp only [stC,stF,List.cons_append,List.nil_append]
 rw [g3,g1]
 repeat (first|refine Wa ?_|refine Wb ?_|refine Wc ?_|refine Wd ?_|refine We rfl ?_|refine Wf (by first|exact Va|exact Vb|exact Vc|exact Vd|exact Ve|exact Vf|exact Vg|exact Vh|exact Vi|exact Vj|exact Vk (by omega)|exact Vl|exact Vm|exact Vn|exact Vo|exact Vp|exact Vq|exact Vr|exact Vs (by omega)|exact Vt (by omega)|exact Vu (by omega)|exact Vv (by omega)|exact Vw|exact Vx|exact Vy|exact Vz|exact VA|exact VB|exact VC|exact VD|exact VE|exact VF) rfl ?_|(refine Wg rfl ?_; intro _)|(refine Wh rfl ?_; intro _)|refine Wi ?_|refine Wj ?_|refine Wk ?_|refine Wl ?_|refine Wm ?_|refine Wn ?_|refine Wo ?_|refine Wp ?_|refine Wq rfl ?_|refine Wr ?_|refine Ws ?_|refine Wt ?_|refine Wu ?_|refine Wv rfl rfl ?_|(refine Ww rfl ⟨rfl,by decide,by decide,by decide⟩ ?_; intro _))
 rename_i b8
 refine Xd7 (L:=[pC]) (.slice ap [pC].length kp) 0 (by decide) ?_
 intro b9 o9
 refine Xd7 (L:=[pA]) (.slice ap2 [pA].length kp2) 0 (by decide) ?_
 intro b10 o10
 refine Xbe mixed (by kernel_rfl) ?_
 repeat (first|refine Wy rfl (by first|exact Va|exact Vb|exact Vc|exact Vd|exact Ve|exact Vf|exact Vg|exact Vh|exact Vi|exact Vj|exact Vk (by omega)|exact Vl|exact Vm|exact Vn|exact Vo|exact Vp|exact Vq|exact Vr|exact Vs (by omega)|exact Vt (by omega)|exact Vu (by omega)|exact Vv (by omega)|exact Vw|exact Vx|exact Vy|exact Vz|exact VA|exact VB|exact VC|exact VD|exact VE|exact VF) rfl ?_|refine Wz rfl rfl ?_|refine WA rfl rfl ?_|refine WB ?_)
 repeat (first|refine Wa ?_|refine Wb ?_|refine Wc ?_|refine Wd ?_|refine We rfl ?_|refine Wf (by first|exact Va|exact Vb|exact Vc|exact Vd|exact Ve|exact Vf|exact Vg|exact Vh|exact Vi|exact Vj|exact Vk (by omega)|exact Vl|exact Vm|exact Vn|exact Vo|exact Vp|exact Vq|exact Vr|exact Vs (by omega)|exact Vt (by omega)|exact Vu (by omega)|exact Vv (by omega)|exact Vw|exact Vx|exact Vy|exact Vz|exact VA|exact VB|exact VC|exact VD|exact VE|exact VF) rfl ?_|(refine Wg rfl ?_; intro _)|(refine Wh rfl ?_; intro _)|refine Wi ?_|refine Wj ?_|refine Wk ?_|refine Wl ?_|refine Wm ?_|refine Wn ?_|refine Wo ?_|refine Wp ?_|refine Wq rfl ?_|refine Wr ?_|refine Ws ?_|refine Wt ?_|refine Wu ?_|refine Wv rfl rfl ?_|(refine Ww rfl ⟨rfl,by decide,by decide,by decide⟩ ?_; intro _)|refine Wx rfl rfl ?_)
 refine Xab () ?_
 simp [Xaf,pA,pC,l0]
end
end
section
variable {P:Program} {n:Nn} {w0:World} {F:Nat→Prop} {ops:List Oper} {Ob:Obl} {fuel i d:Nat} {done done':List Bool} {t:TypeId} {pos:String} {aft:Array Edge} {g:Option (Nat × Bool)} {Q:Cont} {e:E} {Γ:List Fact}
theorem JP.three [Dr] {o o' o2:Oper} (i j k:Nat) (hr:Region.ready .any ⟨ops⟩ ⟨done⟩=[i,j,k]) (hi:ops[i]? = some o) (hj:ops[j]? = some o') (hk:ops[k]? = some o2) (hg:Xbj ops e o.guard=some true) (hg':Xbj ops e o'.guard=some true) (hg2:Xbj ops e o2.guard=some true)
  (h:JR P n w0 F ⟨[o]⟩ 0 o [] (fun x e' Γ'=>x = .normal∧Obs Ob i Γ'∧JP P n w0 F ops Ob fuel (done.set i true) Q e' Γ') e Γ)
  (h':JR P n w0 F ⟨[o']⟩ 0 o' [] (fun x e' Γ'=>x = .normal∧Obs Ob j Γ'∧JP P n w0 F ops Ob fuel (done.set j true) Q e' Γ') e Γ)
  (h2:JR P n w0 F ⟨[o2]⟩ 0 o2 [] (fun x e' Γ'=>x = .normal∧Obs Ob k Γ'∧JP P n w0 F ops Ob fuel (done.set k true) Q e' Γ') e Γ):JP P n w0 F ops Ob (fuel+1) done Q e Γ:=by
 intro a w fr ho
 refine ⟨fun h0=>?_,fun m hm=>?_⟩
 ·rw [h0] at hr; cases hr
 ·rw [hr] at hm
  simp only [List.mem_cons,List.not_mem_nil,or_false] at hm
  rcases hm with rfl | rfl | rfl
  ·exact opP m hi hg (h.mono0 fun _ _ _ h=>.inl h) a w fr ho
  ·exact opP m hj hg' (h'.mono0 fun _ _ _ h=>.inl h) a w fr ho
  ·exact opP m hk hg2 (h2.mono0 fun _ _ _ h=>.inl h) a w fr ho
end
end Ab
end Go.Proofs.YtllddbbldmoibaaGreat
