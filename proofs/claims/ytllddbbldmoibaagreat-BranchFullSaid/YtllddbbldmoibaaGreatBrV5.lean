/- Lemmas for the walks, part 5 of 7: PairB, PairC, PairD, EsA, EsB, EsC, EsD, EvA, RefA, RefB, RefC, RefD, RefE, RefF, RefG, RefH, RefI, RefJ, RefK, RefL, RefM, RfA, Mat, RfB, RfC, RfD, RfE, RfF, RfG, LawD, EvB, Sl3, FrA, FrB, EvC, EvD, Quad, Get, GetW, Rdr, Bytes, Dec, LogW, LogP, Scope, LogR, Dec2, Dec3, Def. -/
import Derived.Test.YtllddbbldmoibaaGreatBrV4
import Derived.Test.YtllddbbldmoibaaGreatBrV2
import Derived.Test.YtllddbbldmoibaaGreatBrV3
import Derived.Laws.BytesArg
import Derived.ScopeJumps
import Derived.WideLaws
namespace Go.Proofs.YtllddbbldmoibaaGreat
namespace Ab
open Go Go.RowKit Tryz
set_option linter.unusedVariables false
set_option linter.unusedSimpArgs false
set_option linter.unusedSectionVars false
set_option synthInstance.maxSize 4000
set_option synthInstance.maxHeartbeats 400000
set_option maxHeartbeats 16000000
variable (w:World) (F:Nat→Prop)
section
attribute [local irreducible] JC JO JR JQ andThen inBlock OpV Gives Xah JM JS
instance:MKey prog 77 Xbx:=MKey.pair iI ⟨by kernel_rfl,by kernel_rfl⟩ (fun _ _=>iI)
theorem Xnd (a:Option Addr) (k:Nat) (L:List Pair_) (h:(sl a k L).holds F w) (hn:L.Nodup) :
  Gives prog 114 [.slice a L.length k] w F (fun b:Nat=>.map (some b)) (fun b=>[.omap b (ents Xbx (cntM (Xba L))) (cntM (Xba L)).length]):=by
 have hL:L.length < 9223372036854775807:=by have:=h.2.2.1; simp only [lim] at this; omega
 refine Xaa func114 rfl ntmps114 rfl rfl [.st (sl a k L)] (.start1 h) ?_
 refine wz10 ?_
 refine JR.makeMap Xbx rfl ?_
 intro b
 refine wz4 ?_
 refine Xao (fun (i:Nat)=>[(3, .map (some b)),(7, .slice a L.length k),(8, .int .i64 (L.length:Int)),(9, .int .i64 (i:Int))])
  (fun i=>[.omap b (ents Xbx (cntM (Xba (L.take i)))) (cntM (Xba (L.take i))).length, .st (sl a k L)]) (fun i=>i≤L.length) (fun i=>L.length - i) 0 (Nat.zero_le _) (by simp only [List.take_zero,Xba,cntM,List.map_nil]; exact iI) ?_
 rintro i hi
 refine wz11 ?_
 refine JC.test (fun hlt=>?_) (fun hge=>?_)
 ·have hlt':i < L.length:=by omega
  have hnx:Xba (L.take (i+1))=Xba (L.take i)++[(L[i],1)]:=by rw [List.take_succ_eq_append_getElem hlt',X0y]
  have hni:L[i]∉(Xba (L.take i)).map (·.1):=by
   rw [Xgx]
   intro hm
   obtain ⟨j,hj,e⟩:=List.getElem_of_mem hm
   rw [List.length_take] at hj
   rw [List.getElem_take] at e
   exact List.pairwise_iff_getElem.1 hn j i (by omega) hlt' (by omega) e
  have hnd:((Xba (L.take i)).map (·.1)).Nodup:=by rw [Xgx]; exact hn.sublist (List.take_sublist _ _)
  obtain ⟨c,hc⟩:∃ c,c=L[i]:=⟨_,rfl⟩
  rw [← hc] at hnx hni
  refine wz14 ?_
  refine Xf1 rfl hlt' ?_
  intro b3 o3
  rw [← hc]
  obtain ⟨M,hM⟩:∃ M,M=Xba (L.take i):=⟨_,rfl⟩
  rw [← hM] at hnx hni hnd ⊢
  (repeat (refine wE ?_; intro _)); refine wA ?_
  rename_i bc
  have e9:Xe4 (Xch M c) (Xih M c) (IntKind.i64.wrap (Xfz M c+1))=Xba (L.take (i+1)):=by rw [X30 hni,hnx]; exact X7b hni 1
  refine JC.drawP mixed ?_
  refine Xab 0 ?_
  refine JP.tv 1 [.own bc 77 (Xde c)] ?_
  refine JP.both 2 4 (by kernel_rfl) rfl rfl rfl rfl (Wf (Xa7 (M:=cntM M) (v:=.int .i64 (Xfz M c)) c (by rw [Xeu]; exact hnd) (Xej _ _)) rfl (Wd (nO ?_))) (Xdr c rfl hnd (Wd (nO ?_)))
  ·refine JP.pure 3 rfl (by kernel_rfl) rfl (fun _=>Xcs) rfl rfl ?_
   refine Xai 4 rfl rfl (Xdr c rfl hnd (Wd (nO ?_)))
   refine Xab 5 ?_
   refine Xai 6 rfl rfl (Xcq (M:=Xch M c) (Xgw M c) (Wd (nO ?_)))
   refine JP.nil (by kernel_rfl) ?_
   rw [e9]
   refine wz2 ?_
   exact ⟨i+1,by omega,by omega,iI⟩
  ·refine Xab 5 ?_
   refine Xai 2 rfl rfl (Wf (Xa7 (M:=cntM (Xch M c)) (v:=.int .i64 (Xfz M c)) c (by rw [Xeu]; exact Xii hnd c) (by rw [Xej,Xjm])) rfl (Wd (nO ?_)))
   refine JP.pure 3 rfl (by kernel_rfl) rfl (fun _=>Xcs) rfl rfl ?_
   refine Xai 6 rfl rfl (Xcq (M:=Xch M c) (Xgw M c) (Wd (nO ?_)))
   refine JP.nil (by kernel_rfl) ?_
   rw [e9]
   refine wz2 ?_
   exact ⟨i+1,by omega,by omega,iI⟩
 ·obtain rfl:i=L.length:=by omega
  rw [List.take_length]
  refine wz3 ?_
  exact Xac b rfl
theorem Xp1 {w0 w:World} {F:Nat→Prop} {Γ:List Fact} {a:Option Addr} {c el:Nat} {L:List Pair_} (ho:Hold w0 F (.res (buf a c el L)::Γ) w) :
  Calls prog 178 ⟨[.slice a L.length c, .func (.func 179) ⟨[]⟩ ⟨[]⟩]⟩ w fun x w'=>∃ y:Unit,x = .returned (.tuple ⟨[]⟩)∧Hold w0 F (.res (buf a c el (Xht L))::Γ) w':=by
 by_cases hL:L=[]
 ·subst hL
  exact Calls.mono (Go.Proofs.AnyF.slices_SortFunc_none X8u a c _ w) fun x w' ⟨hx,hw⟩=>⟨(),hx,by rw [hw]; simpa [Xht] using ho⟩
 obtain ⟨b,rfl⟩:=Xj1 (ho.sat (.res (buf a c el L)) (by simp)) hL
 obtain ⟨junk,h1,h2,h3,h4,h5⟩:=ho.openC
 have:=@X69 _ Pair_ ⟨⟨.empty, .empty,⟨0,0⟩⟩⟩ prog _ X8u 4 (by decide) Tryz.isAgg77 Tryz.sizeOf77 Xde (fun _=>rfl) (fun x=>PlainC.one x) ordP X2o (fun x y h1 h2=>Xl4 h1 h2) 179 _ w0 w F Γ b c el L junk (by simp only [lim] at h4; omega) h5 (fun W p q=>@Xq1 ⟨True⟩ W _ p q)
 refine Calls.mono this ?_
 rintro x w' ⟨_,hx,hw⟩
 refine ⟨(),hx,hw.closeC (cs:=Xde) (Xht L) junk rfl ?_ ?_ h3 ?_⟩
 ·rw [Xf5]; exact h1
 ·rw [Xf5]; exact h2
 ·rw [Xf5]; exact h4
theorem Xsx (M:Cnt Pair_):(List.range (cntM M).length).filterMap (fun i=>(M[i]?).map (·.1))=M.map (·.1):=by
 rw [Xfs]
 induction M with
 | nil=>rfl
 | cons a M ih =>
  rw [List.length_cons,List.range_succ_eq_map,List.filterMap_cons]
  simp only [List.getElem?_cons_zero,Option.map_some,List.filterMap_map,List.map_cons]
  congr 1
theorem Xlk (b:Nat) (M:Cnt Pair_) (hn:(M.map (·.1)).Nodup) (hl:M.length≤34359738368) (h:(rmap b (ents Xbx (cntM M)) (cntM M).length).holds F w) :
  GivesBuf prog 115 [.map (some b)] w F 77 (Xht (M.map (·.1))):=by
 have hkl:=Xfs M
 refine Xaa func115 rfl ntmps115 rfl rfl [.st (rmap b (ents Xbx (cntM M)) (cntM M).length)] (.start1 h) ?_
 refine JC.buf_nil (α:=Pair_) 77 ?_
 refine wz10 ?_
 refine JR.range (M:=cntM M) rfl ?_
 intro r
 refine wz4 ?_
 refine Xdw (fun (S:List Nat) (out:List Pair_) p q=>[(3, .slice p out.length q),(6, .pointer (some ⟨r,0,none⟩))])
  (fun S out p q=>[.res (buf p q 77 out), .obj r (.mapIter (some b) (cntM M).length S.toArray (cntM M).length), .st (rmap b (ents Xbx (cntM M)) (cntM M).length)])
  (fun S out p q=>S.Nodup∧(∀ i∈S,i < (cntM M).length)∧out=S.filterMap (fun i=>(M[i]?).map (·.1))∧out.length=S.length) (fun S _ _ _=>(cntM M).length - S.length) [] [] none 0 ⟨List.nodup_nil,by simp,rfl,rfl⟩ iI ?_
 intro S out p q ⟨hS1,hS2,hout,hlen⟩
 have hSl:S.length≤(cntM M).length:=Xda hS1 hS2
 refine wz14 ?_
 refine JR.next (M:=cntM M) rfl hS2 (fun hall=>?_) (fun j hj hjS=>?_)
 ·have hp:out.Perm (M.map (·.1)):=by
   rw [hout]
   have h2:=(Xlb hS1 hS2 hall).filterMap (fun i=>(M[i]?).map (·.1))
   rwa [Xsx] at h2
  refine wA ?_
  refine Xal (v:=fun _:Unit=>.tuple ⟨[]⟩) rfl (fun w1 hw=>Xp1 hw) ?_
  intro _
  refine wz10 ?_
  refine CT.done (p,q) ?_ (fun w ho=>?_)
  ·simp only [Xad,hp.length_eq,Xf5]
  ·rw [← Xzx hp]; exact ho.ent
 ·have hjM:j < M.length:=by omega
  have hkj:(cntM M)[j].1=M[j].1:=by simp [cntM]
  refine wA ?_
  refine Wf (OpV.entry (M:=cntM M) hj) rfl ?_
  rw [hkj]
  obtain ⟨c,hc⟩:∃ c,c=M[j].1:=⟨_,rfl⟩
  rw [← hc]
  (repeat (refine wE ?_; intro _)); refine wA ?_
  have hlt:S.length < (cntM M).length:=by
   have:=Xda (S:=S++[j]) (n:=(cntM M).length) (List.nodup_append.2 ⟨hS1,by simp,fun x hx y hy=>by simp at hy; subst hy; exact fun e=>hjS (e ▸ hx)⟩) (fun i hi=>by
    rcases List.mem_append.1 hi with hi | hi
    ·exact hS2 i hi
    ·simp at hi; subst hi; exact hj)
   simp at this; omega
  refine Xay (u:=c) rfl (by exact ⟨rfl,rfl,by decide⟩) (by omega) ?_
  intro a2 c2
  refine wz2 ?_
  refine ⟨S++[j],out++[c],a2,c2,⟨List.nodup_append.2 ⟨hS1,by simp,fun x hx y hy=>by simp at hy; subst hy; exact fun e=>hjS (e ▸ hx)⟩,fun i hi=>?_,?_,by simp [hlen]⟩,by simp; omega,iI⟩
  ·rcases List.mem_append.1 hi with hi | hi
   ·exact hS2 i hi
   ·simp at hi; subst hi; exact hj
  ·rw [hc,hout,List.filterMap_append]; simp [hjM]
theorem Yai (p:Pair_):Xb2 [p]=Xcj p:=by
 unfold Xb2 Xjf
 simp [Xh2]
theorem X34 (a:Option Addr) (k:Nat) (L:List Pair_) (c:Pair_) (h:(sl a k L).holds F w) (hs:∀ c∈L,Xkk c) (hc:Xkk c) (hl:L.length < 34359738367) :
  GivesBuf prog 53 [.slice a L.length k, .agg ⟨Xde c⟩] w F 77 (addP L c):=by
 refine Xaa func53 rfl ntmps53 rfl rfl [.st (sl a k L)] (.start1 h) ?_
 (repeat (refine wE ?_; intro _)); refine wA ?_
 rename_i bc
 refine JR.callV rfl (fun w1 hw=>Xhl w1 _ a k L hw.get hs) ?_
 cases m1:Xb2 L with
 | false =>
  rw [show addP L c=[] from if_neg (by rw [m1]; exact Bool.false_ne_true)]
  refine wz8 ?_
  exact CT.done (none,0) rfl (fun w ho=>ho.bufNil)
 | true =>
 (repeat (refine wF ?_; intro _)); refine wX ?_
 rename_i bl
 refine JR.callV rfl (fun w1 hw=>(Xhl w1 (fun _=>True) (some ⟨bl,0,none⟩) 1 [c] (X8t (L:=[c]) (hw.sat (.own bl 77 (Xde c)) (by simp)) (by simp)) (by intro x hx; rw [List.mem_singleton.1 hx]; exact hc)).any) ?_
 rw [Yai]
 cases m2:Xcj c with
 | false =>
  rw [show addP L c=[] from if_neg (by rw [m1,m2]; exact Bool.false_ne_true)]
  refine wz8 ?_
  exact CT.done (none,0) rfl (fun w ho=>ho.bufNil)
 | true =>
 rw [show addP L c=Xht (addK L c) from if_pos (by rw [m1,m2]; rfl)]
 refine wz7 ?_
 refine JR.call (v:=fun b:Nat=>.map (some b)) rfl (fun w1 hw=>Xnd w1 _ a k L hw.get (Xbg m1)) ?_
 intro b
 obtain ⟨M,hM⟩:∃ M,M=Xba L:=⟨_,rfl⟩
 have hnd:(M.map (·.1)).Nodup:=by rw [hM,Xgx]; exact Xbg m1
 rw [← hM]
 dsimp only [List.cons_append,List.nil_append]
 obtain ⟨N,e9⟩:∃ N,Xe4 (Xch M c) (Xih M c) (IntKind.i64.wrap (Xfz M c+1))=N:=⟨_,rfl⟩
 have hNk:N.map (·.1)=addK L c:=by rw [← e9,Xow,Xjl,hM,Xgx]
 have hNl:N.length≤34359738368:=by
  have h1:N.length=(addK L c).length:=by rw [← hNk,List.length_map]
  rw [h1]; unfold addK; split <;> simp <;> omega
 have hNn:(N.map (·.1)).Nodup:=by rw [hNk]; exact Xcz (Xbg m1) c
 refine wz10 ?_
 refine JC.more (Γ':=.omap b (ents Xbx (cntM M)) (cntM M).length::.own bc 77 (Xde c)::.st (sl a k L)::[]) (fun w1 ho=>ho.ent) ?_
 refine JC.drawP mixed ?_
 refine Xab 0 ?_
 refine JP.tv 1 [.own bc 77 (Xde c)] ?_
 refine JP.both 2 4 (by kernel_rfl) rfl rfl rfl rfl (Wf (Xa7 (M:=cntM M) (v:=.int .i64 (Xfz M c)) c (by rw [Xeu]; exact hnd) (Xej _ _)) rfl (Wd (nO ?_))) (Xdr c rfl hnd (Wd (nO ?_)))
 ·refine JP.pure 3 rfl (by kernel_rfl) rfl (fun _=>Xcs) rfl rfl ?_
  refine Xai 4 rfl rfl (Xdr c rfl hnd (Wd (nO ?_)))
  refine Xab 5 ?_
  refine Xai 6 rfl rfl (Xcq (M:=Xch M c) (Xgw M c) (Wd (nO ?_)))
  refine JP.nil (by kernel_rfl) ?_
  rw [e9]
  refine Wa ?_
  refine JC.more (fun w1 ho=>ho.pubMap) ?_
  refine wz14 ?_
  refine JR.callBuf rfl (fun w1 hw=>Xlk w1 _ b N hNn hNl hw.get) ?_
  intro p q
  rw [hNk]
  refine wz10 ?_
  exact Xac (p,q) rfl
 ·refine Xab 5 ?_
  refine Xai 2 rfl rfl (Wf (Xa7 (M:=cntM (Xch M c)) (v:=.int .i64 (Xfz M c)) c (by rw [Xeu]; exact Xii hnd c) (by rw [Xej,Xjm])) rfl (Wd (nO ?_)))
  refine JP.pure 3 rfl (by kernel_rfl) rfl (fun _=>Xcs) rfl rfl ?_
  refine Xai 6 rfl rfl (Xcq (M:=Xch M c) (Xgw M c) (Wd (nO ?_)))
  refine JP.nil (by kernel_rfl) ?_
  rw [e9]
  refine Wa ?_
  refine JC.more (fun w1 ho=>ho.pubMap) ?_
  refine wz14 ?_
  refine JR.callBuf rfl (fun w1 hw=>Xlk w1 _ b N hNn hNl hw.get) ?_
  intro p q
  rw [hNk]
  refine wz10 ?_
  exact Xac (p,q) rfl
instance:Cell (List Pair_) where
 Ix:=Option Addr × Nat
 sz:=1
 cells l y:=[.slice y.1 l.length y.2]
 facts l y:=[sl y.1 y.2 l]
 len _ _:=rfl
 one l y:=by simp [Value.oneCell']
 pos:=by decide
section
variable {P:Program} {n:Nn} {w0:World} {F:Nat→Prop} {ops:Array Oper} {i d:Nat} {t:TypeId} {pos:String} {aft:Array Edge} {g:Option (Nat × Bool)} {os:List Oper} {Q:Cont} {e:E} {Γ:List Fact}
theorem Xoz [Dr] {x ix:Operand} {v:Value} {L:List (List Pair_)} {kk:IntKind} {j:Int} {k:Nat} {ty el:TypeId} {sz by_ eb:Nat} {z ez:Value} {ed:TypeDesc}
  [hx:Ev e x v] [hL:HasSl Γ v (List Pair_) iI L] [hi:Ev e ix (.int kk j)] [hk:NatI j k] [hT:Ty P ty (.slice el) sz by_ z] [hE:Ty P el ed 1 eb ez] (hd:Nat.blt d n.s=true) (h:k < L.length)
  (K:∀ b o p q,JO P n w0 F ops (i+1) os Q ((d, .pointer (some ⟨b,o,none⟩))::e) (.st (ro b o [.slice p (L[k]'h).length q])::.st (sl p q (L[k]'h))::Γ)) :
  JR P n w0 F ops i ⟨some d, .indexAddr ty x ix,t,pos,aft,g⟩ os Q e Γ:=JR.index hd rfl h fun b o (y:Option Addr × Nat)=>K b o y.1 y.2
end
theorem X7d (k:Nat) (hk:k≤1048576):GivesBuf prog 313 [.slice none 0 0, .int .i64 (k:Int)] w F 77 ([]:List Pair_):=by
 refine Xaa func313 rfl ntmps313 rfl rfl [] (.start w F) ?_
 refine wz2 ?_
 refine Wf OpV.cap rfl ?_
 refine wA ?_
 refine JC.reslot 1 (.int .i64 (k:Int)) (by first | rfl | (congr 1 <;> omega)) ?_
 refine JC.test (fun hlt=>?_) (fun hge=>?_)
 ·refine wz14 ?_
  refine Wf OpV.cap rfl ?_
  refine We rfl ?_
  refine Wf (Xa6 (k:=0) (fun _ _=>Nat.zero_le _)) rfl ?_
  refine wz6 ?_
  refine Xgd (α:=Pair_) (k:=k) rfl (by exact ⟨rfl,rfl,by decide⟩) ⟨by omega,by omega⟩ ?_
  intro b c hc
  refine wz4 ?_
  refine Wf (Xa6 (k:=0) (fun _ _=>Nat.zero_le _)) rfl ?_
  refine wz10 ?_
  exact Xac (some ⟨b,0,none⟩,c) rfl
 ·refine JC.buf_nil (α:=Pair_) 77 ?_
  refine wz1 ?_
  exact Xac (none,0) rfl
theorem X03 (a:Option Addr) (c:Nat) (ls:List (List Pair_)) (h:(sl a c ls).holds F w) (hl:ls.flatten.length≤1048576) (hl2:ls.length≤1048576) :
  GivesBuf prog 283 [.slice a ls.length c] w F 77 ls.flatten:=by
 have hle:∀ k,(ls.take k).flatten.length≤1048576:=fun k=>by
  have h1:=congrArg (fun l=>l.flatten.length) (List.take_append_drop k ls)
  simp only [List.flatten_append,List.length_append] at h1
  omega
 have hnext:∀ k (hk:k < ls.length),(ls.take (k+1)).flatten=(ls.take k).flatten++ls[k]:=fun k hk=>by
  rw [List.take_succ_eq_append_getElem hk,List.flatten_append]; simp
 refine Xaa func283 rfl ntmps283 rfl rfl [.st (sl a c ls)] (.start1 h) ?_
 refine wz4 ?_
 refine JC.reslot 3 (.int .i64 (((ls.take 0).flatten.length:Nat):Int)) rfl ?_
 refine Xao (fun k:Nat=>[(0, .slice a ls.length c),(3, .int .i64 ((ls.take k).flatten.length:Int)),(9, .slice a ls.length c),(10, .int .i64 (ls.length:Int)),(11, .int .i64 (k:Int))]) (fun k=>[.st (sl a c ls)])
  (fun k=>k≤ls.length) (fun k=>ls.length - k) 0 (Nat.zero_le _) iI ?_
 intro k hk
 refine wz11 ?_
 refine JC.test (fun hlt=>?_) (fun hge=>?_)
 ·have hlt':k < ls.length:=by omega
  have h1:=hle (k+1)
  have h2:=hnext k hlt'
  have h3:(ls.take (k+1)).flatten.length=(ls.take k).flatten.length+(ls[k]).length:=by rw [h2,List.length_append]
  refine wz14 ?_
  refine Xoz rfl hlt' ?_
  intro b o p q
  refine wA ?_
  exact ⟨k+1,by omega,by omega,by rw [h3]; infer_instance⟩
 ·obtain rfl:k=ls.length:=by omega
  rw [List.take_length]
  refine wz3 ?_
  refine JR.callBuf rfl (fun w1 hw=>X7d w1 _ _ hl) ?_
  intro a1 c1
  refine wz4 ?_
  refine Xcc (fun (k:Nat) p q=>[(6, .slice p (ls.take k).flatten.length q),(25, .slice a ls.length c),(26, .int .i64 (ls.length:Int)),(27, .int .i64 (k:Int))]) (fun k p q=>[.st (sl a c ls), .res (buf p q 77 (ls.take k).flatten)])
   (fun k _ _=>k≤ls.length) (fun k _ _=>ls.length - k) 0 a1 c1 (Nat.zero_le _) (by rw [List.take_zero,List.flatten_nil]; infer_instance) ?_
  intro k p q hk
  refine wz11 ?_
  refine JC.test (fun hlt=>?_) (fun hge=>?_)
  ·have hlt':k < ls.length:=by omega
   have h1:=hle (k+1)
   have h2:=hnext k hlt'
   have h3:(ls.take (k+1)).flatten.length=(ls.take k).flatten.length+(ls[k]).length:=by rw [h2,List.length_append]
   refine wz14 ?_
   refine Xoz rfl hlt' ?_
   intro b o p2 q2
   refine wz9 ?_
   refine Xbc rfl (by exact ⟨rfl,rfl,by decide⟩) (by omega) ?_
   intro p3 q3
   refine wz2 ?_
   exact ⟨k+1,p3,q3,by omega,by omega,by rw [h2]; infer_instance⟩
  ·obtain rfl:k=ls.length:=by omega
   rw [List.take_length]
   refine wz3 ?_
   exact Xac (p,q) rfl
theorem Xne (b:Nat) (L:List Pair_) (c:Pair_) (x:Bool) (hx:x=decide (c∈L)) (hn:L.Nodup) (h:(rmap b (ents Xbx (cntM (Xba L))) (cntM (Xba L)).length).holds F w) :
  GivesV prog 284 [.map (some b), .agg ⟨Xde c⟩] w F (.bool x):=by
 refine Xaa func284 rfl ntmps284 rfl rfl [.st (rmap b (ents Xbx (cntM (Xba L))) (cntM (Xba L)).length)] (.start1 h) ?_
 have hg:=X0z L c
 obtain ⟨M,hM⟩:∃ M,M=Xba L:=⟨_,rfl⟩
 have hnd:(M.map (·.1)).Nodup:=by rw [hM,Xgx]; exact hn
 rw [← hM] at hg ⊢
 (repeat (refine wE ?_; intro _)); refine wA ?_
 refine Wf (Xa7 (M:=cntM M) (v:=.int .i64 (Xfz M c)) c (by rw [Xeu]; exact hnd) (Xej _ _)) rfl ?_
 refine wz5 ?_
 refine Xac () ?_
 simp only [Xad]
 congr 1
 rw [hx,hg]
 by_cases hc:c∈L <;> simp [hc]
theorem X04 {S K:List Pair_} (hn:S.Nodup) (h:∀ k∈S,k∈K):S.length≤K.length:=hn.length_le_of_subset h
theorem Xxm (p1 p2 p3:Option Addr) (k1 k2 k3:Nat) (B L N:List Pair_) (h1:(sl p1 k1 B).holds F w) (h2:(sl p2 k2 L).holds F w) (h3:(sl p3 k3 N).holds F w)
  (hs1:∀ c∈B,Xkk c) (hs2:∀ c∈L,Xkk c) (hs3:∀ c∈N,Xkk c) (hl:L.length+N.length≤1048576) :
  GivesBuf prog 233 [.slice p1 B.length k1, .slice p2 L.length k2, .slice p3 N.length k3] w F 77 (Xh3 B L N):=by
 refine Xaa func233 rfl ntmps233 rfl rfl [.st (sl p1 k1 B), .st (sl p2 k2 L), .st (sl p3 k3 N)] (.start3 h1 h2 h3) ?_
 refine wz10 ?_
 refine JR.callV rfl (fun w1 hw=>Xhl w1 _ p1 k1 B hw.get hs1) ?_
 cases m1:Xb2 B with
 | false =>
  rw [show Xh3 B L N=[] from if_neg (by rw [m1]; exact Bool.false_ne_true)]
  refine wz8 ?_
  exact CT.done (none,0) rfl (fun w ho=>ho.bufNil)
 | true =>
 refine wz7 ?_
 refine JR.callV rfl (fun w1 hw=>Xhl w1 _ p2 k2 L hw.get hs2) ?_
 cases m2:Xb2 L with
 | false =>
  rw [show Xh3 B L N=[] from if_neg (by rw [m1,m2]; exact Bool.false_ne_true)]
  refine wz8 ?_
  exact CT.done (none,0) rfl (fun w ho=>ho.bufNil)
 | true =>
 refine wz7 ?_
 refine JR.callV rfl (fun w1 hw=>Xhl w1 _ p3 k3 N hw.get hs3) ?_
 cases m3:Xb2 N with
 | false =>
  rw [show Xh3 B L N=[] from if_neg (by rw [m1,m2,m3]; exact Bool.false_ne_true)]
  refine wz8 ?_
  exact CT.done (none,0) rfl (fun w ho=>ho.bufNil)
 | true =>
 rw [show Xh3 B L N=Xht (Xmo B L N (L++N)) from if_pos (by rw [m1,m2,m3]; rfl)]
 refine wz7 ?_
 refine JR.call (v:=fun b:Nat=>.map (some b)) rfl (fun w1 hw=>Xnd w1 _ p1 k1 B hw.get (Xbg m1)) ?_
 intro b1
 dsimp only [List.cons_append,List.nil_append]
 refine JO.more (fun w1 ho=>ho.pubMap) ?_
 refine wz6 ?_
 refine JR.call (v:=fun b:Nat=>.map (some b)) rfl (fun w1 hw=>Xnd w1 _ p2 k2 L hw.get (Xbg m2)) ?_
 intro b2
 dsimp only [List.cons_append,List.nil_append]
 refine JO.more (fun w1 ho=>ho.pubMap) ?_
 refine wz6 ?_
 refine JR.call (v:=fun b:Nat=>.map (some b)) rfl (fun w1 hw=>Xnd w1 _ p3 k3 N hw.get (Xbg m3)) ?_
 intro b3
 dsimp only [List.cons_append,List.nil_append]
 refine JO.more (fun w1 ho=>ho.pubMap) ?_
 refine wz13 ?_
 refine JR.makeMap Xbx rfl ?_
 intro b4
 (repeat (refine wF ?_; intro _)); refine wX ?_
 rename_i lb
 have e:[L,N].flatten=L++N:=by simp
 refine JR.more (Γ':=.st (sl (some ⟨lb,0,none⟩) 2 [L,N])::.omap b4 (ents Xbx ([]:List (Pair_ × Value))) ([]:List (Pair_ × Value)).length::.st (rmap b1 (ents Xbx (cntM (Xba B))) (cntM (Xba B)).length)::.st (rmap b2 (ents Xbx (cntM (Xba L))) (cntM (Xba L)).length)::.st (rmap b3 (ents Xbx (cntM (Xba N))) (cntM (Xba N)).length)::[]) (fun w1 ho=>?_) ?_
 ·have h1:Hold _ _ (.own lb 36 [.slice p2 L.length k2, .slice p3 N.length k3]::.omap b4 (ents Xbx ([]:List (Pair_ × Value))) ([]:List (Pair_ × Value)).length::.st (rmap b1 (ents Xbx (cntM (Xba B))) (cntM (Xba B)).length)::.st (rmap b2 (ents Xbx (cntM (Xba L))) (cntM (Xba L)).length)::.st (rmap b3 (ents Xbx (cntM (Xba N))) (cntM (Xba N)).length)::[.st (sl p2 k2 L), .st (sl p3 k3 N)]) w1:=ho.ent
  have h2:Hold _ _ (.st (sl (some ⟨lb,0,none⟩) 2 [L,N])::.omap b4 (ents Xbx ([]:List (Pair_ × Value))) ([]:List (Pair_ × Value)).length::.st (rmap b1 (ents Xbx (cntM (Xba B))) (cntM (Xba B)).length)::.st (rmap b2 (ents Xbx (cntM (Xba L))) (cntM (Xba L)).length)::.st (rmap b3 (ents Xbx (cntM (Xba N))) (cntM (Xba N)).length)::[.st (sl p2 k2 L), .st (sl p3 k3 N)]) w1:=Hold.pubRow [(L,((p2,k2):Cell.Ix (List Pair_))),(N,((p3,k3):Cell.Ix (List Pair_)))] h1 (by simp [flat]; rfl) (by simp [Cell.facts]) (by simp)
  exact h2.ent
 refine JR.callBuf (L:=L++N) rfl (fun w1 hw=>by have:=X03 w1 _ (some ⟨lb,0,none⟩) 2 [L,N] hw.get (by simp; omega) (by simp); rwa [e] at this) ?_
 intro pa qa
 refine JO.more (fun w1 ho=>ho.pub) ?_
 have hCl:(L++N).length≤1048576:=by rw [List.length_append]; exact hl
 generalize L++N=C at hCl
 refine wz4 ?_
 refine Xc8 (fun (i:Nat) (M:Cnt Pair_)=>[(7, .map (some b1)),(8, .map (some b2)),(9, .map (some b3)),(10, .map (some b4)),(36, .slice pa C.length qa),(37, .int .i64 (C.length:Int)),(38, .int .i64 (i:Int))])
  (fun i M=>.omap b4 (ents Xbx (cntM M)) (cntM M).length::.st (rmap b1 (ents Xbx (cntM (Xba B))) (cntM (Xba B)).length)::.st (rmap b2 (ents Xbx (cntM (Xba L))) (cntM (Xba L)).length)::.st (rmap b3 (ents Xbx (cntM (Xba N))) (cntM (Xba N)).length)::.st (sl pa qa C)::[]) (fun i M=>i≤C.length∧M.map (·.1)=Xmo B L N (C.take i)) (fun i _=>C.length - i) 0 [] ⟨Nat.zero_le _,rfl⟩ (by show Ent _ _ _ (.omap b4 (ents Xbx ([]:List (Pair_ × Value))) ([]:List (Pair_ × Value)).length::.st (rmap b1 (ents Xbx (cntM (Xba B))) (cntM (Xba B)).length)::.st (rmap b2 (ents Xbx (cntM (Xba L))) (cntM (Xba L)).length)::.st (rmap b3 (ents Xbx (cntM (Xba N))) (cntM (Xba N)).length)::.st (sl pa qa C)::[]); exact iI) ?_
 rintro i M ⟨hi,hM⟩
 have hnd:(M.map (·.1)).Nodup:=by rw [hM]; exact Xjg _ _ _ _
 refine wz11 ?_
 refine JC.test (fun hlt=>?_) (fun hge=>?_)
 ·have hlt':i < C.length:=by omega
  have hnx:Xmo B L N (C.take (i+1))=if Xwu B L N C[i] then addK (M.map (·.1)) C[i] else M.map (·.1):=by rw [hM,List.take_succ_eq_append_getElem hlt',Xzy]
  obtain ⟨c,hc⟩:∃ c,c=C[i]:=⟨_,rfl⟩
  rw [← hc] at hnx
  refine wz14 ?_
  refine Xf1 rfl hlt' ?_
  intro b6 o6
  rw [← hc]
  repeat (first|refine Wd ?_|refine We rfl ?_|refine Wf (by first|exact Va|exact Vb|exact Vc|exact Vd|exact Ve|exact Vf|exact Vg|exact Vh|exact Vi|exact Vj|exact Vk (by omega)|exact Vl|exact Vm|exact Vn|exact Vo|exact Vp|exact Vq|exact Vr|exact Vs (by omega)|exact Vt (by omega)|exact Vu (by omega)|exact Vv (by omega)|exact Vw|exact Vx|exact Vy|exact Vz|exact VA|exact VB|exact VC|exact VD|exact VE|exact VF) rfl ?_|(refine Wg rfl ?_; intro _)|(refine Wh rfl ?_; intro _)|refine Wi ?_|refine Wv rfl rfl ?_)
  rename_i bc
  obtain ⟨kb,hkb⟩:∃ kb,kb=Xwu B L N c:=⟨_,rfl⟩
  rw [← hkb] at hnx
  refine Wa ?_
  refine Wb ?_
  refine Xdz (fun _:Unit=>[(7, .map (some b1)),(8, .map (some b2)),(9, .map (some b3)),(10, .map (some b4)),(12, .pointer (some ⟨bc,0,none⟩)),(36, .slice pa C.length qa),(37, .int .i64 (C.length:Int)),(38, .int .i64 (i:Int)),(55, .bool kb)])
   (fun _=>.own bc 77 (Xde c)::.omap b4 (ents Xbx (cntM M)) (cntM M).length::.st (rmap b1 (ents Xbx (cntM (Xba B))) (cntM (Xba B)).length)::.st (rmap b2 (ents Xbx (cntM (Xba L))) (cntM (Xba L)).length)::.st (rmap b3 (ents Xbx (cntM (Xba N))) (cntM (Xba N)).length)::.st (sl pa qa C)::[]) ?_ ?_
  ·unfold Xwu at hkb
   generalize hx1:decide (c∈L)=x1 at hkb
   generalize hx2:decide (c∈N)=x2 at hkb
   generalize hx3:decide (c∈B)=x3 at hkb
   refine wz9 ?_
   refine JR.callV rfl (fun w1 hw=>Xne w1 _ b2 L c x1 hx1.symm (Xbg m2) (hw.get (A:=rmap b2 (ents Xbx (cntM (Xba L))) (cntM (Xba L)).length))) ?_
   cases x1 with
   | false =>
    rw [Bool.false_and,Bool.false_or] at hkb
    subst hkb
    refine wz1 ?_
    refine JR.callV rfl (fun w1 hw=>Xne w1 _ b1 B c x3 hx3.symm (Xbg m1) (hw.get (A:=rmap b1 (ents Xbx (cntM (Xba B))) (cntM (Xba B)).length))) ?_
    refine wz7 ?_
    exact ⟨rfl,(),iI⟩
   | true =>
   refine wz6 ?_
   refine JR.callV rfl (fun w1 hw=>Xne w1 _ b3 N c x2 hx2.symm (Xbg m3) (hw.get (A:=rmap b3 (ents Xbx (cntM (Xba N))) (cntM (Xba N)).length))) ?_
   cases x2 with
   | true =>
    rw [Bool.true_and,Bool.true_or] at hkb
    subst hkb
    refine wz8 ?_
    exact ⟨rfl,(),iI⟩
   | false =>
   rw [Bool.true_and,Bool.false_or] at hkb
   subst hkb
   refine wz6 ?_
   refine JR.callV rfl (fun w1 hw=>Xne w1 _ b1 B c x3 hx3.symm (Xbg m1) (hw.get (A:=rmap b1 (ents Xbx (cntM (Xba B))) (cntM (Xba B)).length))) ?_
   refine wz7 ?_
   exact ⟨rfl,(),iI⟩
  rintro ⟨⟩
  clear hkb
  cases kb with
  | false =>
   rw [if_neg Bool.false_ne_true] at hnx
   refine wz2 ?_
   exact ⟨i+1,M,⟨by omega,hnx.symm⟩,by omega,iI⟩
  | true =>
  rw [if_pos rfl] at hnx
  obtain ⟨M2,e9⟩:∃ M2,Xe4 (Xch M c) (Xih M c) (IntKind.i64.wrap (Xfz M c+1))=M2:=⟨_,rfl⟩
  have hM2:M2.map (·.1)=Xmo B L N (C.take (i+1)):=by rw [← e9,Xow,Xjl,hnx]
  refine wz8 ?_
  refine JC.drawP mixed ?_
  refine Xab 0 ?_
  refine JP.tv 1 [.own bc 77 (Xde c)] ?_
  refine JP.both 2 4 (by kernel_rfl) rfl rfl rfl rfl (Wf (Xa7 (M:=cntM M) (v:=.int .i64 (Xfz M c)) c (by rw [Xeu]; exact hnd) (Xej _ _)) rfl (Wd (nO ?_))) (Xdr c rfl hnd (Wd (nO ?_)))
  ·refine JP.pure 3 rfl (by kernel_rfl) rfl (fun _=>Xcs) rfl rfl ?_
   refine Xai 4 rfl rfl (Xdr c rfl hnd (Wd (nO ?_)))
   refine Xab 5 ?_
   refine Xai 6 rfl rfl (Xcq (M:=Xch M c) (Xgw M c) (Wd (nO ?_)))
   refine JP.nil (by kernel_rfl) ?_
   rw [e9]
   refine wz2 ?_
   exact ⟨i+1,M2,⟨by omega,hM2⟩,by omega,iI⟩
  ·refine Xab 5 ?_
   refine Xai 2 rfl rfl (Wf (Xa7 (M:=cntM (Xch M c)) (v:=.int .i64 (Xfz M c)) c (by rw [Xeu]; exact Xii hnd c) (by rw [Xej,Xjm])) rfl (Wd (nO ?_)))
   refine JP.pure 3 rfl (by kernel_rfl) rfl (fun _=>Xcs) rfl rfl ?_
   refine Xai 6 rfl rfl (Xcq (M:=Xch M c) (Xgw M c) (Wd (nO ?_)))
   refine JP.nil (by kernel_rfl) ?_
   rw [e9]
   refine wz2 ?_
   exact ⟨i+1,M2,⟨by omega,hM2⟩,by omega,iI⟩
 ·obtain rfl:i=C.length:=by omega
  rw [List.take_length] at hM
  have hMl:M.length≤34359738368:=by
   have h0:(M.map (·.1)).length≤C.length:=by
    rw [hM]; exact X04 (Xjg _ _ _ _) (fun x hx=>Xof hx)
   rw [List.length_map] at h0
   omega
  refine JC.more (fun w1 ho=>ho.pubMap) ?_
  refine wz3 ?_
  refine JR.callBuf rfl (fun w1 hw=>Xlk w1 _ b4 M hnd hMl hw.get) ?_
  intro p q
  rw [hM]
  refine wz10 ?_
  exact Xac (p,q) rfl
def Ybw (P:Program) (w:World) (L:List Pair_) (fid:FuncId) (caps:List Value) (p:Pair_→Bool):Prop :=
 ∀ (w':World) (G:Nat→Prop) (x:Pair_),x∈L→Bel w.heap.size w w'→GivesV P fid (.agg ⟨Xde x⟩::caps) w' G (.bool (p x))
theorem Xo0 (a:Option Addr) (c:Nat) (L:List Pair_) (h:(sl a c L).holds F w) (fid:FuncId) (caps:List Value) [Body prog fid] (p:Pair_→Bool) (hp:Ybw prog w L fid caps p) :
  GivesV prog 180 [.slice a L.length c, .func (.func fid) ⟨[]⟩ ⟨caps⟩] w F (.int .i64 (idxV (L.findIdx? p))):=by
 have hL:L.length < 9223372036854775807:=by have:=h.2.2.1; simp only [lim] at this; omega
 refine Xaa func180 rfl ntmps180 rfl rfl [.st (sl a c L)] (.start1 h) ?_
 refine wz4 ?_
 refine Xao (fun k:Nat=>[(0, .slice a L.length c),(1, .func (.func fid) ⟨[]⟩ ⟨caps⟩),(7, .int .i64 (L.length:Int)),(8, .int .i64 (k:Int))]) (fun _=>[.st (sl a c L)])
  (fun k=>k≤L.length∧(L.take k).findIdx? p=none) (fun k=>L.length - k) 0 ⟨Nat.zero_le _,by simp⟩ iI ?_
 intro k ⟨hk,hno⟩
 refine wz11 ?_
 refine JC.test (fun hlt=>?_) (fun hge=>?_)
 ·have hlt':k < L.length:=by omega
  have hft:=Xf2 p L k hlt' hno
  have hmem:=List.getElem_mem hlt'
  obtain ⟨u,hu⟩:∃ u,u=L[k]:=⟨_,rfl⟩
  rw [← hu] at hft hmem
  refine wz7 ?_
  refine Xf1 rfl hlt' ?_
  intro b o
  rw [← hu]
  refine wz6 ?_
  refine JR.callV rfl (fun w1 hw=>hp w1 _ u hmem hw.below) ?_
  cases hy:p u with
  | true =>
   refine wz8 ?_
   refine Xac () ?_
   rw [hft.1 hy]; rfl
  | false =>
   refine wz2 ?_
   exact ⟨k+1,⟨by omega,hft.2 hy⟩,by omega,iI⟩
 ·have hk0:k=L.length:=by omega
  refine wz3 ?_
  refine Xac () ?_
  rw [List.take_of_length_le (by omega)] at hno
  rw [hno]; rfl
theorem X35 (bk be:Nat) (key elem:ByteArray) (x:Pair_) (h:(ro bk 0 [.string key]).holds F w) (h':(ro be 0 [.string elem]).holds F w) :
  GivesV prog 117 [.agg ⟨Xde x⟩, .pointer (some ⟨bk,0,none⟩), .pointer (some ⟨be,0,none⟩)] w F (.bool (Xmn key elem x)):=by
 refine Xaa func117 rfl ntmps117 rfl rfl [.st (ro bk 0 [.string key]), .st (ro be 0 [.string elem])] (.start2 h h') ?_
 (repeat (refine wF ?_; intro _)); refine wX ?_
 by_cases hx1:x.key=key
 ·refine JO.reslot 9 (.bool true) (by congr 1; exact decide_eq_true hx1) ?_
  refine wX ?_
  refine Xac () ?_
  simp only [Xad,Xmn,decide_eq_true hx1,Bool.true_and]
 ·refine JO.reslot 9 (.bool false) (by congr 1; exact decide_eq_false hx1) ?_
  refine wz8 ?_
  refine Xac () ?_
  simp only [Xad,Xmn,decide_eq_false hx1,Bool.false_and]
theorem Hold.shrink {w0 w:World} {F:Nat→Prop} {Γ:List Fact} {g k el:Nat} {L:List Pair_} (m:Nat) (hm:m≤L.length) (ho:Hold w0 F (.res (buf (some ⟨g,0,none⟩) k el L)::Γ) w):Hold w0 F (.res (buf (some ⟨g,0,none⟩) k el (L.take m))::Γ) w:=by
 obtain ⟨junk,h1,h2,h3,h4,h5⟩:=ho.openC
 have hl:(L.take m).length=m:=by rw [List.length_take]; omega
 have hd:(fl Xde (L.drop m)).length=(L.length - m) * 4:=by have:=Xd1 (cs:=Xde) (L.drop m); rw [List.length_drop] at this; exact this
 refine h5.closeC (cs:=Xde) (L.take m) (fl Xde (L.drop m)++junk) (by rw [← List.append_assoc,← Xfm,List.take_append_drop]) ?_ (by omega) h3 (by omega)
 rw [hl,List.length_append,hd]
 have h1':L.length * 4+junk.length=k * 4:=h1
 show m * 4+_=k * 4
 omega
def Xi0 (key elem:ByteArray) (L:List Pair_):List Pair_:=L.filter (fun p=>!Xmn key elem p)
theorem Xyy {w0 w:World} {F:Nat→Prop} {Γ:List Fact} {bk be:Nat} {key elem:ByteArray} (L:List Pair_) (ho:Hold w0 F (.own bk 9 [.string key]::.own be 9 [.string elem]::Γ) w):Ybw prog w L 117 [.pointer (some ⟨bk,0,none⟩), .pointer (some ⟨be,0,none⟩)] (Xmn key elem):=by
 intro w' G x _ hb
 have h1:(ro bk 0 [.string key]).holds (fun _=>True) w:=Lend.ok (f:=.own bk 9 [.string key]) w0 F _ w ho (by simp)
 have h2:(ro be 0 [.string elem]).holds (fun _=>True) w:=Lend.ok (f:=.own be 9 [.string elem]) w0 F _ w ho (by simp)
 have k1:(ro bk 0 [.string key]).holds (fun _=>True) w':=Asn.mono _ _ _ _ (fun k hk=>trivial) (Asn.frame _ _ _ _ (fun k hk=>hb.block k hk.2) ((ro bk 0 [.string key]).within _ _ h1))
 have k2:(ro be 0 [.string elem]).holds (fun _=>True) w':=Asn.mono _ _ _ _ (fun k hk=>trivial) (Asn.frame _ _ _ _ (fun k hk=>hb.block k hk.2) ((ro be 0 [.string elem]).within _ _ h2))
 exact (X35 w' (fun _=>True) bk be key elem x k1 k2).any
theorem X36 {p:Pair_→Bool} {L:List Pair_} (h:L.findIdx? p=none):L.filter (fun x=>!p x)=L:=by
 rw [List.filter_eq_self]
 intro x hx
 have:=List.findIdx?_eq_none_iff.1 h x hx
 simp [this]
theorem Yaj {p:Pair_→Bool} {L:List Pair_} {i:Nat} (h:L.findIdx? p=some i):i < L.length∧(L.take (i+1)).filter (fun x=>!p x)=L.take i:=by
 obtain ⟨h1,h2,h3⟩:=List.findIdx?_eq_some_iff_getElem.1 h
 refine ⟨h1,?_⟩
 rw [List.take_succ_eq_append_getElem h1,List.filter_append]
 have:(L.take i).filter (fun x=>!p x)=L.take i:=by
  rw [List.filter_eq_self]
  intro x hx
  obtain ⟨j,hj,rfl⟩:=List.getElem_of_mem hx
  rw [List.length_take] at hj
  rw [List.getElem_take]
  have:=h3 j (by omega)
  simpa using this
 rw [this]
 simp [h2]
section
variable {P:Program} {n:Nn} {w0:World} {F:Nat→Prop} {ops:Array Oper} {i d:Nat} {t:TypeId} {pos:String} {aft:Array Edge} {g:Option (Nat × Bool)} {os:List Oper} {Q:Cont} {e:E} {Γ:List Fact}
theorem Xp2 [Dr] {x:Operand} {b c k o:Nat} {el:TypeId} {L:List Pair_} {fs:List Field} {by_:Nat} {z:Value} {Δ:List Fact}
  [hx:Ev e x (.pointer (some ⟨b,o,none⟩))] [hB:BufAt Γ b c el L Δ] [hT:Ty P el (.struct ⟨fs⟩) 4 by_ z] (hd:Nat.blt d n.s=true) (h:k < L.length) (ho':o=k * 4)
  (K:JO P n w0 F ops (i+1) os Q ((d, .agg ⟨Xde (L[k]'h)⟩)::e) Γ) :
  JR P n w0 F ops i ⟨some d, .load el x,t,pos,aft,g⟩ os Q e Γ:=Xqc (α:=Pair_) (L:=L) hd rfl h ho' fun _=>K
end
theorem X05 {key elem:ByteArray} {L:List Pair_} {j:Nat} (h:j < L.length):Xi0 key elem (L.take (j+1))=if Xmn key elem L[j] then Xi0 key elem (L.take j) else Xi0 key elem (L.take j)++[L[j]]:=by
 unfold Xi0
 rw [List.take_succ_eq_append_getElem h,List.filter_append]
 cases hg:Xmn key elem L[j] <;> simp [hg]
theorem X7e {A L:List Pair_} {j:Nat} (h:A.drop j=L.drop j) (hA:j < A.length) (hL:j < L.length):A[j]=L[j]∧A.drop (j+1)=L.drop (j+1):=by
 constructor
 ·have:=congrArg (·[0]?) h
  simpa [hA,hL] using this
 ·have:=congrArg (List.drop 1) h
  simpa [List.drop_drop,Nat.add_comm] using this
theorem Xve {w0 w:World} {F:Nat→Prop} {Γ:List Fact} {a:Option Addr} {c bk be:Nat} {key elem:ByteArray} (L:List Pair_) (ho:Hold w0 F (.res (buf a c 77 L)::.own bk 9 [.string key]::.own be 9 [.string elem]::Γ) w) :
  Calls prog 116 ⟨[.slice a L.length c, .func (.func 117) ⟨[]⟩ ⟨[.pointer (some ⟨bk,0,none⟩), .pointer (some ⟨be,0,none⟩)]⟩]⟩ w fun x w'=>∃ _:Unit,x = .returned (.slice a (Xi0 key elem L).length c)∧Hold w0 F (.res (buf a c 77 (Xi0 key elem L))::.own bk 9 [.string key]::.own be 9 [.string elem]::Γ) w':=by
 have hlim:L.length≤lim:=by
  obtain ⟨h0,_⟩:=ho.sat (.res (buf a c 77 L)) (by simp)
  exact h0
 have hL:L.length < 9223372036854775000:=by simp only [lim] at hlim; omega
 refine Xa4 (v:=fun _:Unit=>.slice a (Xi0 key elem L).length c) (B:=fun _=>.res (buf a c 77 (Xi0 key elem L))::.own bk 9 [.string key]::.own be 9 [.string elem]::Γ) func116 rfl ntmps116 rfl rfl _ ho ?_
 refine wz10 ?_
 refine JR.callV (v:=.int .i64 (idxV (L.findIdx? (Xmn key elem)))) rfl (fun w1 hw=>(Xo0 w1 (fun _=>True) a c L hw.bufSl 117 [.pointer (some ⟨bk,0,none⟩), .pointer (some ⟨be,0,none⟩)] (Xmn key elem) (Xyy (F:=F) (w0:=w0) L (hw.tail))).any) ?_
 cases hi:L.findIdx? (Xmn key elem) with
 | none =>
  have e1:Xi0 key elem L=L:=X36 hi
  rw [e1]
  dsimp only [idxV]
  refine wA ?_
  exact CT.done () rfl (fun w ho=>ho)
 | some i0 =>
 obtain ⟨hi0,hf0⟩:=Yaj hi
 have hne:L≠[]:=by intro h; subst h; simp at hi0
 obtain ⟨b,rfl⟩:=Xj1 (ho.sat (.res (buf a c 77 L)) (by simp)) hne
 dsimp only [idxV]
 refine wA ?_
 have hcap:L.length≤c:=(ho.bufSl (a:=some ⟨b,0,none⟩) (c:=c) (L:=L)).1
 refine JC.reslot 6 (.int .i64 ((i0+1:Nat):Int)) (by congr 1) ?_
 refine Xcc (fun (j i:Nat) (A:List Pair_)=>[(0, .slice (some ⟨b,0,none⟩) L.length c),(1, .func (.func 117) ⟨[]⟩ ⟨[.pointer (some ⟨bk,0,none⟩), .pointer (some ⟨be,0,none⟩)]⟩),(5, .int .i64 (i:Int)),(6, .int .i64 (j:Int))]) (fun _ _ A=>.res (buf (some ⟨b,0,none⟩) c 77 A)::.own bk 9 [.string key]::.own be 9 [.string elem]::Γ)
  (fun j i A=>i < j∧j≤L.length∧A.length=L.length∧A.take i=Xi0 key elem (L.take j)∧A.drop j=L.drop j) (fun j _ _=>L.length - j) (i0+1) i0 L ⟨by omega,by omega,rfl,hf0.symm,rfl⟩ iI ?_
 rintro j i A ⟨hij,hj,hA,htk,hdr⟩
 refine wz11 ?_
 refine JC.test (fun hlt=>?_) (fun hge=>?_)
 ·have hjl:j < L.length:=by omega
  have hjA:j < A.length:=by omega
  have hn:=X05 (key:=key) (elem:=elem) hjl
  obtain ⟨hu1,hdr2⟩:=X7e hdr hjA hjl
  rw [← hu1] at hn
  refine wz14 ?_
  refine Wf (Xdm (k:=j) hjl) rfl ?_
  refine wz13 ?_
  refine Xp2 (L:=A) (k:=j) rfl hjA rfl ?_
  generalize A[j]=u at hn
  (repeat (refine wE ?_; intro _)); refine wA ?_
  refine JR.callV rfl (fun w1 hw=>Xyy (key:=key) (elem:=elem) (Γ:=[.res (buf (some ⟨b,0,none⟩) c 77 A)]) [u] hw.ent w1 _ u (by simp) (Bel.refl _ _)) ?_
  cases hg:Xmn key elem u with
  | true =>
   rw [hg,if_pos rfl] at hn
   refine wA ?_
   exact ⟨j+1,i,A,⟨by omega,by omega,hA,by rw [hn]; exact htk,hdr2⟩,by omega,iI⟩
  | false =>
   rw [hg,if_neg Bool.false_ne_true] at hn
   refine wz1 ?_
   refine Wf (Xdm (k:=i) (by omega)) rfl ?_
   refine wz13 ?_
   refine Xxl (L:=A) (k:=i) u rfl (by omega) rfl ?_
   refine wz2 ?_
   refine ⟨j+1,i+1,A.set i u,⟨by omega,by omega,by rw [List.length_set]; exact hA,?_,?_⟩,by omega,iI⟩
   ·rw [hn,← htk,List.take_set,List.take_succ_eq_append_getElem (by omega)]
    have hti:(A.take i).length=i:=by rw [List.length_take]; omega
    rw [List.set_append_right _ _ (by omega),hti,Nat.sub_self]
    rfl
   ·rw [List.drop_set_of_lt (by omega)]; exact hdr2
 ·obtain rfl:j=L.length:=by omega
  rw [List.take_length] at htk
  have hkl:(Xi0 key elem L).length=i:=by rw [← htk,List.length_take]; omega
  refine JC.more (Γ':=.res (buf (some ⟨b,0,none⟩) c 77 (Xi0 key elem L))::.own bk 9 [.string key]::.own be 9 [.string elem]::Γ) (fun w1 ho=>by rw [← htk]; exact Hold.shrink i (by omega) ho) ?_
  generalize Xi0 key elem L=K at hkl
  refine wz3 ?_
  refine Wf (Xbp (l:=i) fun w1 ho=>⟨by omega,hcap⟩) rfl ?_
  refine wz13 ?_
  refine JR.clear (b:=b) (c:=c) (L:=K) (l:=i) (m:=L.length - i) (by exact ⟨rfl,rfl⟩) (by omega) (by omega) (fun hm=>by rw [if_neg (by omega)]) ?_
  refine wz10 ?_
  refine Wf (Xa6 (k:=i) fun w1 ho=>by omega) rfl ?_
  refine wz10 ?_
  refine CT.done () ?_ (fun w ho=>ho)
  simp only [Xad,hkl]
theorem X37 (a:Option Addr) (k:Nat) (L:List Pair_) (key elem:ByteArray) (h:(sl a k L).holds F w) (hs:∀ c∈L,Xkk c) (hl:L.length < 34359738367) :
  GivesBuf prog 55 [.slice a L.length k, .string key, .string elem] w F 77 (delP L key elem):=by
 refine Xaa func55 rfl ntmps55 rfl rfl [.st (sl a k L)] (.start1 h) ?_
 (repeat (refine wE ?_; intro _)); refine wA ?_
 rename_i bk be
 refine JR.callV rfl (fun w1 hw=>Xhl w1 _ a k L hw.get hs) ?_
 cases m1:Xb2 L with
 | false =>
  rw [show delP L key elem=[] from if_neg (by rw [m1]; exact Bool.false_ne_true)]
  refine wz8 ?_
  exact CT.done (none,0) rfl (fun w ho=>ho.bufNil)
 | true =>
 rw [show delP L key elem=Xi0 key elem L from if_pos m1]
 refine wz7 ?_
 refine JR.callBuf rfl (fun w1 hw=>Xoy w1 _ a k L hw.get (by omega)) ?_
 intro p q
 refine wA ?_
 refine JR.more (Γ':=.res (buf p q 77 L)::.own bk 9 [.string key]::.own be 9 [.string elem]::[]) (fun w1 ho=>ho.ent) ?_
 refine Xal (v:=fun _:Unit=>.slice p (Xi0 key elem L).length q) (B:=fun _=>.res (buf p q 77 (Xi0 key elem L))::.own bk 9 [.string key]::.own be 9 [.string elem]::[]) rfl (fun w1 hw=>Xve L hw) ?_
 rintro ⟨⟩
 refine wz10 ?_
 exact Xac (p,q) rfl
abbrev Sa:=(Option Addr × Nat) × (Option Addr × Nat) × (Option Addr × Nat)
abbrev stC (s:State_) (a:Sa):List Value:=[.slice a.1.1 s.c.length a.1.2, .slice a.2.1.1 s.r.length a.2.1.2, .slice a.2.2.1 s.p.length a.2.2.2]
abbrev stF (s:State_) (a:Sa):List Fact:=[.st (sl a.1.1 a.1.2 s.c), .st (sl a.2.1.1 a.2.1.2 s.r), .st (sl a.2.2.1 a.2.2.2 s.p)]
structure fineS (s:State_):Prop where
 c:∀ c∈s.c,c.key.size < 4611686018427387904
 r:∀ r∈s.r,Xml r
 p:∀ p∈s.p,Xkk p
theorem Xkl (s:State_) (pc pr pp:Option Addr) (kc kr kp:Nat) (h1:(sl pc kc s.c).holds F w) (h2:(sl pr kr s.r).holds F w) (h3:(sl pp kp s.p).holds F w) (hf:fineS s) :
  GivesV prog 44 [.agg ⟨[.slice pc s.c.length kc, .slice pr s.r.length kr, .slice pp s.p.length kp]⟩] w F (.bool (Xgq s)):=by
 obtain ⟨C,R,Q⟩:=s
 refine Xaa func44 rfl ntmps44 rfl rfl [.st (sl pc kc C), .st (sl pr kr R), .st (sl pp kp Q)] (.start3 h1 h2 h3) ?_
 unfold Xgq
 (repeat (refine wE ?_; intro _)); refine wA ?_
 refine JR.callV rfl (fun w1 hw=>Xn6 w1 _ pc kc C hw.get hf.c) ?_
 cases m1:Xdp C with
 | false =>
  refine wz8 ?_
  exact Xac () rfl
 | true =>
 refine wz6 ?_
 refine JR.callV rfl (fun w1 hw=>Xr3 w1 _ pr kr R hw.get hf.r) ?_
 cases m2:Xd9 R with
 | false =>
  refine wz8 ?_
  exact Xac () rfl
 | true =>
 refine wz6 ?_
 refine JR.callV rfl (fun w1 hw=>Xhl w1 _ pp kp Q hw.get hf.p) ?_
 refine wz8 ?_
 exact Xac () rfl
theorem Hold.start6 {w0:World} {F:Nat→Prop} {A B C D E G:Asn} (h1:A.holds F w0) (h2:B.holds F w0) (h3:C.holds F w0) (h4:D.holds F w0) (h5:E.holds F w0) (h6:G.holds F w0):Hold w0 F [.st A, .st B, .st C, .st D, .st E, .st G] w0 :=
 ((Hold.start4 h3 h4 h5 h6).add (Asn.mono _ _ _ _ (fun k hk=>⟨.inl hk,by simp [free,Fact.owns]⟩) h2)).add (Asn.mono _ _ _ _ (fun k hk=>⟨.inl hk,by simp [free,Fact.owns]⟩) h1)
theorem Xxn (no sq:Int):GivesV prog 46 [.agg ⟨[.int .i64 no, .int .i64 sq]⟩] w F (.bool (Xz4 ⟨no,sq⟩)):=by
 refine Xaa func46 rfl ntmps46 rfl rfl [] (.start w F) ?_
 unfold Xz4
 (repeat (refine wF ?_; intro _)); refine wX ?_
 by_cases h1:no≥0
 ·refine JO.reslot 6 (.bool true) (by congr 1; exact decide_eq_true h1) ?_
  refine wX ?_
  by_cases h2:no < 8
  ·refine JO.reslot 11 (.bool true) (by congr 1; exact decide_eq_true h2) ?_
   refine wX ?_
   by_cases h3:sq > 0
   ·refine JO.reslot 16 (.bool true) (by congr 1; exact decide_eq_true h3) ?_
    refine wX ?_
    refine Xac () ?_
    simp only [Xad,decide_eq_true (show 0≤no from h1),decide_eq_true h2,decide_eq_true (show 0 < sq from h3),Bool.true_and]
   ·refine JO.reslot 16 (.bool false) (by congr 1; exact decide_eq_false h3) ?_
    refine wz8 ?_
    refine Xac () ?_
    simp only [Xad,decide_eq_true (show 0≤no from h1),decide_eq_true h2,decide_eq_false (show ¬ 0 < sq from h3),Bool.true_and,Bool.false_and]
  ·refine JO.reslot 11 (.bool false) (by congr 1; exact decide_eq_false h2) ?_
   refine wz8 ?_
   refine Xac () ?_
   simp only [Xad,decide_eq_true (show 0≤no from h1),decide_eq_false h2,Bool.true_and,Bool.false_and]
 ·refine JO.reslot 6 (.bool false) (by congr 1; exact decide_eq_false h1) ?_
  refine wz8 ?_
  refine Xac () ?_
  simp only [Xad,decide_eq_false (show ¬ 0≤no from h1),Bool.false_and]
theorem X38 (s:State_) (pc pr pp:Option Addr) (kc kr kp:Nat) (h1:(sl pc kc s.c).holds F w) (h2:(sl pr kr s.r).holds F w) (h3:(sl pp kp s.p).holds F w)
  (hc:s.c.length≤34359738368) (hr:s.r.length≤34359738368) (hp:s.p.length≤34359738368) :
  Gives prog 47 [.agg ⟨[.slice pc s.c.length kc, .slice pr s.r.length kr, .slice pp s.p.length kp]⟩] w F (fun y:Sa=>.agg ⟨stC s y⟩) (fun y=>stF s y):=by
 obtain ⟨C,R,Q⟩:=s
 dsimp only at h1 h2 h3 hc hr hp
 refine Xaa func47 rfl ntmps47 rfl rfl [.st (sl pc kc C), .st (sl pr kr R), .st (sl pp kp Q)] (.start3 h1 h2 h3) ?_
 dsimp only
 (repeat (refine wE ?_; intro _)); refine wA ?_
 rename_i bs br
 refine JC.drawP mixed ?_
 refine Xab 0 ?_
 refine JP.tv 1 [.own bs 38 [.slice pc C.length kc, .slice pr R.length kr, .slice pp Q.length kp]] ?_
 refine Xab 3 ?_
 refine JP.tv 4 [.own bs 38 [.slice pc C.length kc, .slice pr R.length kr, .slice pp Q.length kp]] ?_
 refine Xab 6 ?_
 refine JP.tv 7 [.own bs 38 [.slice pc C.length kc, .slice pr R.length kr, .slice pp Q.length kp]] ?_
 refine Xai 2 rfl rfl (JR.callSl rfl (fun w1 hw=>(X00 w1 _ pc kc C hw.get hc).sl) (fun p1 q1=>Wd (nO ?_)))
 refine Xai 5 rfl rfl (JR.callSl rfl (fun w1 hw=>(Xq0 w1 _ pr kr R hw.get hr).sl) (fun p2 q2=>Wd (nO ?_)))
 refine Xai 8 rfl rfl (JR.callSl rfl (fun w1 hw=>(Xoy w1 _ pp kp Q hw.get hp).sl) (fun p3 q3=>Wd (nO ?_)))
 refine JP.pure 9 rfl (by kernel_rfl) rfl (fun _=>OpV.build [.slice p1 C.length q1, .slice p2 R.length q2, .slice p3 Q.length q3] (by kernel_rfl)) rfl rfl ?_
 refine JP.reslot 2 (.pointer (some ⟨br,0,none⟩)) rfl ?_
 refine Xai 10 rfl rfl (Wi (Wd (nO ?_)))
 refine JP.nil (by kernel_rfl) ?_
 refine wz13 ?_
 exact Xac ((p1,q1),(p2,q2),(p3,q3)) rfl
theorem X39 {w0 w:World} {F:Nat→Prop} {Γ:List Fact} {bt bo kc kr kp:Nat} {pc pr pp:Option Addr} {C:List Ctr_} {R:List Reg_} {Q:List Pair_} {kind m:Int} {key elem:ByteArray}
  (hs:∀ c∈C,c.key.size < 4611686018427387904) (hk:key.size < 4611686018427387904) (hl:C.length≤11)
  (ho:Hold w0 F (.own bt 38 [.slice pc C.length kc, .slice pr R.length kr, .slice pp Q.length kp]::.own bo 26 [.int .i64 kind, .string key, .string elem, .int .i64 m]::.st (sl pc kc C)::.st (sl pr kr R)::.st (sl pp kp Q)::Γ) w) :
  Calls prog 48 ⟨[.pointer (some ⟨bt,0,none⟩), .pointer (some ⟨bo,0,none⟩)]⟩ w fun x w'=>∃ y:Option Addr × Nat,x = .returned (.tuple ⟨[]⟩) ∧
   Hold w0 F (.own bt 38 [.slice y.1 (incT C key m).length y.2, .slice pr R.length kr, .slice pp Q.length kp]::.st (sl y.1 y.2 (incT C key m))::.st (sl pr kr R)::.st (sl pp kp Q)::Γ) w':=by
 refine Xa4 (v:=fun _:Option Addr × Nat=>.tuple ⟨[]⟩) (B:=fun y=>.own bt 38 [.slice y.1 (incT C key m).length y.2, .slice pr R.length kr, .slice pp Q.length kp]::.st (sl y.1 y.2 (incT C key m))::.st (sl pr kr R)::.st (sl pp kp Q)::Γ)
  func48 rfl ntmps48 rfl rfl _ ho ?_
 refine wz9 ?_
 refine JR.callSl rfl (fun w1 hw=>(X9o w1 _ pc kc C key m hw.get hs hk hl).sl) ?_
 intro p q
 refine wz6 ?_
 refine JR.reslot 9 (.pointer (some ⟨bt,0,none⟩)) rfl ?_
 refine Wi ?_
 refine wz10 ?_
 exact Xj6 (p,q) rfl
theorem X4a {w0 w:World} {F:Nat→Prop} {Γ:List Fact} {bt bo bg be kc kr kp:Nat} {pc pr pp:Option Addr} {C:List Ctr_} {R:List Reg_} {Q:List Pair_} {kind m gen no sq:Int} {key elem:ByteArray}
  (hs:∀ c∈R,Xml c) (hk:Xml ⟨key,elem,gen,⟨no,sq⟩⟩) (hl:R.length < 4294967294)
  (ho:Hold w0 F (.own bt 38 [.slice pc C.length kc, .slice pr R.length kr, .slice pp Q.length kp]::.own bo 26 [.int .i64 kind, .string key, .string elem, .int .i64 m]::.own bg 3 [.int .i64 gen]::.own be 24 [.int .i64 no, .int .i64 sq]::.st (sl pc kc C)::.st (sl pr kr R)::.st (sl pp kp Q)::Γ) w) :
  Calls prog 50 ⟨[.pointer (some ⟨bt,0,none⟩), .pointer (some ⟨bo,0,none⟩), .pointer (some ⟨bg,0,none⟩), .pointer (some ⟨be,0,none⟩)]⟩ w fun x w'=>∃ y:Option Addr × Nat,x = .returned (.tuple ⟨[]⟩) ∧
   Hold w0 F (.own bt 38 [.slice pc C.length kc, .slice y.1 (Xdi R ⟨key,elem,gen,⟨no,sq⟩⟩).length y.2, .slice pp Q.length kp]::.st (sl y.1 y.2 (Xdi R ⟨key,elem,gen,⟨no,sq⟩⟩))::.st (sl pc kc C)::.st (sl pp kp Q)::Γ) w':=by
 refine Xa4 (v:=fun _:Option Addr × Nat=>.tuple ⟨[]⟩) (B:=fun y=>.own bt 38 [.slice pc C.length kc, .slice y.1 (Xdi R ⟨key,elem,gen,⟨no,sq⟩⟩).length y.2, .slice pp Q.length kp]::.st (sl y.1 y.2 (Xdi R ⟨key,elem,gen,⟨no,sq⟩⟩))::.st (sl pc kc C)::.st (sl pp kp Q)::Γ)
  func50 rfl ntmps50 rfl rfl _ ho ?_
 refine wz9 ?_
 refine Wf (OpV.build [.string key, .string elem, .int .i64 gen, .int .i64 no, .int .i64 sq] (by kernel_rfl)) rfl ?_
 refine wz13 ?_
 refine JR.callSl rfl (fun w1 hw=>(X7c w1 _ pr kr R ⟨key,elem,gen,⟨no,sq⟩⟩ hw.get hs hk hl).sl) ?_
 intro p q
 refine wz9 ?_
 exact Xj6 (p,q) rfl
theorem X4b {w0 w:World} {F:Nat→Prop} {Γ:List Fact} {bt bo be kc kr kp:Nat} {pc pr pp:Option Addr} {C:List Ctr_} {R:List Reg_} {Q:List Pair_} {kind m no sq:Int} {key elem:ByteArray}
  (hs:∀ c∈Q,Xkk c) (hk:Xkk ⟨key,elem,⟨no,sq⟩⟩) (hl:Q.length < 34359738367)
  (ho:Hold w0 F (.own bt 38 [.slice pc C.length kc, .slice pr R.length kr, .slice pp Q.length kp]::.own bo 26 [.int .i64 kind, .string key, .string elem, .int .i64 m]::.own be 24 [.int .i64 no, .int .i64 sq]::.st (sl pc kc C)::.st (sl pr kr R)::.st (sl pp kp Q)::Γ) w) :
  Calls prog 52 ⟨[.pointer (some ⟨bt,0,none⟩), .pointer (some ⟨bo,0,none⟩), .pointer (some ⟨be,0,none⟩)]⟩ w fun x w'=>∃ y:Option Addr × Nat,x = .returned (.tuple ⟨[]⟩) ∧
   Hold w0 F (.own bt 38 [.slice pc C.length kc, .slice pr R.length kr, .slice y.1 (addP Q ⟨key,elem,⟨no,sq⟩⟩).length y.2]::.st (sl y.1 y.2 (addP Q ⟨key,elem,⟨no,sq⟩⟩))::.st (sl pc kc C)::.st (sl pr kr R)::Γ) w':=by
 refine Xa4 (v:=fun _:Option Addr × Nat=>.tuple ⟨[]⟩) (B:=fun y=>.own bt 38 [.slice pc C.length kc, .slice pr R.length kr, .slice y.1 (addP Q ⟨key,elem,⟨no,sq⟩⟩).length y.2]::.st (sl y.1 y.2 (addP Q ⟨key,elem,⟨no,sq⟩⟩))::.st (sl pc kc C)::.st (sl pr kr R)::Γ)
  func52 rfl ntmps52 rfl rfl _ ho ?_
 refine wz9 ?_
 refine Wf (OpV.build [.string key, .string elem, .int .i64 no, .int .i64 sq] (by kernel_rfl)) rfl ?_
 refine wz13 ?_
 refine JR.callSl rfl (fun w1 hw=>(X34 w1 _ pp kp Q ⟨key,elem,⟨no,sq⟩⟩ hw.get hs hk hl).sl) ?_
 intro p q
 refine wz9 ?_
 exact Xj6 (p,q) rfl
theorem X4c {w0 w:World} {F:Nat→Prop} {Γ:List Fact} {bt bo kc kr kp:Nat} {pc pr pp:Option Addr} {C:List Ctr_} {R:List Reg_} {Q:List Pair_} {kind m:Int} {key elem:ByteArray}
  (hs:∀ c∈Q,Xkk c) (hl:Q.length < 34359738367)
  (ho:Hold w0 F (.own bt 38 [.slice pc C.length kc, .slice pr R.length kr, .slice pp Q.length kp]::.own bo 26 [.int .i64 kind, .string key, .string elem, .int .i64 m]::.st (sl pc kc C)::.st (sl pr kr R)::.st (sl pp kp Q)::Γ) w) :
  Calls prog 54 ⟨[.pointer (some ⟨bt,0,none⟩), .pointer (some ⟨bo,0,none⟩)]⟩ w fun x w'=>∃ y:Option Addr × Nat,x = .returned (.tuple ⟨[]⟩) ∧
   Hold w0 F (.own bt 38 [.slice pc C.length kc, .slice pr R.length kr, .slice y.1 (delP Q key elem).length y.2]::.st (sl y.1 y.2 (delP Q key elem))::.st (sl pc kc C)::.st (sl pr kr R)::Γ) w':=by
 refine Xa4 (v:=fun _:Option Addr × Nat=>.tuple ⟨[]⟩) (B:=fun y=>.own bt 38 [.slice pc C.length kc, .slice pr R.length kr, .slice y.1 (delP Q key elem).length y.2]::.st (sl y.1 y.2 (delP Q key elem))::.st (sl pc kc C)::.st (sl pr kr R)::Γ)
  func54 rfl ntmps54 rfl rfl _ ho ?_
 refine wz9 ?_
 refine JR.callSl rfl (fun w1 hw=>(X37 w1 _ pp kp Q key elem hw.get hs hl).sl) ?_
 intro p q
 refine wz9 ?_
 exact Xj6 (p,q) rfl
theorem X06 {o:Op_} (h:Xc0 o=true):o.kind=0∨o.kind=1∨o.kind=2∨o.kind=3:=by
 unfold Xc0 at h
 split at h
 ·exact .inl (by assumption)
 ·split at h
  ·exact .inr (by assumption)
  ·cases h
theorem Xsy (s:State_) (o:Op_) (ev:Ev_) (gen:Int) (pc pr pp:Option Addr) (kc kr kp:Nat) (h1:(sl pc kc s.c).holds F w) (h2:(sl pr kr s.r).holds F w) (h3:(sl pp kp s.p).holds F w)
  (hf:fineS s) (ht:o.key.size < 4611686018427387904∧o.elem.size < 4611686018427387904) (hc:s.c.length≤11) (hr:s.r.length≤1048576) (hp:s.p.length≤1048576) :
  Gives prog 15 [.agg ⟨[.slice pc s.c.length kc, .slice pr s.r.length kr, .slice pp s.p.length kp]⟩, .agg ⟨[.int .i64 o.kind, .string o.key, .string o.elem, .int .i64 o.n]⟩, .agg ⟨[.int .i64 ev.node, .int .i64 ev.seq]⟩, .int .i64 gen] w F
   (fun y:Sa=>.tuple ⟨[.agg ⟨stC (stDo s o ev gen).1 y⟩, .int .i64 (stDo s o ev gen).2]⟩) (fun y=>stF (stDo s o ev gen).1 y):=by
 obtain ⟨C,R,Q⟩:=s
 obtain ⟨kind,key,elem,m⟩:=o
 obtain ⟨no,sq⟩:=ev
 dsimp only at h1 h2 h3 hc hr hp ht
 refine Xaa func15 rfl ntmps15 rfl rfl [.st (sl pc kc C), .st (sl pr kr R), .st (sl pp kp Q)] (.start3 h1 h2 h3) ?_
 dsimp only
 (repeat (refine wE ?_; intro _)); refine wA ?_
 rename_i bs bo be bg br
 refine JR.callV rfl (fun w1 hw=>Xkl w1 _ ⟨C,R,Q⟩ pc pr pp kc kr kp hw.get hw.get hw.get hf) ?_
 cases m1:Xgq ⟨C,R,Q⟩ with
 | false =>
  have e0:stDo ⟨C,R,Q⟩ ⟨kind,key,elem,m⟩ ⟨no,sq⟩ gen=(st0,1):=by unfold stDo; rw [if_neg]; unfold doOk; rw [m1]; simp
  rw [e0]
  refine wz8 ?_
  refine Wf (OpV.build [.slice none 0 0, .slice none 0 0, .slice none 0 0] (by kernel_rfl)) rfl ?_
  refine wz9 ?_
  refine CT.done ((none,0),(none,0),(none,0)) rfl (fun w ho=>?_)
  have h9:=((ho.add (A:=sl (α:=Pair_) none 0 []) Xan).add (A:=sl (α:=Reg_) none 0 []) Xan).add (A:=sl (α:=Ctr_) none 0 []) Xan
  exact (show Hold _ _ [.st (sl (α:=Ctr_) none 0 []), .st (sl (α:=Reg_) none 0 []), .st (sl (α:=Pair_) none 0 [])] w from h9.ent)
 | true =>
 refine wz1 ?_
 refine JR.callV rfl (fun w1 hw=>Xoj w1 _ ⟨kind,key,elem,m⟩ ht.1 ht.2) ?_
 cases m2:Xc0 ⟨kind,key,elem,m⟩ with
 | false =>
  have e0:stDo ⟨C,R,Q⟩ ⟨kind,key,elem,m⟩ ⟨no,sq⟩ gen=(st0,1):=by unfold stDo; rw [if_neg]; unfold doOk; rw [m2]; simp
  rw [e0]
  refine wz8 ?_
  refine Wf (OpV.build [.slice none 0 0, .slice none 0 0, .slice none 0 0] (by kernel_rfl)) rfl ?_
  refine wz9 ?_
  refine CT.done ((none,0),(none,0),(none,0)) rfl (fun w ho=>?_)
  have h9:=((ho.add (A:=sl (α:=Pair_) none 0 []) Xan).add (A:=sl (α:=Reg_) none 0 []) Xan).add (A:=sl (α:=Ctr_) none 0 []) Xan
  exact (show Hold _ _ [.st (sl (α:=Ctr_) none 0 []), .st (sl (α:=Reg_) none 0 []), .st (sl (α:=Pair_) none 0 [])] w from h9.ent)
 | true =>
 refine wz1 ?_
 refine JR.callV rfl (fun w1 hw=>Xxn w1 _ no sq) ?_
 cases m3:Xz4 ⟨no,sq⟩ with
 | false =>
  have e0:stDo ⟨C,R,Q⟩ ⟨kind,key,elem,m⟩ ⟨no,sq⟩ gen=(st0,1):=by unfold stDo; rw [if_neg]; unfold doOk; rw [m3]; simp
  rw [e0]
  refine wz8 ?_
  refine Wf (OpV.build [.slice none 0 0, .slice none 0 0, .slice none 0 0] (by kernel_rfl)) rfl ?_
  refine wz9 ?_
  refine CT.done ((none,0),(none,0),(none,0)) rfl (fun w ho=>?_)
  have h9:=((ho.add (A:=sl (α:=Pair_) none 0 []) Xan).add (A:=sl (α:=Reg_) none 0 []) Xan).add (A:=sl (α:=Ctr_) none 0 []) Xan
  exact (show Hold _ _ [.st (sl (α:=Ctr_) none 0 []), .st (sl (α:=Reg_) none 0 []), .st (sl (α:=Pair_) none 0 [])] w from h9.ent)
 | true =>
 refine wX ?_
 refine JC.test (fun hlt=>?_) (fun hge=>?_)
 ·have e0:stDo ⟨C,R,Q⟩ ⟨kind,key,elem,m⟩ ⟨no,sq⟩ gen=(st0,1):=by unfold stDo; rw [if_neg]; unfold doOk; rw [decide_eq_false (show ¬ 1≤gen by omega)]; simp
  rw [e0]
  refine wz14 ?_
  refine Wf (OpV.build [.slice none 0 0, .slice none 0 0, .slice none 0 0] (by kernel_rfl)) rfl ?_
  refine wz9 ?_
  refine CT.done ((none,0),(none,0),(none,0)) rfl (fun w ho=>?_)
  have h9:=((ho.add (A:=sl (α:=Pair_) none 0 []) Xan).add (A:=sl (α:=Reg_) none 0 []) Xan).add (A:=sl (α:=Ctr_) none 0 []) Xan
  exact (show Hold _ _ [.st (sl (α:=Ctr_) none 0 []), .st (sl (α:=Reg_) none 0 []), .st (sl (α:=Pair_) none 0 [])] w from h9.ent)
 have e0:stDo ⟨C,R,Q⟩ ⟨kind,key,elem,m⟩ ⟨no,sq⟩ gen=(stDone ⟨C,R,Q⟩ ⟨kind,key,elem,m⟩ ⟨no,sq⟩ gen,0):=by unfold stDo; rw [if_pos]; unfold doOk; rw [m1,m2,m3,decide_eq_true (show 1≤gen by omega)]; rfl
 rw [e0]
 dsimp only
 refine wz1 ?_
 refine JR.call (v:=fun y:Sa=>.agg ⟨stC ⟨C,R,Q⟩ y⟩) rfl (fun w1 hw=>X38 w1 _ ⟨C,R,Q⟩ pc pr pp kc kr kp hw.get hw.get hw.get (by dsimp only; omega) (by dsimp only; omega) (by dsimp only; omega)) ?_
 rintro ⟨⟨p1,q1⟩,⟨p2,q2⟩,⟨p3,q3⟩⟩
 dsimp only [stC,stF,List.cons_append,List.nil_append]
 (repeat (refine wF ?_; intro _)); refine wX ?_
 rename_i bt
 refine Wf (OpV.build [.func (.func 48) ⟨[]⟩ ⟨[.pointer (some ⟨bt,0,none⟩), .pointer (some ⟨bo,0,none⟩)]⟩,
  .func (.func 50) ⟨[]⟩ ⟨[.pointer (some ⟨bt,0,none⟩), .pointer (some ⟨bo,0,none⟩), .pointer (some ⟨bg,0,none⟩), .pointer (some ⟨be,0,none⟩)]⟩,
  .func (.func 52) ⟨[]⟩ ⟨[.pointer (some ⟨bt,0,none⟩), .pointer (some ⟨bo,0,none⟩), .pointer (some ⟨be,0,none⟩)]⟩,
  .func (.func 54) ⟨[]⟩ ⟨[.pointer (some ⟨bt,0,none⟩), .pointer (some ⟨bo,0,none⟩)]⟩] (by kernel_rfl)) rfl ?_
 (repeat (refine wF ?_; intro _)); refine wX ?_
 rename_i ba
 rcases X06 m2 with hk | hk | hk | hk <;> dsimp only at hk <;> subst hk
 ·have e1:stDone ⟨C,R,Q⟩ ⟨0,key,elem,m⟩ ⟨no,sq⟩ gen=⟨incT C key m,R,Q⟩:=by simp [stDone]
  rw [e1]
  dsimp only
  refine Wf (Xag (k:=0) (by decide)) rfl ?_
  refine JO.reslot 39 (.pointer (some ⟨ba,0,none⟩)) rfl ?_
  refine wz6 ?_
  refine JR.more (Γ':=.own bt 38 [.slice p1 C.length q1, .slice p2 R.length q2, .slice p3 Q.length q3]::.own bo 26 [.int .i64 0, .string key, .string elem, .int .i64 m]::.st (sl p1 q1 C)::.st (sl p2 q2 R)::.st (sl p3 q3 Q)::.own br 38 [.slice none 0 0, .slice none 0 0, .slice none 0 0]::[]) (fun w1 ho=>ho.ent) ?_
  refine Xal (v:=fun _:Option Addr × Nat=>.tuple ⟨[]⟩) (B:=fun y=>.own bt 38 [.slice y.1 (incT C key m).length y.2, .slice p2 R.length q2, .slice p3 Q.length q3]::.st (sl y.1 y.2 (incT C key m))::.st (sl p2 q2 R)::.st (sl p3 q3 Q)::.own br 38 [.slice none 0 0, .slice none 0 0, .slice none 0 0]::[]) rfl (fun w1 hw=>X39 hf.c ht.1 hc hw) ?_
  rintro ⟨p,q⟩
  dsimp only
  refine wz9 ?_
  exact Xac ((p,q),(p2,q2),(p3,q3)) rfl
 ·have e1:stDone ⟨C,R,Q⟩ ⟨1,key,elem,m⟩ ⟨no,sq⟩ gen=⟨C,Xdi R ⟨key,elem,gen,⟨no,sq⟩⟩,Q⟩:=by simp [stDone]
  rw [e1]
  dsimp only
  refine Wf (Xag (k:=1) (by decide)) rfl ?_
  refine JO.reslot 39 (.pointer (some ⟨ba,1,none⟩)) rfl ?_
  refine wz6 ?_
  refine JR.more (Γ':=.own bt 38 [.slice p1 C.length q1, .slice p2 R.length q2, .slice p3 Q.length q3]::.own bo 26 [.int .i64 1, .string key, .string elem, .int .i64 m]::.own bg 3 [.int .i64 gen]::.own be 24 [.int .i64 no, .int .i64 sq]::.st (sl p1 q1 C)::.st (sl p2 q2 R)::.st (sl p3 q3 Q)::.own br 38 [.slice none 0 0, .slice none 0 0, .slice none 0 0]::[]) (fun w1 ho=>ho.ent) ?_
  refine Xal (v:=fun _:Option Addr × Nat=>.tuple ⟨[]⟩) (B:=fun y=>.own bt 38 [.slice p1 C.length q1, .slice y.1 (Xdi R ⟨key,elem,gen,⟨no,sq⟩⟩).length y.2, .slice p3 Q.length q3]::.st (sl y.1 y.2 (Xdi R ⟨key,elem,gen,⟨no,sq⟩⟩))::.st (sl p1 q1 C)::.st (sl p3 q3 Q)::.own br 38 [.slice none 0 0, .slice none 0 0, .slice none 0 0]::[]) rfl (fun w1 hw=>X4a hf.r ht (by omega) hw) ?_
  rintro ⟨p,q⟩
  dsimp only
  refine wz9 ?_
  exact Xac ((p1,q1),(p,q),(p3,q3)) rfl
 ·have e1:stDone ⟨C,R,Q⟩ ⟨2,key,elem,m⟩ ⟨no,sq⟩ gen=⟨C,R,addP Q ⟨key,elem,⟨no,sq⟩⟩⟩:=by simp [stDone]
  rw [e1]
  dsimp only
  refine Wf (Xag (k:=2) (by decide)) rfl ?_
  refine JO.reslot 39 (.pointer (some ⟨ba,2,none⟩)) rfl ?_
  refine wz6 ?_
  refine JR.more (Γ':=.own bt 38 [.slice p1 C.length q1, .slice p2 R.length q2, .slice p3 Q.length q3]::.own bo 26 [.int .i64 2, .string key, .string elem, .int .i64 m]::.own be 24 [.int .i64 no, .int .i64 sq]::.st (sl p1 q1 C)::.st (sl p2 q2 R)::.st (sl p3 q3 Q)::.own br 38 [.slice none 0 0, .slice none 0 0, .slice none 0 0]::[]) (fun w1 ho=>ho.ent) ?_
  refine Xal (v:=fun _:Option Addr × Nat=>.tuple ⟨[]⟩) (B:=fun y=>.own bt 38 [.slice p1 C.length q1, .slice p2 R.length q2, .slice y.1 (addP Q ⟨key,elem,⟨no,sq⟩⟩).length y.2]::.st (sl y.1 y.2 (addP Q ⟨key,elem,⟨no,sq⟩⟩))::.st (sl p1 q1 C)::.st (sl p2 q2 R)::.own br 38 [.slice none 0 0, .slice none 0 0, .slice none 0 0]::[]) rfl (fun w1 hw=>X4b hf.p ht (by omega) hw) ?_
  rintro ⟨p,q⟩
  dsimp only
  refine wz9 ?_
  exact Xac ((p1,q1),(p2,q2),(p,q)) rfl
 ·have e1:stDone ⟨C,R,Q⟩ ⟨3,key,elem,m⟩ ⟨no,sq⟩ gen=⟨C,R,delP Q key elem⟩:=by simp [stDone]
  rw [e1]
  dsimp only
  refine Wf (Xag (k:=3) (by decide)) rfl ?_
  refine JO.reslot 39 (.pointer (some ⟨ba,3,none⟩)) rfl ?_
  refine wz6 ?_
  refine JR.more (Γ':=.own bt 38 [.slice p1 C.length q1, .slice p2 R.length q2, .slice p3 Q.length q3]::.own bo 26 [.int .i64 3, .string key, .string elem, .int .i64 m]::.st (sl p1 q1 C)::.st (sl p2 q2 R)::.st (sl p3 q3 Q)::.own br 38 [.slice none 0 0, .slice none 0 0, .slice none 0 0]::[]) (fun w1 ho=>ho.ent) ?_
  refine Xal (v:=fun _:Option Addr × Nat=>.tuple ⟨[]⟩) (B:=fun y=>.own bt 38 [.slice p1 C.length q1, .slice p2 R.length q2, .slice y.1 (delP Q key elem).length y.2]::.st (sl y.1 y.2 (delP Q key elem))::.st (sl p1 q1 C)::.st (sl p2 q2 R)::.own br 38 [.slice none 0 0, .slice none 0 0, .slice none 0 0]::[]) rfl (fun w1 hw=>X4c hf.p (by omega) hw) ?_
  rintro ⟨p,q⟩
  dsimp only
  refine wz9 ?_
  exact Xac ((p1,q1),(p2,q2),(p,q)) rfl
theorem Hold.start9 {w0:World} {F:Nat→Prop} {A B C D E G H I J:Asn} (h1:A.holds F w0) (h2:B.holds F w0) (h3:C.holds F w0) (h4:D.holds F w0) (h5:E.holds F w0) (h6:G.holds F w0) (h7:H.holds F w0) (h8:I.holds F w0) (h9:J.holds F w0):Hold w0 F [.st A, .st B, .st C, .st D, .st E, .st G, .st H, .st I, .st J] w0 :=
 (((Hold.start6 h4 h5 h6 h7 h8 h9).add (Asn.mono _ _ _ _ (fun k hk=>⟨.inl hk,by simp [free,Fact.owns]⟩) h3)).add (Asn.mono _ _ _ _ (fun k hk=>⟨.inl hk,by simp [free,Fact.owns]⟩) h2)).add (Asn.mono _ _ _ _ (fun k hk=>⟨.inl hk,by simp [free,Fact.owns]⟩) h1)
theorem Held.fine {K:List ByteArray} {R:List Reg_} {Q:List Pair_} {s:State_} (h:Held K R Q s) (fk:∀ k∈K,k.size < 4611686018427387904) (fr:∀ r∈R,Xml r) (fp:∀ p∈Q,Xkk p):fineS s :=
 ⟨fun c hc=>fk _ (h.c c hc),fun r hr=>fr r (h.r r hr),fun p hp=>fp p (h.p p hp)⟩
theorem Xxo (s t u:State_) (K:List ByteArray) (RR:List Reg_) (QQ:List Pair_) (pc pr pp qc qr qp uc ur up:Option Addr) (kc kr kp lc lr lp mc mr mp:Nat) (h1:(sl pc kc s.c).holds F w) (h2:(sl pr kr s.r).holds F w) (h3:(sl pp kp s.p).holds F w)
  (h4:(sl qc lc t.c).holds F w) (h5:(sl qr lr t.r).holds F w) (h6:(sl qp lp t.p).holds F w) (h7:(sl uc mc u.c).holds F w) (h8:(sl ur mr u.r).holds F w) (h9:(sl up mp u.p).holds F w)
  (hs:Held K RR QQ s) (ht:Held K RR QQ t) (hu:Held K RR QQ u) (hK:K.length≤12) (hR:RR.length≤1000) (hQ:QQ.length≤1000) (fk:∀ k∈K,k.size < 4611686018427387904) (fr:∀ r∈RR,Xml r) (fp:∀ p∈QQ,Xkk p) :
  Gives prog 161 [.agg ⟨[.slice pc s.c.length kc, .slice pr s.r.length kr, .slice pp s.p.length kp]⟩, .agg ⟨[.slice qc t.c.length lc, .slice qr t.r.length lr, .slice qp t.p.length lp]⟩, .agg ⟨[.slice uc u.c.length mc, .slice ur u.r.length mr, .slice up u.p.length mp]⟩] w F
   (fun y:Sa=>.tuple ⟨[.agg ⟨stC (stMerge s t u).1 y⟩, .int .i64 (stMerge s t u).2]⟩) (fun y=>stF (stMerge s t u).1 y):=by
 have fs:=hs.fine fk fr fp
 have ft:=ht.fine fk fr fp
 have fu:=hu.fine fk fr fp
 have lt:=ht.lens
 have lu:=hu.lens
 have cs:=hs.c
 have ct:=ht.c
 have cu:=hu.c
 have hm:=ht.may
 clear hs ht hu hm
 obtain ⟨C,R,Q⟩:=s
 obtain ⟨C2,R2,Q2⟩:=t
 obtain ⟨C3,R3,Q3⟩:=u
 dsimp only at h1 h2 h3 h4 h5 h6 h7 h8 h9 lt lu cs ct cu
 refine Xaa func161 rfl ntmps161 rfl rfl [.st (sl pc kc C), .st (sl pr kr R), .st (sl pp kp Q), .st (sl qc lc C2), .st (sl qr lr R2), .st (sl qp lp Q2), .st (sl uc mc C3), .st (sl ur mr R3), .st (sl up mp Q3)] (.start9 h1 h2 h3 h4 h5 h6 h7 h8 h9) ?_
 dsimp only
 (repeat (refine wE ?_; intro _)); refine wA ?_
 rename_i b3 b4 b5 br
 refine JR.callV rfl (fun w1 hw=>Xkl w1 _ ⟨C,R,Q⟩ pc pr pp kc kr kp hw.get hw.get hw.get fs) ?_
 cases m1:Xgq ⟨C,R,Q⟩ with
 | false =>
  rw [show stMerge ⟨C,R,Q⟩ ⟨C2,R2,Q2⟩ ⟨C3,R3,Q3⟩=(st0,1) by unfold stMerge; rw [m1]; rfl]
  refine wz8 ?_
  refine Wf (OpV.build [.slice none 0 0, .slice none 0 0, .slice none 0 0] (by kernel_rfl)) rfl ?_
  refine wz9 ?_
  refine CT.done ((none,0),(none,0),(none,0)) rfl (fun w ho=>?_)
  have h9:=((ho.add (A:=sl (α:=Pair_) none 0 []) Xan).add (A:=sl (α:=Reg_) none 0 []) Xan).add (A:=sl (α:=Ctr_) none 0 []) Xan
  exact (show Hold _ _ [.st (sl (α:=Ctr_) none 0 []), .st (sl (α:=Reg_) none 0 []), .st (sl (α:=Pair_) none 0 [])] w from h9.ent)
 | true =>
 refine wz1 ?_
 refine JR.callV rfl (fun w1 hw=>Xkl w1 _ ⟨C2,R2,Q2⟩ qc qr qp lc lr lp hw.get hw.get hw.get ft) ?_
 cases m2:Xgq ⟨C2,R2,Q2⟩ with
 | false =>
  rw [show stMerge ⟨C,R,Q⟩ ⟨C2,R2,Q2⟩ ⟨C3,R3,Q3⟩=(st0,1) by unfold stMerge; rw [m1,m2]; rfl]
  refine wz8 ?_
  refine Wf (OpV.build [.slice none 0 0, .slice none 0 0, .slice none 0 0] (by kernel_rfl)) rfl ?_
  refine wz9 ?_
  refine CT.done ((none,0),(none,0),(none,0)) rfl (fun w ho=>?_)
  have h9:=((ho.add (A:=sl (α:=Pair_) none 0 []) Xan).add (A:=sl (α:=Reg_) none 0 []) Xan).add (A:=sl (α:=Ctr_) none 0 []) Xan
  exact (show Hold _ _ [.st (sl (α:=Ctr_) none 0 []), .st (sl (α:=Reg_) none 0 []), .st (sl (α:=Pair_) none 0 [])] w from h9.ent)
 | true =>
 refine wz1 ?_
 refine JR.callV rfl (fun w1 hw=>Xkl w1 _ ⟨C3,R3,Q3⟩ uc ur up mc mr mp hw.get hw.get hw.get fu) ?_
 cases m3:Xgq ⟨C3,R3,Q3⟩ with
 | false =>
  rw [show stMerge ⟨C,R,Q⟩ ⟨C2,R2,Q2⟩ ⟨C3,R3,Q3⟩=(st0,1) by unfold stMerge; rw [m1,m2,m3]; rfl]
  refine wz8 ?_
  refine Wf (OpV.build [.slice none 0 0, .slice none 0 0, .slice none 0 0] (by kernel_rfl)) rfl ?_
  refine wz9 ?_
  refine CT.done ((none,0),(none,0),(none,0)) rfl (fun w ho=>?_)
  have h9:=((ho.add (A:=sl (α:=Pair_) none 0 []) Xan).add (A:=sl (α:=Reg_) none 0 []) Xan).add (A:=sl (α:=Ctr_) none 0 []) Xan
  exact (show Hold _ _ [.st (sl (α:=Ctr_) none 0 []), .st (sl (α:=Reg_) none 0 []), .st (sl (α:=Pair_) none 0 [])] w from h9.ent)
 | true =>
 rw [show stMerge ⟨C,R,Q⟩ ⟨C2,R2,Q2⟩ ⟨C3,R3,Q3⟩=(⟨mergeT C C2 C3,Xc6 R2 R3,Xh3 Q Q2 Q3⟩,0) by unfold stMerge; rw [m1,m2,m3]; rfl]
 dsimp only
 refine wz7 ?_
 refine JC.drawP mixed ?_
 refine Xab 0 ?_
 refine JP.tv 1 [.own b3 38 [.slice pc C.length kc, .slice pr R.length kr, .slice pp Q.length kp]] ?_
 refine Xab 2 ?_
 refine JP.tv 3 [.own b4 38 [.slice qc C2.length lc, .slice qr R2.length lr, .slice qp Q2.length lp]] ?_
 refine Xab 4 ?_
 refine JP.tv 5 [.own b5 38 [.slice uc C3.length mc, .slice ur R3.length mr, .slice up Q3.length mp]] ?_
 refine Xab 7 ?_
 refine JP.tv 8 [.own b4 38 [.slice qc C2.length lc, .slice qr R2.length lr, .slice qp Q2.length lp]] ?_
 refine Xab 9 ?_
 refine JP.tv 10 [.own b5 38 [.slice uc C3.length mc, .slice ur R3.length mr, .slice up Q3.length mp]] ?_
 refine Xab 12 ?_
 refine JP.tv 13 [.own b3 38 [.slice pc C.length kc, .slice pr R.length kr, .slice pp Q.length kp]] ?_
 refine Xab 14 ?_
 refine JP.tv 15 [.own b4 38 [.slice qc C2.length lc, .slice qr R2.length lr, .slice qp Q2.length lp]] ?_
 refine Xab 16 ?_
 refine JP.tv 17 [.own b5 38 [.slice uc C3.length mc, .slice ur R3.length mr, .slice up Q3.length mp]] ?_
 refine Xai 6 rfl rfl (JR.callSl rfl (fun w1 hw=>(X2u w1 _ pc qc uc kc lc mc C C2 C3 K hw.get hw.get hw.get hK cs ct cu fk).sl) (fun p1 q1=>Wd (nO ?_)))
 refine Xai 11 rfl rfl (JR.callSl rfl (fun w1 hw=>(X01 w1 _ qr ur lr mr R2 R3 hw.get hw.get ft.r fu.r (by omega)).sl) (fun p2 q2=>Wd (nO ?_)))
 refine Xai 18 rfl rfl (JR.callSl rfl (fun w1 hw=>(Xxm w1 _ pp qp up kp lp mp Q Q2 Q3 hw.get hw.get hw.get fs.p ft.p fu.p (by omega)).sl) (fun p3 q3=>Wd (nO ?_)))
 refine JP.pure 19 rfl (by kernel_rfl) rfl (fun _=>OpV.build [.slice p1 (mergeT C C2 C3).length q1, .slice p2 (Xc6 R2 R3).length q2, .slice p3 (Xh3 Q Q2 Q3).length q3] (by kernel_rfl)) rfl rfl ?_
 refine JP.reslot 6 (.pointer (some ⟨br,0,none⟩)) rfl ?_
 refine Xai 20 rfl rfl (Wi (Wd (nO ?_)))
 refine Xab 21 ?_
 refine JP.nil (by kernel_rfl) ?_
 refine wz13 ?_
 exact Xac ((p1,q1),(p2,q2),(p3,q3)) rfl
section
attribute [local irreducible] Xas
theorem X7f (p:Option Addr) (k:Nat) (f:List ID) (h:(sl p k f).holds F w) (hl:f.length≤10000) :
  GivesV prog 99 [.slice p f.length k] w F (.agg ⟨idc (keyF f)⟩):=by
 have hlen:=Xfp f
 refine Xaa func99 rfl ntmps99 rfl rfl [.st (sl p k f)] (.start1 h) ?_
 refine JC.buf_nil (α:=UInt8) 5 ?_
 (repeat (refine wE ?_; intro _)); refine wA ?_
 rename_i br
 refine JC.reown br ((List.replicate 32 (0:UInt8)).map Xak) (by rw [List.map_replicate]; rfl) ?_
 refine Xcc (fun (i:Nat) (p1:Option Addr) (q1:Nat)=>[(2, .pointer (some ⟨br,0,none⟩)),(3, .slice p1 (idsL (f.take i)).length q1),(6, .slice p f.length k),(7, .int .i64 (f.length:Int)),(8, .int .i64 (i:Int))]) (fun i p1 q1=>[.own br 72 ((List.replicate 32 (0:UInt8)).map Xak), .res (buf p1 q1 5 (idsL (f.take i))), .st (sl p k f)])
  (fun i _ _=>i≤f.length) (fun i _ _=>f.length - i) 0 none 0 (Nat.zero_le _) (by rw [List.take_zero,show idsL []=[] from rfl]; infer_instance) ?_
 intro i p1 q1 hi
 refine wz11 ?_
 refine JC.test (fun hlt=>?_) (fun hge=>?_)
 ·have hlt':i < f.length:=by omega
  refine wz14 ?_
  refine Xcf rfl hlt' ?_
  intro b o
  (repeat (refine wE ?_; intro _)); refine wA ?_
  have hil:=Xfp (f.take i)
  rw [List.length_take] at hil
  refine Wf (Xdl (by decide)) rfl ?_
  refine We rfl ?_
  refine Xen (M:=(f[i]).1) rfl rfl rfl (f[i]).2 (by exact ⟨rfl,rfl,by decide⟩) (by omega) ?_
  intro p3 q3
  refine wz2 ?_
  exact ⟨i+1,p3,q3,by omega,by omega,by rw [Xup _ _ hlt']; infer_instance⟩
 ·obtain rfl:i=f.length:=by omega
  rw [List.take_length]
  refine JC.more (Γ':=.res (buf p1 q1 5 (idsL f))::.own br 72 ((List.replicate 32 (0:UInt8)).map Xak)::.st (sl p k f)::[]) (fun w1 ho=>ho.ent) ?_
  refine JC.more (fun w1 ho=>ho.pub) ?_
  refine wz3 ?_
  refine JR.callV rfl (fun w1 hw=>Xw6 w1 _ p1 q1 (idsL f) hw.get (by omega)) ?_
  refine wz13 ?_
  have hz:((List.replicate 32 (0:UInt8)).map Xak).length=32:=by simp
  refine Xvc (idc (sumI (idsL f))) (Xce _) ⟨by rw [Xce,hz]; exact Nat.le_refl _,by rw [Xce,List.drop_of_length_le (by omega)]; simp⟩ ?_
  refine wz10 ?_
  exact Xac () rfl
abbrev SRow:=(ID × State_) × Sa
def memV (R:List SRow):List (ID × Value):=R.map fun r=>(r.1.1, .agg ⟨stC r.1.2 r.2⟩)
def memO (R:List SRow):Memo:=R.map (·.1)
def stA (s:State_) (a:Sa):List Asn:=[sl a.1.1 a.1.2 s.c,sl a.2.1.1 a.2.1.2 s.r,sl a.2.2.1 a.2.2.2 s.p]
def memA (R:List SRow):Asn where
 holds F w:=∀ r∈R,∀ A∈stA r.1.2 r.2,A.holds F w
 mono F G w h hh:=fun r hr A hA=>A.mono F G w h (hh r hr A hA)
 frame F w w' hk h:=fun r hr A hA=>A.frame F w w' hk (h r hr A hA)
 within F w h:=fun r hr A hA=>A.within F w (h r hr A hA)
def updR (R:List SRow) (k:ID) (s:State_) (a:Sa):List SRow :=
 match R.findIdx? (fun r=>decide (r.1.1=k)) with
 | some i=>R.modify i fun _=>((k,s),a)
 | none=>R++[((k,s),a)]
theorem Xo1 (R:List SRow):(memV R).map (·.1)=(memO R).map (·.1):=by simp [memV,memO,Function.comp_def]
theorem Xll {α β:Type} (f:α→β) (L:List α) (i:Nat) (x:α):(L.modify i fun _=>x).map f=(L.map f).modify i fun _=>f x:=by
 apply List.ext_getElem?
 intro j
 simp only [List.getElem?_map,List.getElem?_modify]
 by_cases h:i=j
 ·subst h; cases L[i]? <;> simp
 ·simp [h]
theorem Xyz (R:List SRow) (k:ID) (s:State_) (a:Sa):memO (updR R k s a)=updS (memO R) k s:=by
 unfold updR updS memO
 rw [List.findIdx?_map]
 simp only [Function.comp_def]
 cases R.findIdx? (fun r=>decide (r.1.1=k)) with
 | none=>simp
 | some i=>simp only [Xll]
theorem Xy0 (R:List SRow) (k:ID) (s:State_) (a:Sa):memV (updR R k s a)=upd (memV R) k (.agg ⟨stC s a⟩):=by
 unfold updR upd plc memV
 rw [List.findIdx?_map]
 simp only [Function.comp_def]
 cases R.findIdx? (fun r=>decide (r.1.1=k)) with
 | none=>simp
 | some i=>simp only [Xll]
theorem X7g {R:List SRow} {k:ID} {s:State_} {a:Sa} {r:SRow} (h:r∈updR R k s a):r∈R∨r=((k,s),a):=by
 unfold updR at h
 split at h
 ·obtain ⟨j,hj,rfl⟩:=List.getElem_of_mem h
  rw [List.getElem_modify]
  split
  ·exact .inr rfl
  ·exact .inl (List.getElem_mem _)
 ·rcases List.mem_append.1 h with h | h
  ·exact .inl h
  ·exact .inr (List.mem_singleton.1 h)
theorem X07 {M:Memo} (h:(M.map (·.1)).Nodup) (k:ID) (s:State_):((updS M k s).map (·.1)).Nodup:=by
 have e:(updS M k s).map (·.1)=addK (M.map (·.1)) k:=by
  unfold updS addK
  cases h:M.findIdx? (fun p=>decide (p.1=k)) with
  | none =>
   have:k∉M.map (·.1):=by
    intro hk
    obtain ⟨p,hp,rfl⟩:=List.mem_map.1 hk
    have:=List.findIdx?_eq_none_iff.1 h p hp
    simp at this
   rw [if_neg this]; simp
  | some i =>
   obtain ⟨h1,h2,h3⟩:=List.findIdx?_eq_some_iff_getElem.1 h
   have hk:M[i].1=k:=by simpa using h2
   rw [if_pos (List.mem_map.2 ⟨M[i],List.getElem_mem h1,hk⟩)]
   simp only [Xll]
   apply List.ext_getElem?
   intro j
   simp only [List.getElem?_map,List.getElem?_modify]
   by_cases hj:i=j
   ·subst hj; rw [List.getElem?_eq_getElem h1]; simp [hk]
   ·simp [hj]
 rw [e]; exact Xcz h k
theorem Yak {R:List SRow} {k:ID}:(getS (memO R) k=none∧Xbl (memV R) k=none)∨∃ r∈R,getS (memO R) k=some r.1.2∧Xbl (memV R) k=some (.agg ⟨stC r.1.2 r.2⟩):=by
 unfold getS Xbl memO memV
 rw [List.find?_map,List.find?_map]
 simp only [Function.comp_def]
 cases h:R.find? (fun r=>decide (r.1.1=k)) with
 | none=>exact .inl ⟨rfl,rfl⟩
 | some r=>exact .inr ⟨r,List.mem_of_find?_eq_some h,rfl,rfl⟩
theorem Yal {F:Nat→Prop} {w:World}:(memA []).holds F w:=fun r hr=>by cases hr
theorem X4d {R:List SRow} {F:Nat→Prop} {w:World} (h:(memA R).holds F w) {r:SRow} (hr:r∈R):(sl r.2.1.1 r.2.1.2 r.1.2.c).holds F w∧(sl r.2.2.1.1 r.2.2.1.2 r.1.2.r).holds F w∧(sl r.2.2.2.1 r.2.2.2.2 r.1.2.p).holds F w :=
 ⟨h r hr _ (by simp [stA]),h r hr _ (by simp [stA]),h r hr _ (by simp [stA])⟩
theorem X4e {R:List SRow} {F:Nat→Prop} {w:World} (h:(memA R).holds F w) {k:ID} {s:State_} {a:Sa} (h1:(sl a.1.1 a.1.2 s.c).holds F w) (h2:(sl a.2.1.1 a.2.1.2 s.r).holds F w) (h3:(sl a.2.2.1 a.2.2.2 s.p).holds F w):(memA (updR R k s a)).holds F w:=by
 intro r hr A hA
 rcases X7g hr with hr | rfl
 ·exact h r hr A hA
 ·simp only [stA,List.mem_cons,List.not_mem_nil,or_false] at hA
  rcases hA with rfl | rfl | rfl
  ·exact h1
  ·exact h2
  ·exact h3
end
end
structure RowP where
 b:Nat
 n:Nat
instance:Cell RowP where
 Ix:=Unit
 sz:=1
 cells r _:=[.slice (some ⟨r.b,0,none⟩) r.n r.n]
 facts _ _:=[]
 len _ _:=rfl
 one r _:=by simp [Value.oneCell']
 pos:=by decide
instance {Γ:List Fact} {b n:Nat}:Typed Γ [.slice (some ⟨b,0,none⟩) n n] (RowP.mk b n):=⟨(),rfl,by simp [Cell.facts]⟩
instance:Cell (List Bool) where
 Ix:=Option Addr × Nat
 sz:=1
 cells l y:=[.slice y.1 l.length y.2]
 facts l y:=[sl y.1 y.2 l]
 len _ _:=rfl
 one l y:=by simp [Value.oneCell']
 pos:=by decide
def Ycf (B:List RowP):List Nat:=B.map RowP.b
def rowsHold (t:TypeId) (B:List RowP) (K:List (List Bool)) (w:World):Prop :=
 B.length=K.length∧∀ i (h:i < B.length) (h':i < K.length),B[i].n=K[i].length∧w.heap[B[i].b]? = some (.cells (K[i].map Value.bool).toArray t (0,0))
theorem rowsHold.keep {t:TypeId} {B:List RowP} {K:List (List Bool)} {w w':World} (h:rowsHold t B K w) (hk:∀ r∈B,r.b < w.heap.size→w'.heap[r.b]? = w.heap[r.b]?):rowsHold t B K w':=by
 refine ⟨h.1,fun i hi hi'=>⟨(h.2 i hi hi').1,?_⟩⟩
 have h1:=(h.2 i hi hi').2
 rw [hk _ (List.getElem_mem hi) (Array.getElem?_eq_some_iff.1 h1).1]
 exact h1
theorem rowsHold.lt {t:TypeId} {B:List RowP} {K:List (List Bool)} {w:World} (h:rowsHold t B K w) {r:RowP} (hr:r∈B):r.b < w.heap.size:=by
 obtain ⟨i,hi,rfl⟩:=List.getElem_of_mem hr
 exact (Array.getElem?_eq_some_iff.1 (h.2 i hi (by have:=h.1; omega)).2).1
def Ybx (t:TypeId) (B:List RowP) (K:List (List Bool)):Res where
 owns k:=∃ r∈B,r.b=k
 holds F w:=(Ycf B).Nodup∧rowsHold t B K w
 keep F G w w' h hF hk:=⟨h.1,h.2.keep fun r hr hlt=>hk r.b hlt (.inr ⟨r,hr,rfl⟩)⟩
 lt F w h k hk:=by obtain ⟨r,hr,rfl⟩:=hk; exact h.2.lt hr
section
variable {P:Program} {n:Nn} {w0:World} {F:Nat→Prop} {ops:Array Oper} {i d:Nat} {t:TypeId} {pos:String} {aft:Array Edge} {g:Option (Nat × Bool)} {os:List Oper} {Q:Cont} {e:E} {Γ:List Fact} [Dr]
theorem Hold.join {w:World} {f g h:Fact} (ho:Hold w0 F (f::g::Γ) w) (hown:∀ k,h.owns k↔f.owns k∨g.owns k) (hs:h.sat (fp w0 F (h::Γ)) w):Hold w0 F (h::Γ) w:=by
 have hfree:∀ k,fp w0 F (f::g::Γ) k→fp w0 F (h::Γ) k:=by
  refine fun k hk=>⟨hk.1,fun f' hf' hown'=>?_⟩
  rcases List.mem_cons.1 hf' with rfl | hf'
  ·rcases (hown k).1 hown' with h1 | h1
   ·exact hk.2 f (by simp) h1
   ·exact hk.2 g (by simp) h1
  ·exact hk.2 f' (by simp [hf']) hown'
 have hp:=List.pairwise_cons.1 ho.dis
 have hp2:=List.pairwise_cons.1 hp.2
 refine ⟨ho.below,fun f' hf'=>?_,?_,?_⟩
 ·rcases List.mem_cons.1 hf' with rfl | hf'
  ·exact hs
  ·exact Fact.sat_keep (ho.sat f' (by simp [hf'])) (fun k hk _=>hfree k hk) (fun _ _ _=>rfl)
 ·refine List.pairwise_cons.2 ⟨fun f' hf' k hk=>?_,hp2.2⟩
  rcases (hown k).1 hk.1 with h1 | h1
  ·exact hp.1 f' (by simp [hf']) k ⟨h1,hk.2⟩
  ·exact hp2.1 f' hf' k ⟨h1,hk.2⟩
 ·intro f' hf' k hk
  rcases List.mem_cons.1 hf' with rfl | hf'
  ·rcases (hown k).1 hk with h1 | h1
   ·exact ho.new f (by simp) k h1
   ·exact ho.new g (by simp) k h1
  ·exact ho.new f' (by simp [hf']) k hk
class HasRows (Γ:List Fact) (bt:outParam TypeId) (B:outParam (List RowP)) (K:outParam (List (List Bool))) (Δ:outParam (List Fact)):Prop where
 ok:Γ.Perm (.res (Ybx bt B K)::Δ)
instance (priority:=100) HasRows.miss {g:Fact} {bt:TypeId} {B:List RowP} {K:List (List Bool)} {Δ:List Fact} [h:HasRows Γ bt B K Δ]:HasRows (g::Γ) bt B K (g::Δ) :=
 ⟨(h.ok.cons g).trans (List.Perm.swap _ g Δ)⟩
instance (priority:=1000) HasRows.hit {bt:TypeId} {B:List RowP} {K:List (List Bool)}:HasRows (.res (Ybx bt B K)::Γ) bt B K Γ:=⟨List.Perm.refl _⟩
end
section
variable {P:Program} {n:Nn} {w0:World} {F:Nat→Prop} {ops:Array Oper} {i d:Nat} {t:TypeId} {pos:String} {aft:Array Edge} {g:Option (Nat × Bool)} {os:List Oper} {Q:Cont} {e:E} {Γ:List Fact}
end
section
attribute [local irreducible] JC JO JR JQ andThen inBlock OpV Gives Xah JM JS
section
attribute [local irreducible] Xas
def get (K:List (List Bool)) (i j:Nat):Bool:=(K.getD i []).getD j false
def Square (n:Nat) (K:List (List Bool)):Prop:=K.length=n∧∀ i (h:i < K.length),K[i].length=n
theorem Square.set {n:Nat} {K:List (List Bool)} (h:Square n K) {i j:Nat} (hi:i < K.length):Square n (K.set i (K[i].set j true)):=by
 refine ⟨by simp [h.1],fun x hx=>?_⟩
 by_cases hxi:x=i
 ·subst hxi; simp [h.2 x hi]
 ·rw [List.getElem_set_ne (Ne.symm hxi)]; exact h.2 x (by simpa using hx)
structure KnowsR (L:List Commit) (K:List (List Bool)):Prop where
 square:Square L.length K
 iff:∀ i j,get K i j=true↔Xyr L i j
section
variable {P:Program} {n:Nn} {w0:World} {F:Nat→Prop} {ops:Array Oper} {i d:Nat} {t:TypeId} {pos:String} {aft:Array Edge} {g:Option (Nat × Bool)} {os:List Oper} {Q:Cont} {e:E} {Γ:List Fact}
end
structure GoodI (L:List Commit) (i:Nat):Prop where
 lt:i < L.length
 merge:merge L[i]=false
 one:oneI L i
 at_:(cids L).findIdx? (fun x=>decide (x=idC L[i]))=some i
 ev:∀ j,j < i→evI L i j
instance:Cell Nat where
 Ix:=Unit
 sz:=1
 cells n _:=[natV n]
 facts _ _:=[]
 len _ _:=rfl
 one _ _:=One.ok
 pos:=by decide
instance {Γ:List Fact} {n:Nat}:Typed Γ [natV n] n:=⟨(),rfl,by simp [Cell.facts]⟩
instance {Γ:List Fact} {n:Nat}:Typed Γ [.int .i64 (n:Int)] n:=⟨(),rfl,by simp [Cell.facts]⟩
section
variable {P:Program} {n:Nn} {w0:World} {F:Nat→Prop} {ops:Array Oper} {i d:Nat} {t:TypeId} {pos:String} {aft:Array Edge} {g:Option (Nat × Bool)} {os:List Oper} {Q:Cont} {e:E} {Γ:List Fact}
end
theorem X4f {a b c:Commit} (h1:leS a b) (h2:leS b c):leS a c:=by
 rcases h1 with h1 | ⟨h1,h3⟩ <;> rcases h2 with h2 | ⟨h2,h4⟩
 ·exact .inl (by omega)
 ·exact .inl (by omega)
 ·exact .inl (by omega)
 ·exact .inr ⟨by omega,Xk5 h3 h4⟩
def atC (L:List Commit) (i:Nat):Commit:=L.getD i commit0
structure Ins (L:List Commit) (i:Nat) (O:List Nat):Prop where
 perm:O.Perm (List.range i)
 sorted:O.Pairwise (fun x y=>leS (atC L x) (atC L y))
theorem Ins.length {L:List Commit} {i:Nat} {O:List Nat} (h:Ins L i O):O.length=i:=by rw [h.perm.length_eq,List.length_range]
theorem Ins.lt {L:List Commit} {i:Nat} {O:List Nat} (h:Ins L i O) {j:Nat} (hj:j < O.length):O[j] < i:=List.mem_range.1 (h.perm.mem_iff.1 (List.getElem_mem hj))
theorem Ins.next {L:List Commit} {i:Nat} {O:List Nat} (h:Ins L i O) (at_:Nat) (hle:at_≤O.length) (hup:∀ j (hj:j < O.length),at_≤j→leS (atC L i) (atC L O[j]))
  (hdn:∀ (h0:0 < at_),leS (atC L (O[at_ - 1]'(by omega))) (atC L i)):Ins L (i+1) (O.take at_++[i]++O.drop at_):=by
 refine ⟨?_,?_⟩
 ·rw [List.range_succ,List.append_assoc]
  refine List.Perm.trans ((List.perm_append_comm (l₁:=[i]) (l₂:=O.drop at_)).append_left _) ?_
  rw [← List.append_assoc,List.take_append_drop]
  exact h.perm.append_right _
 ·have hs2:(O.take at_++O.drop at_).Pairwise (fun x y=>leS (atC L x) (atC L y)):=by rw [List.take_append_drop]; exact h.sorted
  rw [List.pairwise_append] at hs2
  rw [List.append_assoc,List.pairwise_append]
  refine ⟨hs2.1,?_,?_⟩
  ·rw [List.singleton_append,List.pairwise_cons]
   refine ⟨fun y hy=>?_,hs2.2.1⟩
   obtain ⟨j,hj,rfl⟩:=List.getElem_of_mem hy
   rw [List.length_drop] at hj
   rw [List.getElem_drop]
   exact hup _ (by omega) (by omega)
  ·intro y hy z hz
   rcases List.mem_append.1 hz with hz | hz
   ·rw [List.mem_singleton.1 hz]
    obtain ⟨j,hj,rfl⟩:=List.getElem_of_mem hy
    rw [List.length_take] at hj
    have h0:0 < at_:=by omega
    rw [List.getElem_take]
    by_cases hja:j=at_ - 1
    ·subst hja; exact hdn h0
    ·exact X4f (List.pairwise_iff_getElem.1 h.sorted j (at_ - 1) (by omega) (by omega) (by omega)) (hdn h0)
   ·exact hs2.2.2 y hy z hz
end
section
attribute [local irreducible] Xas idA l0 l1 ents
theorem Xo2 {L:List Commit} {b c:Bool} (h:b=true↔Closed L) (k:c=true↔Closed L):b=c:=Bool.eq_iff_iff.2 (h.trans k.symm)
theorem PartR.unique {L:List Commit} {A:List ID} {M N:List Commit} (h:PartR L A M) (k:PartR L A N):M=N:=by
 by_cases hc:Closed L
 ·rw [h.part hc,k.part hc]
 ·rw [h.not hc,k.not hc]
theorem SortedR.unique {L M N:List Commit} (h:SortedR L M) (k:SortedR L N):M=N:=by
 by_cases hc:Closed L
 ·exact Xp0 hc.nodup (h.perm hc) (k.perm hc) (h.sorted hc) (k.sorted hc)
 ·rw [h.not hc,k.not hc]
theorem Xdj (a:Option Addr) (k:Nat) (L:List Commit) (b:Bool) (h:(sl a k L).holds F w) (hl:L.length≤1000) (hf:∀ x∈L,fine x) (hb:b=true↔Closed L) :
  GivesV prog 17 [.slice a L.length k] w F (.bool b):=by
 have h0:=Xlg w F a k L h (by omega) hf
 unfold Gives at h0
 unfold GivesV Gives
 refine Calls.mono h0 ?_
 rintro e w' ⟨y,rfl,h1,hB⟩
 refine ⟨(),?_,h1,hB⟩
 have:=Xo2 y.2 hb
 dsimp only
 rw [this]
theorem X4g (a d:Option Addr) (k m:Nat) (L M:List Commit) (A:List ID) (h:(sl a k L).holds F w) (h':(sl d m A).holds F w) (hl:L.length≤1000) (hf:∀ x∈L,fine x) (hM:PartR L A M) :
  Xdd prog 94 [.slice a L.length k, .slice d A.length m] w F M:=by
 have h0:=X6x w F a d k m L A h h' hl hf
 unfold Gives at h0
 unfold Xdd Gives
 refine Calls.mono h0 ?_
 rintro e w' ⟨⟨⟨N,p,q⟩,hN⟩,rfl,hb,hB⟩
 have:N=M:=hN.unique hM
 subst this
 exact ⟨(p,q),rfl,hb,hB⟩
end
section
attribute [local irreducible] Xas
structure EvL (L:List Commit):Prop where
 closed:Closed L
 len:L.length≤11
 fine:∀ x∈L,fine x
theorem EvL.fk {L:List Commit} (h:EvL L):∀ k∈X3r L,k.size < 4611686018427387904:=fun k hk=>by
 obtain ⟨c,hc,rfl⟩:=List.mem_map.1 hk; exact (h.fine c hc).1.1
theorem EvL.fr {L:List Commit} (h:EvL L):∀ r∈X3s L,Xml r:=fun k hk=>by
 obtain ⟨c,hc,rfl⟩:=List.mem_map.1 hk; exact (h.fine c hc).1
theorem EvL.fp {L:List Commit} (h:EvL L):∀ p∈Xu6 L,Xkk p:=fun k hk=>by
 obtain ⟨c,hc,rfl⟩:=List.mem_map.1 hk; exact (h.fine c hc).1
theorem EvL.lens {L:List Commit} (h:EvL L) {s:State_} (hs:Xlj L s):s.c.length≤11∧s.r.length≤1000∧s.p.length≤1000:=by
 have h1:=hs.lens
 have h2:=h.len
 simp only [X3r,X3s,Xu6,List.length_map] at h1
 omega
theorem EvL.find {L:List Commit} (h:EvL L) (x:ID):Xmq (Xei L x).1∧(Xei L x).1.parents.length≤8:=by
 rcases X3t L x with hm | hm
 ·refine ⟨(h.fine _ hm).1,?_⟩
  have:=h.closed.may _ hm
  unfold may at this
  split at this
  ·cases this
  ·rename_i hx
   simp only [Bool.or_eq_true,not_or,decide_eq_true_eq] at hx
   omega
 ·rw [hm]; exact ⟨⟨by decide,by decide⟩,by decide⟩
abbrev EvY (M:Memo):=Sa × { R:List SRow // memO R=M }
def OfC (L:List Commit) (a:Option Addr) (k bw bm:Nat) (of:OfT):Prop :=
 ∀ (w0 w:World) (F:Nat→Prop) (Γ:List Fact) (R:List SRow) (p:Option Addr) (q:Nat) (f:List ID) (u:State_ × Memo),of (memO R) f=some u→Xmt L (memO R)→((memO R).map (·.1)).Nodup→f.length≤500 →
  Hold w0 F (.own bw 83 [.slice a L.length k, .map (some bm)]::.omap bm (ents idV (memV R)) (memV R).length::.st (memA R)::.st (sl a k L)::.st (sl p q f)::Γ) w→Calls prog 43 ⟨[.pointer (some ⟨bw,0,none⟩), .slice p f.length q]⟩ w fun x w'=>∃ y:EvY u.2,x = .returned (.agg ⟨stC u.1 y.1⟩) ∧
   Hold w0 F (.own bw 83 [.slice a L.length k, .map (some bm)]::.omap bm (ents idV (memV y.2.1)) (memV y.2.1).length::.st (memA y.2.1)::.st (sl a k L)::.st (sl y.1.1.1 y.1.1.2 u.1.c)::.st (sl y.1.2.1.1 y.1.2.1.2 u.1.r)::.st (sl y.1.2.2.1 y.1.2.2.2 u.1.p)::Γ) w'
theorem X7h {L:List Commit} (hL:EvL L) {a:Option Addr} {k bw bm:Nat} {of:OfT} (ih:OfC L a k bw bm of) (hh:X3v L of) {w0 w:World} {F:Nat→Prop} {Γ:List Fact} {R:List SRow} (x:ID) (u:State_ × Memo) (hu:oneF of L (memO R) x=some u) (hM:Xmt L (memO R)) (hn:((memO R).map (·.1)).Nodup)
  (ho:Hold w0 F (.own bw 83 [.slice a L.length k, .map (some bm)]::.omap bm (ents idV (memV R)) (memV R).length::.st (memA R)::.st (sl a k L)::Γ) w):Calls prog 100 ⟨[.pointer (some ⟨bw,0,none⟩), .agg ⟨idc x⟩]⟩ w fun r w'=>∃ y:EvY u.2,r = .returned (.agg ⟨stC u.1 y.1⟩) ∧
   Hold w0 F (.own bw 83 [.slice a L.length k, .map (some bm)]::.omap bm (ents idV (memV y.2.1)) (memV y.2.1).length::.st (memA y.2.1)::.st (sl a k L)::.st (sl y.1.1.1 y.1.1.2 u.1.c)::.st (sl y.1.2.1.1 y.1.2.1.2 u.1.r)::.st (sl y.1.2.2.1 y.1.2.2.2 u.1.p)::Γ) w':=by
 obtain ⟨htx,hpl⟩:=hL.find x
 have hfind:=fun (w1:World) (G:Nat→Prop) (h:(sl a k L).holds G w1)=>X6r w1 G a k L x h hL.fine
 have hheld:=fun s (h:Xlj L s)=>X3u h x
 unfold oneF at hu
 have hll:=hL.len
 generalize (Xei L x).2=fb at hfind
 generalize (Xei L x).1=c at hu htx hpl hheld hfind
 obtain ⟨⟨s,M1⟩,hu1,rfl⟩:=Option.map_eq_some_iff.1 hu
 obtain ⟨hs,hM1⟩:=hh _ _ _ hu1 hM
 obtain ⟨lc,lr,lp⟩:=hL.lens hs
 have hfs:=hs.fine hL.fk hL.fr hL.fp
 dsimp only at hs hM1 lc lr lp hfs
 clear hu hheld
 dsimp only
 refine Xa4 (v:=fun y:EvY M1=>.agg ⟨stC (stDo s c.op c.ev c.gen).1 y.1⟩) (B:=fun y=>.own bw 83 [.slice a L.length k, .map (some bm)]::.omap bm (ents idV (memV y.2.1)) (memV y.2.1).length::.st (memA y.2.1)::.st (sl a k L)::.st (sl y.1.1.1 y.1.1.2 (stDo s c.op c.ev c.gen).1.c)::.st (sl y.1.2.1.1 y.1.2.1.2 (stDo s c.op c.ev c.gen).1.r)::.st (sl y.1.2.2.1 y.1.2.2.2 (stDo s c.op c.ev c.gen).1.p)::Γ)
  func100 rfl ntmps100 rfl rfl _ ho ?_
 (repeat (refine wE ?_; intro _)); refine wA ?_
 rename_i bx br
 refine Xdz (fun y:Nat × Option Addr × Nat=>[(0, .pointer (some ⟨bw,0,none⟩)),(4, .pointer (some ⟨br,0,none⟩)),(5, .pointer (some ⟨y.1,0,none⟩))]) (fun y=>.own bw 83 [.slice a L.length k, .map (some bm)]::.omap bm (ents idV (memV R)) (memV R).length::.st (memA R)::.st (sl a k L)::.st (sl y.2.1 y.2.2 c.parents)::.own y.1 31 [.int .i64 c.ev.node, .int .i64 c.ev.seq, .int .i64 c.gen, .slice y.2.1 c.parents.length y.2.2, .int .i64 c.op.kind, .string c.op.key, .string c.op.elem, .int .i64 c.op.n]::.own br 38 [.slice none 0 0, .slice none 0 0, .slice none 0 0]::Γ) ?_ ?_
 ·refine JC.drawP mixed ?_
  refine Xab 0 ?_
  refine Xab 1 ?_
  refine Xab 2 ?_
  refine JP.tv 3 [.own bw 83 [.slice a L.length k, .map (some bm)]] ?_
  refine JP.tv 4 [.own bx 72 (idc x)] ?_
  refine JP.both 5 9 (by kernel_rfl) rfl rfl rfl rfl (JR.call (v:=fun y:Option Addr × Nat=>.tuple ⟨[Xap c y.1 y.2, .bool fb]⟩) rfl (fun w1 hw=>hfind w1 _ hw.get) (fun y=>Wd (nO ?_))) (Wg rfl (fun bc=>Wd (nO ?_)))
  ·obtain ⟨pc,qc⟩:=y
   dsimp only [List.cons_append,List.nil_append]
   refine Xab 6 ?_
   refine Xab 7 ?_
   refine Xab 8 ?_
   refine Xai 9 rfl rfl (Wg rfl (fun bc=>Wd (nO ?_)))
   refine JP.reslot 5 (.pointer (some ⟨bc,0,none⟩)) rfl ?_
   refine Xai 10 rfl rfl (Wi (Wd (nO ?_)))
   refine Xab 11 ?_
   refine JP.nil (by kernel_rfl) ?_
   exact ⟨rfl,(bc,pc,qc),iI⟩
  ·refine Xai 5 rfl rfl (JR.call (v:=fun y:Option Addr × Nat=>.tuple ⟨[Xap c y.1 y.2, .bool fb]⟩) rfl (fun w1 hw=>hfind w1 _ hw.get) (fun y=>Wd (nO ?_)))
   obtain ⟨pc,qc⟩:=y
   dsimp only [List.cons_append,List.nil_append]
   refine Xab 6 ?_
   refine Xab 7 ?_
   refine Xab 8 ?_
   refine JP.reslot 5 (.pointer (some ⟨bc,0,none⟩)) rfl ?_
   refine Xai 10 rfl rfl (Wi (Wd (nO ?_)))
   refine Xab 11 ?_
   refine JP.nil (by kernel_rfl) ?_
   exact ⟨rfl,(bc,pc,qc),iI⟩
 rintro ⟨bc,pc,qc⟩
 dsimp only
 refine wz14 ?_
 refine JC.drawP mixed ?_
 refine Xab 0 ?_
 refine Xab 1 ?_
 refine JP.tv 2 [.own bc 31 [.int .i64 c.ev.node, .int .i64 c.ev.seq, .int .i64 c.gen, .slice pc c.parents.length qc, .int .i64 c.op.kind, .string c.op.key, .string c.op.elem, .int .i64 c.op.n]] ?_
 refine Xab 4 ?_
 refine JP.tv 5 [.own bc 31 [.int .i64 c.ev.node, .int .i64 c.ev.seq, .int .i64 c.gen, .slice pc c.parents.length qc, .int .i64 c.op.kind, .string c.op.key, .string c.op.elem, .int .i64 c.op.n]] ?_
 refine Xab 6 ?_
 refine JP.tv 7 [.own bc 31 [.int .i64 c.ev.node, .int .i64 c.ev.seq, .int .i64 c.gen, .slice pc c.parents.length qc, .int .i64 c.op.kind, .string c.op.key, .string c.op.elem, .int .i64 c.op.n]] ?_
 refine Xab 8 ?_
 refine JP.tv 9 [.own bc 31 [.int .i64 c.ev.node, .int .i64 c.ev.seq, .int .i64 c.gen, .slice pc c.parents.length qc, .int .i64 c.op.kind, .string c.op.key, .string c.op.elem, .int .i64 c.op.n]] ?_
 refine JP.more (Γ':=.own bw 83 [.slice a L.length k, .map (some bm)]::.omap bm (ents idV (memV R)) (memV R).length::.st (memA R)::.st (sl a k L)::.st (sl pc qc c.parents)::.own bc 31 [.int .i64 c.ev.node, .int .i64 c.ev.seq, .int .i64 c.gen, .slice pc c.parents.length qc, .int .i64 c.op.kind, .string c.op.key, .string c.op.elem, .int .i64 c.op.n]::.own br 38 [.slice none 0 0, .slice none 0 0, .slice none 0 0]::Γ) (fun w1 ho=>ho.ent) ?_
 refine JP.both 3 14 (by kernel_rfl) rfl rfl rfl rfl (Xal (v:=fun y:EvY M1=>.agg ⟨stC s y.1⟩) (B:=fun y=>.own bw 83 [.slice a L.length k, .map (some bm)]::.omap bm (ents idV (memV y.2.1)) (memV y.2.1).length::.st (memA y.2.1)::.st (sl a k L)::.st (sl y.1.1.1 y.1.1.2 s.c)::.st (sl y.1.2.1.1 y.1.2.1.2 s.r)::.st (sl y.1.2.2.1 y.1.2.2.2 s.p)::.own bc 31 [.int .i64 c.ev.node, .int .i64 c.ev.seq, .int .i64 c.gen, .slice pc c.parents.length qc, .int .i64 c.op.kind, .string c.op.key, .string c.op.elem, .int .i64 c.op.n]::.own br 38 [.slice none 0 0, .slice none 0 0, .slice none 0 0]::Γ) rfl (fun w1 hw=>ih _ _ _ (.own bc 31 [.int .i64 c.ev.node, .int .i64 c.ev.seq, .int .i64 c.gen, .slice pc c.parents.length qc, .int .i64 c.op.kind, .string c.op.key, .string c.op.elem, .int .i64 c.op.n]::.own br 38 [.slice none 0 0, .slice none 0 0, .slice none 0 0]::Γ) R pc qc c.parents (s,M1) hu1 hM hn (by omega) hw) (fun y=>Wd (nO ?_))) (Wg rfl (fun bs=>Wd (nO ?_)))
 ·obtain ⟨⟨⟨ac,kc⟩,⟨ar,kr⟩,⟨ap,kp⟩⟩,⟨R2,hR2⟩⟩:=y
  dsimp only [stC]
  refine JP.both 10 14 (by kernel_rfl) rfl rfl rfl rfl (JR.call (v:=fun y:Sa=>.tuple ⟨[.agg ⟨stC (stDo s c.op c.ev c.gen).1 y⟩, .int .i64 (stDo s c.op c.ev c.gen).2]⟩) rfl (fun w1 hw=>Xsy w1 _ s c.op c.ev c.gen ac ar ap kc kr kp hw.get hw.get hw.get hfs htx lc (by omega) (by omega)) (fun z=>Wd (nO ?_))) (Wg rfl (fun bs=>Wd (nO ?_)))
  ·obtain ⟨⟨zc,jc⟩,⟨zr,jr⟩,⟨zp,jp⟩⟩:=z
   dsimp only [stC,stF,List.cons_append,List.nil_append]
   refine Xab 11 ?_
   refine Xab 12 ?_
   refine Xab 13 ?_
   refine Xai 14 rfl rfl (Wg rfl (fun bs=>Wd (nO ?_)))
   refine JP.reslot 7 (.pointer (some ⟨bs,0,none⟩)) rfl ?_
   refine Xai 15 rfl rfl (Wi (Wd (nO ?_)))
   refine Xab 16 ?_
   refine JP.nil (by kernel_rfl) ?_
   refine wz9 ?_
   exact Xac (((zc,jc),(zr,jr),(zp,jp)),⟨R2,hR2⟩) rfl
  ·refine Xai 10 rfl rfl (JR.call (v:=fun y:Sa=>.tuple ⟨[.agg ⟨stC (stDo s c.op c.ev c.gen).1 y⟩, .int .i64 (stDo s c.op c.ev c.gen).2]⟩) rfl (fun w1 hw=>Xsy w1 _ s c.op c.ev c.gen ac ar ap kc kr kp hw.get hw.get hw.get hfs htx lc (by omega) (by omega)) (fun z=>Wd (nO ?_)))
   obtain ⟨⟨zc,jc⟩,⟨zr,jr⟩,⟨zp,jp⟩⟩:=z
   dsimp only [stC,stF,List.cons_append,List.nil_append]
   refine Xab 11 ?_
   refine Xab 12 ?_
   refine Xab 13 ?_
   refine JP.reslot 7 (.pointer (some ⟨bs,0,none⟩)) rfl ?_
   refine Xai 15 rfl rfl (Wi (Wd (nO ?_)))
   refine Xab 16 ?_
   refine JP.nil (by kernel_rfl) ?_
   refine wz9 ?_
   exact Xac (((zc,jc),(zr,jr),(zp,jp)),⟨R2,hR2⟩) rfl
 ·refine JP.more (Γ':=.own bw 83 [.slice a L.length k, .map (some bm)]::.omap bm (ents idV (memV R)) (memV R).length::.st (memA R)::.st (sl a k L)::.st (sl pc qc c.parents)::.own bs 38 [.slice none 0 0, .slice none 0 0, .slice none 0 0]::.own bc 31 [.int .i64 c.ev.node, .int .i64 c.ev.seq, .int .i64 c.gen, .slice pc c.parents.length qc, .int .i64 c.op.kind, .string c.op.key, .string c.op.elem, .int .i64 c.op.n]::.own br 38 [.slice none 0 0, .slice none 0 0, .slice none 0 0]::Γ) (fun w1 ho=>ho.ent) ?_
  refine Xai 3 rfl rfl (Xal (v:=fun y:EvY M1=>.agg ⟨stC s y.1⟩) (B:=fun y=>.own bw 83 [.slice a L.length k, .map (some bm)]::.omap bm (ents idV (memV y.2.1)) (memV y.2.1).length::.st (memA y.2.1)::.st (sl a k L)::.st (sl y.1.1.1 y.1.1.2 s.c)::.st (sl y.1.2.1.1 y.1.2.1.2 s.r)::.st (sl y.1.2.2.1 y.1.2.2.2 s.p)::.own bs 38 [.slice none 0 0, .slice none 0 0, .slice none 0 0]::.own bc 31 [.int .i64 c.ev.node, .int .i64 c.ev.seq, .int .i64 c.gen, .slice pc c.parents.length qc, .int .i64 c.op.kind, .string c.op.key, .string c.op.elem, .int .i64 c.op.n]::.own br 38 [.slice none 0 0, .slice none 0 0, .slice none 0 0]::Γ) rfl (fun w1 hw=>ih _ _ _ (.own bs 38 [.slice none 0 0, .slice none 0 0, .slice none 0 0]::.own bc 31 [.int .i64 c.ev.node, .int .i64 c.ev.seq, .int .i64 c.gen, .slice pc c.parents.length qc, .int .i64 c.op.kind, .string c.op.key, .string c.op.elem, .int .i64 c.op.n]::.own br 38 [.slice none 0 0, .slice none 0 0, .slice none 0 0]::Γ) R pc qc c.parents (s,M1) hu1 hM hn (by omega) hw) (fun y=>Wd (nO ?_)))
  obtain ⟨⟨⟨ac,kc⟩,⟨ar,kr⟩,⟨ap,kp⟩⟩,⟨R2,hR2⟩⟩:=y
  dsimp only [stC]
  refine Xai 10 rfl rfl (JR.call (v:=fun y:Sa=>.tuple ⟨[.agg ⟨stC (stDo s c.op c.ev c.gen).1 y⟩, .int .i64 (stDo s c.op c.ev c.gen).2]⟩) rfl (fun w1 hw=>Xsy w1 _ s c.op c.ev c.gen ac ar ap kc kr kp hw.get hw.get hw.get hfs htx lc (by omega) (by omega)) (fun z=>Wd (nO ?_)))
  obtain ⟨⟨zc,jc⟩,⟨zr,jr⟩,⟨zp,jp⟩⟩:=z
  dsimp only [stC,stF,List.cons_append,List.nil_append]
  refine Xab 11 ?_
  refine Xab 12 ?_
  refine Xab 13 ?_
  refine JP.reslot 7 (.pointer (some ⟨bs,0,none⟩)) rfl ?_
  refine Xai 15 rfl rfl (Wi (Wd (nO ?_)))
  refine Xab 16 ?_
  refine JP.nil (by kernel_rfl) ?_
  refine wz9 ?_
  exact Xac (((zc,jc),(zr,jr),(zp,jp)),⟨R2,hR2⟩) rfl
end
end
section
variable {P:Program} {n:Nn} {w0:World} {F:Nat→Prop} {t:TypeId} {pos:String} {aft:Array Edge} {g:Option (Nat × Bool)} {e:E} {Γ:List Fact}
theorem Xvf [Dr] {x hi' mx:Operand} {a0:Option Addr} {m c k:Nat} {kk k2:IntKind} {j j2:Int} {ty el:TypeId} {ed:TypeDesc} {sz by_ es eb:Nat} {z ez:Value} {d:Option Nat}
  [hx:Ev e x (.slice a0 m c)] [hi:Ev e hi' (.int kk j)] [hm:Ev e mx (.int k2 j2)] [hk:NatI j k] [hk2:NatI j2 k] [hT:Ty P ty (.slice el) sz by_ z] [hE:Ty P el ed es eb ez] (h:∀ w,Hold w0 F Γ w→k≤c) :
  OpV P n w0 F ⟨d, .slice ty x none (some hi') (some mx),t,pos,aft,g⟩ e Γ (.slice a0 k k) :=
 fun a w fr ho=>by
  have hlc:=h w ho
  have h1:=Xav (P:=P) (t:=ty) w
  have h2:=Xbf (P:=P) (t:=el) w
  have hj:=hk.ok
  have hj2:=hk2.ok
  subst hj hj2
  have hb:(Instr.sliceBound (.int k2 (k:Int)) c .slice3Acap).run P w = .ok k w:=by
   simp [Instr.sliceBound,asIntOf]
   omega
  have hb2:(Instr.sliceBound (.int kk (k:Int)) k .slice3B).run P w = .ok k w:=by
   simp [Instr.sliceBound,asIntOf]
  simp [execOp,hx.ok n a fr,hi.ok n a fr,hm.ok n a fr,Instr.sliceAt,Instr.slice,h1,h2,Instr.sliceBounds,hb,hb2]
  by_cases hc0:k=0
  ·simp [hc0]
  ·cases a0 with
   | none=>simp
   | some a1=>simp [Addr.add]
end
section
attribute [local irreducible] JC JO JR JQ andThen inBlock OpV Gives Xah JM JS
section
attribute [local irreducible] Xas idA l0 l1 ents
theorem X4h {L:List Commit} {i:Nat} (h:i < L.length):topL (L.take (i+1))=max (topL (L.take i)) L[i].gen:=by
 simp only [topL,List.take_succ_eq_append_getElem h,List.foldl_append,List.foldl_cons,List.foldl_nil]
theorem Xo3 {c:Commit} (h:may c=true):c.parents.length≤8:=by
 unfold may at h
 split at h
 ·cases h
 ·rename_i hn
  simp only [Bool.or_eq_true,not_or,decide_eq_true_eq] at hn
  omega
theorem Xjn:∀ {L:List Commit},(∀ c∈L,may c=true)→(Xbo L).length≤8 * L.length
 | [],_=>by simp [Xbo]
 | c::L,h=>by
  have h1:=Xjn (L:=L) fun d hd=>h d (by simp [hd])
  have h2:=Xo3 (h c (by simp))
  simp only [Xbo,List.flatMap_cons,List.length_append,List.length_cons] at h1 ⊢
  omega
theorem X4i (a:Option Addr) (k:Nat) (L:List Commit) (h:(sl a k L).holds F w) :
  GivesV prog 39 [.slice a L.length k] w F (.int .i64 (topL L)):=by
 have hL:L.length < 9223372036854775807:=by have:=h.2.2.1; simp only [lim] at this; omega
 refine Xaa func39 rfl ntmps39 rfl rfl [.st (sl a k L)] (.start1 h) ?_
 refine wz4 ?_
 refine Xao (fun i:Nat=>[(3, .int .i64 (topL (L.take i))),(6, .slice a L.length k),(7, .int .i64 (L.length:Int)),(8, .int .i64 (i:Int))]) (fun i=>[.st (sl a k L)]) (fun i=>i≤L.length) (fun i=>L.length - i) 0 (Nat.zero_le _) (by rw [List.take_zero,show topL []=0 from rfl]; infer_instance) ?_
 intro i hi
 refine wz11 ?_
 refine JC.test (fun hlt=>?_) (fun hge=>?_)
 ·have hlt':i < L.length:=by omega
  refine wz14 ?_
  refine Xaq rfl hlt' ?_
  intro b1 o1 p1 q1
  (repeat (refine wE ?_; intro _)); refine wA ?_
  refine Wf OpV.max rfl ?_
  refine wz2 ?_
  exact ⟨i+1,by omega,by omega,by rw [X4h hlt']; infer_instance⟩
 ·obtain rfl:i=L.length:=by omega
  rw [List.take_length]
  refine wz3 ?_
  exact Xac () rfl
theorem Xo4 (a:Option Addr) (k:Nat) (L:List Commit) (h:(sl a k L).holds F w) (hl:L.length≤1000) (hf:∀ x∈L,fine x) :
  Xdd prog 40 [.slice a L.length k] w F (frontF L):=by
 refine Xaa func40 rfl ntmps40 rfl rfl [.st (sl a k L)] (.start1 h) ?_
 refine wz10 ?_
 refine JR.callV rfl (fun w1 hw=>Xdj w1 _ a k L (closedB L) hw.get (by omega) hf Xbj) ?_
 cases hb:closedB L with
 | false =>
  refine wz8 ?_
  rw [Xu2 (fun hc=>by rw [Xbk hc] at hb; cases hb)]
  exact CT.done (none,0) rfl (fun w ho=>(ho.ent:Hold _ _ [] w).add Xan)
 | true =>
 have hc:=Xbj.1 hb
 have hpl:=Xjn hc.may
 refine wA ?_
 refine JC.buf_nil (α:=ID) 72 ?_
 refine Xcc (fun (i:Nat) p q=>[(0, .slice a L.length k),(3, .slice p (Xbo (L.take i)).length q),(9, .slice a L.length k),(10, .int .i64 (L.length:Int)),(11, .int .i64 (i:Int))])
  (fun i p q=>[.res (buf p q 72 (Xbo (L.take i))), .st (sl a k L)]) (fun i _ _=>i≤L.length) (fun i _ _=>L.length - i) 0 none 0 (Nat.zero_le _) (by rw [List.take_zero,show Xbo []=[] from rfl]; infer_instance) ?_
 intro i p q hi
 refine wz11 ?_
 refine JC.test (fun hlt=>?_) (fun hge=>?_)
 ·have hlt':i < L.length:=by omega
  have h2:=Xon L (i+1)
  rw [Xe8 L i hlt',List.length_append] at h2
  refine wz14 ?_
  refine Xaq rfl hlt' ?_
  intro b1 o1 p1 q1
  (repeat (refine wE ?_; intro _)); refine wA ?_
  refine Xbc rfl (by exact ⟨rfl,rfl,by decide⟩) (by omega) ?_
  intro r s
  refine wz2 ?_
  exact ⟨i+1,r,s,by omega,by omega,by rw [Xe8 L i hlt']; infer_instance⟩
 ·obtain rfl:i=L.length:=by omega
  rw [List.take_length]
  refine JC.more (fun w1 ho=>ho.pub) ?_
  refine wz3 ?_
  refine JR.callSl (L:=cids L) rfl (fun w1 hw=>by have:=Xxb w1 _ a k L hw.get (by omega) hf; rwa [Xhj hc.may] at this) ?_
  intro a1 k1
  refine wz6 ?_
  refine JR.callBuf rfl (fun w1 hw=>Xjh w1 _ a1 p k1 q (cids L) (Xbo L) hw.get hw.get (by rw [Xcx]; omega)) ?_
  intro a2 k2
  refine JO.more (fun w1 ho=>ho.pub) ?_
  refine wz10 ?_
  have e1:frontF L=Xb3 (cids L) (Xbo L) false:=by rw [frontF,hb]; rfl
  rw [e1]
  exact Xac (a2,k2) rfl
theorem X08 (a b d:Option Addr) (k m n:Nat) (L:List Commit) (A B:List ID) (h:(sl a k L).holds F w) (h':(sl b m A).holds F w) (h2:(sl d n B).holds F w) (hl:L.length≤1000) (hA:A.length≤1000) (hB:B.length≤1000) (hf:∀ x∈L,fine x) :
  Xdd prog 160 [.slice a L.length k, .slice b A.length m, .slice d B.length n] w F (baseF L A B):=by
 have hx:=X99 (Xif L A)
 refine Xaa func160 rfl ntmps160 rfl rfl [.st (sl a k L), .st (sl b m A), .st (sl d n B)] (.start3 h h' h2) ?_
 refine wz10 ?_
 refine JR.callSl (L:=ancF L A) rfl (fun w1 hw=>X8o w1 _ a b k m L A _ hw.get hw.get (by omega) (by omega) hf (Xif L A)) ?_
 intro a1 k1
 refine wz6 ?_
 refine JR.callSl (L:=ancF L B) rfl (fun w1 hw=>X8o w1 _ a d k n L B _ hw.get hw.get (by omega) (by omega) hf (Xif L B)) ?_
 intro a2 k2
 refine wz13 ?_
 refine JR.callBuf rfl (fun w1 hw=>X0n w1 _ a1 a2 k1 k2 (ancF L A) (ancF L B) hw.get hw.get (by omega)) ?_
 intro a4 k4
 refine JO.more (fun w1 ho=>ho.pub) ?_
 refine wz10 ?_
 exact CT.done (a4,k4) rfl (fun w ho=>(ho.ent:Hold _ _ [.st (sl a4 k4 (Xb3 (ancF L A) (ancF L B) true))] w))
theorem Xfa (a:Option Addr) (c:Nat) (L:List Commit) (h:(sl a c L).holds F w) (hl:L.length≤34359738368) :
  GivesBuf prog 42 [.slice a L.length c] w F 31 L:=by
 refine Xaa func42 rfl ntmps42 rfl rfl [.st (sl a c L)] (.start1 h) ?_
 refine wA ?_
 refine JC.test (fun ha=>?_) (fun ha=>?_)
 ·cases a with
  | some a=>cases ha
  | none =>
   obtain rfl:=Xcv h
   refine wz9 ?_
   exact CT.done (none,0) rfl (fun w ho=>ho.bufNil)
 ·refine wz14 ?_
  refine Xhw (α:=Commit) rfl ?_
  intro a2
  refine wz6 ?_
  refine Xbc rfl (by exact ⟨rfl,rfl,by decide⟩) (by simpa using hl) ?_
  intro a3 c3
  rw [List.nil_append]
  refine wz10 ?_
  exact Xac (a3,c3) rfl
theorem X4j {L:List Commit} {ev:Ev_} {o:Op_} (h:¬ Closed L):nextF L ev o=(commit0,false):=by
 unfold nextF; rw [Xir h]; rfl
theorem X4k {L:List Commit} {ev:Ev_} {o:Op_} (h:may (nextC L ev o)=false):nextF L ev o=(commit0,false):=by
 unfold nextF; rw [h,Bool.and_false]; rfl
theorem Xy1 {L:List Commit} {ev:Ev_} {o:Op_} (h:¬ Closed (L++[nextC L ev o])):nextF L ev o=(commit0,false):=by
 unfold nextF; rw [Xir h,Bool.and_false]; rfl
theorem Xo5 {L:List Commit} {ev:Ev_} {o:Op_} (h:Closed L) (h1:may (nextC L ev o)=true) (h2:Closed (L++[nextC L ev o])):nextF L ev o=(nextC L ev o,true):=by
 unfold nextF; rw [Xbk h,Xbk h2,h1]; rfl
end
section
attribute [local irreducible] Xas
theorem X7i {L:List Commit} (hc:Closed L) (A B:List ID):(lastE L A B).length≤8:=by
 have hP:Closed (L.filter fun c=>decide (idC c∈baseF L A B)):=Xjj hc (Xov hc A B)
 unfold lastE partF
 rw [Xbk hc,if_pos rfl]
 exact Xou hP
theorem Xxp (A B:List ID):(Xxk A B).length≤A.length+B.length:=by
 have h1:=Xh5 (A++B)
 rw [List.length_append] at h1
 unfold Xxk
 rw [Xhz]; exact h1
theorem X09 {of:OfT} {L:List Commit} {rest:List ID} {t u:State_ × List ID × Memo} (i:Nat) (h:rest.foldlM (joinStep of L) t=some u) (hi:i < rest.length) {v:State_ × List ID × Memo} (hv:(rest.take i).foldlM (joinStep of L) t=some v) :
  ∃ v2,joinStep of L v rest[i]=some v2∧(rest.take (i+1)).foldlM (joinStep of L) t=some v2:=by
 have e:rest=rest.take i++(rest[i]::rest.drop (i+1)):=by rw [List.getElem_cons_drop,List.take_append_drop]
 rw [e,List.foldlM_append,hv] at h
 obtain ⟨v2,h1,_⟩:=Option.bind_eq_some_iff.1 (show (joinStep of L v rest[i]).bind _=some u from h)
 refine ⟨v2,h1,?_⟩
 rw [List.take_succ_eq_append_getElem hi,List.foldlM_append,hv]
 show (joinStep of L v rest[i]).bind _=_
 rw [h1]; rfl
theorem X4l {L:List Commit} (hL:EvL L) {a:Option Addr} {k bw bm:Nat} {of:OfT} (ih:OfC L a k bw bm of) (hh:X3v L of) (hnn:∀ M f r,of M f=some r→(M.map (·.1)).Nodup→(r.2.map (·.1)).Nodup) {w0 w:World} {F:Nat→Prop} {Γ:List Fact} {R:List SRow} (p:Option Addr) (q:Nat) (x0:ID) (rest:List ID) (u:State_ × Memo) (hu:stJoin of L (memO R) x0 rest=some u)
  (hM:Xmt L (memO R)) (hn:((memO R).map (·.1)).Nodup) (hlen:(x0::rest).length≤500)
  (ho:Hold w0 F (.own bw 83 [.slice a L.length k, .map (some bm)]::.omap bm (ents idV (memV R)) (memV R).length::.st (memA R)::.st (sl a k L)::.st (sl p q (x0::rest))::Γ) w):Calls prog 101 ⟨[.pointer (some ⟨bw,0,none⟩), .slice p (x0::rest).length q]⟩ w fun r w'=>∃ y:EvY u.2,r = .returned (.agg ⟨stC u.1 y.1⟩) ∧
   Hold w0 F (.own bw 83 [.slice a L.length k, .map (some bm)]::.omap bm (ents idV (memV y.2.1)) (memV y.2.1).length::.st (memA y.2.1)::.st (sl a k L)::.st (sl y.1.1.1 y.1.1.2 u.1.c)::.st (sl y.1.2.1.1 y.1.2.1.2 u.1.r)::.st (sl y.1.2.2.1 y.1.2.2.2 u.1.p)::Γ) w':=by
 have hll:=hL.len
 have hslf:=ho.sat (.st (sl p q (x0::rest))) (by simp)
 have hq:1≤q:=by
  have h0:(x0::rest).length≤q:=hslf.1
  rw [List.length_cons] at h0; omega
 have hrl:rest.length≤499:=by rw [List.length_cons] at hlen; omega
 unfold stJoin at hu
 obtain ⟨⟨s0,M0⟩,hu0,hu⟩:=Option.bind_eq_some_iff.1 hu
 obtain ⟨tf,hf,rfl⟩:=Option.map_eq_some_iff.1 hu
 obtain ⟨hs0,hM0⟩:=hh _ _ _ hu0 hM
 have hn0:=hnn _ _ _ hu0 hn
 dsimp only at hs0 hM0 hf hn0
 clear hu
 have ho2:Hold w0 F (.own bw 83 [.slice a L.length k, .map (some bm)]::.omap bm (ents idV (memV R)) (memV R).length::.st (memA R)::.st (sl a k L)::.st (sl p q (x0::rest))::.st (sl p 1 [x0])::.st (sl p q [x0])::Γ) w:=by
  have h1:=ho.add (A:=sl p 1 [x0]) (Xgb hslf (k:=1) (by simp) ⟨Nat.le_refl _,hq⟩)
  have h2:=h1.add (A:=sl p q [x0]) (Xgb (h1.sat (.st (sl p q (x0::rest))) (by simp)) (k:=1) (by simp) ⟨hq,Nat.le_refl _⟩)
  exact h2.ent
 clear ho
 refine Xa4 (v:=fun y:EvY tf.2.2=>.agg ⟨stC tf.1 y.1⟩) (B:=fun y=>.own bw 83 [.slice a L.length k, .map (some bm)]::.omap bm (ents idV (memV y.2.1)) (memV y.2.1).length::.st (memA y.2.1)::.st (sl a k L)::.st (sl y.1.1.1 y.1.1.2 tf.1.c)::.st (sl y.1.2.1.1 y.1.2.1.2 tf.1.r)::.st (sl y.1.2.2.1 y.1.2.2.2 tf.1.p)::Γ)
  func101 rfl ntmps101 rfl rfl _ ho2 ?_
 (repeat (refine wE ?_; intro _)); refine wA ?_
 rename_i br
 refine Xdz (fun y:EvY M0 × Nat=>[(0, .pointer (some ⟨bw,0,none⟩)),(1, .slice p (x0::rest).length q),(4, .pointer (some ⟨br,0,none⟩)),(5, .pointer (some ⟨y.2,0,none⟩)),(6, .slice p 1 1)])
  (fun y=>.own y.2 38 [.slice y.1.1.1.1 s0.c.length y.1.1.1.2, .slice y.1.1.2.1.1 s0.r.length y.1.1.2.1.2, .slice y.1.1.2.2.1 s0.p.length y.1.1.2.2.2]::.own bw 83 [.slice a L.length k, .map (some bm)]::.omap bm (ents idV (memV y.1.2.1)) (memV y.1.2.1).length::.st (memA y.1.2.1)::.st (sl a k L)::.st (sl y.1.1.1.1 y.1.1.1.2 s0.c)::.st (sl y.1.1.2.1.1 y.1.1.2.1.2 s0.r)::.st (sl y.1.1.2.2.1 y.1.1.2.2.2 s0.p)::.st (sl p q (x0::rest))::.st (sl p 1 [x0])::.own br 38 [.slice none 0 0, .slice none 0 0, .slice none 0 0]::Γ) ?_ ?_
 ·refine JC.drawP mixed ?_
  refine Xab 0 ?_
  refine Xab 1 ?_
  refine JP.pure 2 rfl (by kernel_rfl) rfl (fun _=>Xa6 (k:=1) (fun _ _=>hq)) rfl rfl ?_
  refine Xab 4 ?_
  refine JP.pure 5 rfl (by kernel_rfl) rfl (fun _=>Xvf (k:=1) (fun _ _=>hq)) rfl rfl ?_
  refine JP.more (Γ':=.own bw 83 [.slice a L.length k, .map (some bm)]::.omap bm (ents idV (memV R)) (memV R).length::.st (memA R)::.st (sl a k L)::.st (sl p q [x0])::.st (sl p q (x0::rest))::.st (sl p 1 [x0])::.own br 38 [.slice none 0 0, .slice none 0 0, .slice none 0 0]::Γ) (fun w1 ho=>ho.ent) ?_
  refine JP.both 3 6 (by kernel_rfl) rfl rfl rfl rfl (Xal (v:=fun y:EvY M0=>.agg ⟨stC s0 y.1⟩) (B:=fun y=>.own bw 83 [.slice a L.length k, .map (some bm)]::.omap bm (ents idV (memV y.2.1)) (memV y.2.1).length::.st (memA y.2.1)::.st (sl a k L)::.st (sl y.1.1.1 y.1.1.2 s0.c)::.st (sl y.1.2.1.1 y.1.2.1.2 s0.r)::.st (sl y.1.2.2.1 y.1.2.2.2 s0.p)::.st (sl p q (x0::rest))::.st (sl p 1 [x0])::.own br 38 [.slice none 0 0, .slice none 0 0, .slice none 0 0]::Γ) rfl (fun w1 hw=>ih _ _ _ (.st (sl p q (x0::rest))::.st (sl p 1 [x0])::.own br 38 [.slice none 0 0, .slice none 0 0, .slice none 0 0]::Γ) R p q [x0] (s0,M0) hu0 hM hn (by simp) hw) (fun y=>Wd (nO ?_))) (Wg rfl (fun bs=>Wd (nO ?_)))
  ·obtain ⟨⟨⟨ac,kc⟩,⟨ar,kr⟩,⟨ap,kp⟩⟩,⟨R2,hR2⟩⟩:=y
   dsimp only [stC]
   refine Xai 6 rfl rfl (Wg rfl (fun bs=>Wd (nO ?_)))
   refine JP.reslot 5 (.pointer (some ⟨bs,0,none⟩)) rfl ?_
   refine Xai 7 rfl rfl (Wi (Wd (nO ?_)))
   refine Xab 8 ?_
   refine JP.nil (by kernel_rfl) ?_
   exact ⟨rfl,(((((ac,kc),(ar,kr),(ap,kp)),⟨R2,hR2⟩):EvY M0),bs),iI⟩
  ·refine JP.more (Γ':=.own bw 83 [.slice a L.length k, .map (some bm)]::.omap bm (ents idV (memV R)) (memV R).length::.st (memA R)::.st (sl a k L)::.st (sl p q [x0])::.own bs 38 [.slice none 0 0, .slice none 0 0, .slice none 0 0]::.st (sl p q (x0::rest))::.st (sl p 1 [x0])::.own br 38 [.slice none 0 0, .slice none 0 0, .slice none 0 0]::Γ) (fun w1 ho=>ho.ent) ?_
   refine Xai 3 rfl rfl (Xal (v:=fun y:EvY M0=>.agg ⟨stC s0 y.1⟩) (B:=fun y=>.own bw 83 [.slice a L.length k, .map (some bm)]::.omap bm (ents idV (memV y.2.1)) (memV y.2.1).length::.st (memA y.2.1)::.st (sl a k L)::.st (sl y.1.1.1 y.1.1.2 s0.c)::.st (sl y.1.2.1.1 y.1.2.1.2 s0.r)::.st (sl y.1.2.2.1 y.1.2.2.2 s0.p)::.own bs 38 [.slice none 0 0, .slice none 0 0, .slice none 0 0]::.st (sl p q (x0::rest))::.st (sl p 1 [x0])::.own br 38 [.slice none 0 0, .slice none 0 0, .slice none 0 0]::Γ) rfl (fun w1 hw=>ih _ _ _ (.own bs 38 [.slice none 0 0, .slice none 0 0, .slice none 0 0]::.st (sl p q (x0::rest))::.st (sl p 1 [x0])::.own br 38 [.slice none 0 0, .slice none 0 0, .slice none 0 0]::Γ) R p q [x0] (s0,M0) hu0 hM hn (by simp) hw) (fun y=>Wd (nO ?_)))
   obtain ⟨⟨⟨ac,kc⟩,⟨ar,kr⟩,⟨ap,kp⟩⟩,⟨R2,hR2⟩⟩:=y
   dsimp only [stC]
   refine JP.reslot 5 (.pointer (some ⟨bs,0,none⟩)) rfl ?_
   refine Xai 7 rfl rfl (Wi (Wd (nO ?_)))
   refine Xab 8 ?_
   refine JP.nil (by kernel_rfl) ?_
   exact ⟨rfl,(((((ac,kc),(ar,kr),(ap,kp)),⟨R2,hR2⟩):EvY M0),bs),iI⟩
 rintro ⟨⟨⟨⟨ac,kc⟩,⟨ar,kr⟩,⟨ap,kp⟩⟩,⟨R2,hR2⟩⟩,bs⟩
 dsimp only
 refine wz14 ?_
 refine Xb4 (L:=x0::rest) (k:=1) rfl rfl (by simp) ?_
 intro pr qr
 rw [show List.drop 1 (x0::rest)=rest from rfl]
 refine wz4 ?_
 refine Xcc (fun (i:Nat) (t:State_ × List ID × Memo) (m:Sa × List SRow × Option Addr × Nat)=>[(0, .pointer (some ⟨bw,0,none⟩)),(4, .pointer (some ⟨br,0,none⟩)),(5, .pointer (some ⟨bs,0,none⟩)),(6, .slice m.2.2.1 t.2.1.length m.2.2.2),(18, .slice pr rest.length qr),(19, .int .i64 (rest.length:Int)),(20, .int .i64 (i:Int))])
  (fun i t m=>.own bs 38 [.slice m.1.1.1 t.1.c.length m.1.1.2, .slice m.1.2.1.1 t.1.r.length m.1.2.1.2, .slice m.1.2.2.1 t.1.p.length m.1.2.2.2]::.own bw 83 [.slice a L.length k, .map (some bm)]::.omap bm (ents idV (memV m.2.1)) (memV m.2.1).length::.st (memA m.2.1)::.st (sl a k L)::.st (sl m.1.1.1 m.1.1.2 t.1.c)::.st (sl m.1.2.1.1 m.1.2.1.2 t.1.r)::.st (sl m.1.2.2.1 m.1.2.2.2 t.1.p)::.st (sl m.2.2.1 m.2.2.2 t.2.1)::.st (sl pr qr rest)::.own br 38 [.slice none 0 0, .slice none 0 0, .slice none 0 0]::Γ)
  (fun i t m=>i≤rest.length∧(rest.take i).foldlM (joinStep of L) (s0,[x0],M0)=some t∧memO m.2.1=t.2.2∧Xlj L t.1∧Xmt L t.2.2∧(t.2.2.map (·.1)).Nodup∧t.2.1.length≤i+1) (fun i _ _=>rest.length - i) 0 (s0,[x0],M0) (((ac,kc),(ar,kr),(ap,kp)),R2,(p,1)) ⟨Nat.zero_le _,rfl,hR2,hs0,hM0,hn0,Nat.le_refl _⟩ (by dsimp only; exact iI) ?_
 rintro i ⟨s,seen,M⟩ ⟨⟨⟨ac,kc⟩,⟨ar,kr⟩,⟨ap,kp⟩⟩,R3,⟨ps,qs⟩⟩ ⟨hi,hfold,hR3,hs,hM3,hn3,hsl⟩
 dsimp only at hfold hR3 hs hM3 hn3 hsl ⊢
 subst hR3
 refine wz11 ?_
 refine JC.test (fun hlt=>?_) (fun hge=>?_)
 ·have hlt':i < rest.length:=by omega
  obtain ⟨v2,hj,hfold2⟩:=X09 i hf hlt' hfold
  obtain ⟨x,hx⟩:∃ x,x=rest[i]:=⟨_,rfl⟩
  rw [← hx] at hj
  unfold joinStep at hj
  obtain ⟨⟨sb,M1⟩,hb,hj⟩:=Option.bind_eq_some_iff.1 hj
  obtain ⟨⟨sn,M2⟩,hnx,rfl⟩:=Option.map_eq_some_iff.1 hj
  dsimp only at hb hnx hfold2
  obtain ⟨hsb,hM1⟩:=hh _ _ _ hb hM3
  have hn1:=hnn _ _ _ hb hn3
  obtain ⟨hsn,hM2⟩:=hh _ _ _ hnx hM1
  have hn2:=hnn _ _ _ hnx hn1
  dsimp only at hsb hM1 hn1 hsn hM2 hn2
  have hlf:=X7i hL.closed seen [x]
  have hbl:(baseF L seen [x]).length≤1000:=by
   have h1:=Xlc (Xqw (ancF L seen) (ancF L [x]) true) (K:=cids L) (fun y hy=>(Xov hL.closed seen [x]).ids hL.closed hy)
   have h2:(cids L).length=L.length:=by simp [cids]
   unfold baseF; omega
  have hpf:∀ y∈partF L (baseF L seen [x]),fine y:=fun y hy=>hL.fine y (X63 hy)
  have hpl:(partF L (baseF L seen [x])).length≤1000:=by
   unfold partF
   split
   ·have:=List.length_filter_le (fun c=>decide (idC c∈baseF L seen [x])) L; omega
   ·simp
  refine wz14 ?_
  refine Xcf rfl hlt' ?_
  intro b1 o1
  rw [← hx]
  (repeat (refine wE ?_; intro _)); refine wA ?_
  rename_i bx lb
  refine JC.more (Γ':=.own bs 38 [.slice ac s.c.length kc, .slice ar s.r.length kr, .slice ap s.p.length kp]::.own bw 83 [.slice a L.length k, .map (some bm)]::.omap bm (ents idV (memV R3)) (memV R3).length::.st (memA R3)::.st (sl (some ⟨lb,0,none⟩) 1 [x])::.st (sl a k L)::.st (sl ac kc s.c)::.st (sl ar kr s.r)::.st (sl ap kp s.p)::.st (sl ps qs seen)::.st (sl pr qr rest)::.own br 38 [.slice none 0 0, .slice none 0 0, .slice none 0 0]::Γ) (fun w1 ho=>?_) ?_
  ·have h1:Hold _ _ (.own lb 72 (idc x)::.own bs 38 [.slice ac s.c.length kc, .slice ar s.r.length kr, .slice ap s.p.length kp]::.own bw 83 [.slice a L.length k, .map (some bm)]::.omap bm (ents idV (memV R3)) (memV R3).length::.st (memA R3)::.st (sl a k L)::.st (sl ac kc s.c)::.st (sl ar kr s.r)::.st (sl ap kp s.p)::.st (sl ps qs seen)::.st (sl pr qr rest)::.own br 38 [.slice none 0 0, .slice none 0 0, .slice none 0 0]::Γ) w1:=ho.ent
   have h2:Hold _ _ (.st (sl (some ⟨lb,0,none⟩) 1 [x])::.own bs 38 [.slice ac s.c.length kc, .slice ar s.r.length kr, .slice ap s.p.length kp]::.own bw 83 [.slice a L.length k, .map (some bm)]::.omap bm (ents idV (memV R3)) (memV R3).length::.st (memA R3)::.st (sl a k L)::.st (sl ac kc s.c)::.st (sl ar kr s.r)::.st (sl ap kp s.p)::.st (sl ps qs seen)::.st (sl pr qr rest)::.own br 38 [.slice none 0 0, .slice none 0 0, .slice none 0 0]::Γ) w1:=Hold.pubRow [(x,())] h1 (by simp [flat,Cell.cells]) (by simp [Cell.facts]) (by simp)
   exact h2.ent
  refine JC.drawP mixed ?_
  refine Xab 0 ?_
  refine Xab 1 ?_
  refine Xab 2 ?_
  refine JP.tv 3 [.own bw 83 [.slice a L.length k, .map (some bm)]] ?_
  refine Xab 4 ?_
  refine Xab 5 ?_
  refine Xab 6 ?_
  refine JP.tv 7 [.own bw 83 [.slice a L.length k, .map (some bm)]] ?_
  refine Xab 8 ?_
  refine Xab 9 ?_
  refine Xai 10 rfl rfl (JR.callSl rfl (fun w1 hw=>X08 w1 _ a ps (some ⟨lb,0,none⟩) k qs 1 L seen [x] hw.get hw.get hw.get (by omega) (by omega) (by simp) hL.fine) (fun pb qb=>Wd (nO ?_)))
  refine Xai 11 rfl rfl (JR.callSl rfl (fun w1 hw=>X4g w1 _ a pb k qb L (partF L (baseF L seen [x])) (baseF L seen [x]) hw.get hw.get (by omega) hL.fine (X61 L _)) (fun p3 q3=>Wd (nO ?_)))
  refine Xai 12 rfl rfl (JR.callSl (L:=lastE L seen [x]) rfl (fun w1 hw=>Xo4 w1 _ p3 q3 (partF L (baseF L seen [x])) hw.get hpl hpf) (fun p4 q4=>Wd (nO ?_)))
  refine Xab 13 ?_
  refine JP.nil (by kernel_rfl) ?_
  refine wz14 ?_
  refine JC.drawP mixed ?_
  refine Xab 0 ?_
  refine Xab 1 ?_
  refine JP.tv 3 [.own bs 38 [.slice ac s.c.length kc, .slice ar s.r.length kr, .slice ap s.p.length kp]] ?_
  refine Xab 4 ?_
  refine Xab 5 ?_
  refine JP.more (Γ':=.own bw 83 [.slice a L.length k, .map (some bm)]::.omap bm (ents idV (memV R3)) (memV R3).length::.st (memA R3)::.st (sl a k L)::.st (sl p4 q4 (lastE L seen [x]))::.own bs 38 [.slice ac s.c.length kc, .slice ar s.r.length kr, .slice ap s.p.length kp]::.st (sl (some ⟨lb,0,none⟩) 1 [x])::.st (sl ac kc s.c)::.st (sl ar kr s.r)::.st (sl ap kp s.p)::.st (sl ps qs seen)::.st (sl pr qr rest)::.own br 38 [.slice none 0 0, .slice none 0 0, .slice none 0 0]::Γ) (fun w1 ho=>ho.ent) ?_
  refine Xai 2 rfl rfl (Xal (v:=fun y:EvY M1=>.agg ⟨stC sb y.1⟩) (B:=fun y=>.own bw 83 [.slice a L.length k, .map (some bm)]::.omap bm (ents idV (memV y.2.1)) (memV y.2.1).length::.st (memA y.2.1)::.st (sl a k L)::.st (sl y.1.1.1 y.1.1.2 sb.c)::.st (sl y.1.2.1.1 y.1.2.1.2 sb.r)::.st (sl y.1.2.2.1 y.1.2.2.2 sb.p)::.own bs 38 [.slice ac s.c.length kc, .slice ar s.r.length kr, .slice ap s.p.length kp]::.st (sl (some ⟨lb,0,none⟩) 1 [x])::.st (sl ac kc s.c)::.st (sl ar kr s.r)::.st (sl ap kp s.p)::.st (sl ps qs seen)::.st (sl pr qr rest)::.own br 38 [.slice none 0 0, .slice none 0 0, .slice none 0 0]::Γ) rfl (fun w1 hw=>ih _ _ _ (.own bs 38 [.slice ac s.c.length kc, .slice ar s.r.length kr, .slice ap s.p.length kp]::.st (sl (some ⟨lb,0,none⟩) 1 [x])::.st (sl ac kc s.c)::.st (sl ar kr s.r)::.st (sl ap kp s.p)::.st (sl ps qs seen)::.st (sl pr qr rest)::.own br 38 [.slice none 0 0, .slice none 0 0, .slice none 0 0]::Γ) R3 p4 q4 (lastE L seen [x]) (sb,M1) hb hM3 hn3 (by omega) hw) (fun y=>Wd (nO ?_)))
  obtain ⟨⟨⟨bc,jc⟩,⟨br2,jr⟩,⟨bp,jp⟩⟩,⟨R4,hR4⟩⟩:=y
  dsimp only [stC]
  have hnx':of (memO R4) [x]=some (sn,M2):=by rw [hR4]; exact hnx
  have hM1':Xmt L (memO R4):=by rw [hR4]; exact hM1
  have hn1':((memO R4).map (·.1)).Nodup:=by rw [hR4]; exact hn1
  refine JP.more (Γ':=.own bw 83 [.slice a L.length k, .map (some bm)]::.omap bm (ents idV (memV R4)) (memV R4).length::.st (memA R4)::.st (sl a k L)::.st (sl (some ⟨lb,0,none⟩) 1 [x])::.own bs 38 [.slice ac s.c.length kc, .slice ar s.r.length kr, .slice ap s.p.length kp]::.st (sl (some ⟨lb,0,none⟩) 1 [x])::.st (sl bc jc sb.c)::.st (sl br2 jr sb.r)::.st (sl bp jp sb.p)::.st (sl ac kc s.c)::.st (sl ar kr s.r)::.st (sl ap kp s.p)::.st (sl ps qs seen)::.st (sl pr qr rest)::.own br 38 [.slice none 0 0, .slice none 0 0, .slice none 0 0]::Γ) (fun w1 ho=>(ho.add (A:=sl (some ⟨lb,0,none⟩) 1 [x]) (ho.get (A:=sl (some ⟨lb,0,none⟩) 1 [x]))).ent) ?_
  refine Xai 6 rfl rfl (Xal (v:=fun y:EvY M2=>.agg ⟨stC sn y.1⟩) (B:=fun y=>.own bw 83 [.slice a L.length k, .map (some bm)]::.omap bm (ents idV (memV y.2.1)) (memV y.2.1).length::.st (memA y.2.1)::.st (sl a k L)::.st (sl y.1.1.1 y.1.1.2 sn.c)::.st (sl y.1.2.1.1 y.1.2.1.2 sn.r)::.st (sl y.1.2.2.1 y.1.2.2.2 sn.p)::.own bs 38 [.slice ac s.c.length kc, .slice ar s.r.length kr, .slice ap s.p.length kp]::.st (sl (some ⟨lb,0,none⟩) 1 [x])::.st (sl bc jc sb.c)::.st (sl br2 jr sb.r)::.st (sl bp jp sb.p)::.st (sl ac kc s.c)::.st (sl ar kr s.r)::.st (sl ap kp s.p)::.st (sl ps qs seen)::.st (sl pr qr rest)::.own br 38 [.slice none 0 0, .slice none 0 0, .slice none 0 0]::Γ) rfl (fun w1 hw=>ih _ _ _ (.own bs 38 [.slice ac s.c.length kc, .slice ar s.r.length kr, .slice ap s.p.length kp]::.st (sl (some ⟨lb,0,none⟩) 1 [x])::.st (sl bc jc sb.c)::.st (sl br2 jr sb.r)::.st (sl bp jp sb.p)::.st (sl ac kc s.c)::.st (sl ar kr s.r)::.st (sl ap kp s.p)::.st (sl ps qs seen)::.st (sl pr qr rest)::.own br 38 [.slice none 0 0, .slice none 0 0, .slice none 0 0]::Γ) R4 (some ⟨lb,0,none⟩) 1 [x] (sn,M2) hnx' hM1' hn1' (by simp) hw) (fun y=>Wd (nO ?_)))
  obtain ⟨⟨⟨nc,ic⟩,⟨nr,ir⟩,⟨np,ip⟩⟩,⟨R5,hR5⟩⟩:=y
  dsimp only [stC]
  refine Xai 7 rfl rfl (JR.call (v:=fun y:Sa=>.tuple ⟨[.agg ⟨stC (stMerge sb s sn).1 y⟩, .int .i64 (stMerge sb s sn).2]⟩) rfl (fun w1 hw=>Xxo w1 _ sb s sn (X3r L) (X3s L) (Xu6 L) bc br2 bp ac ar ap nc nr np jc jr jp kc kr kp ic ir ip hw.get hw.get hw.get hw.get hw.get hw.get hw.get hw.get hw.get hsb hs hsn (by simp only [X3r,List.length_map]; omega) (by simp only [X3s,List.length_map]; omega) (by simp only [Xu6,List.length_map]; omega) hL.fk hL.fr hL.fp) (fun z=>Wd (nO ?_)))
  have hsm:=hsb.merge hs hsn
  obtain ⟨⟨zc,oc⟩,⟨zr,or⟩,⟨zp,op⟩⟩:=z
  dsimp only [stC,stF,List.cons_append,List.nil_append]
  refine Xab 8 ?_
  refine Xab 9 ?_
  refine Xab 10 ?_
  refine JP.reslot 5 (.pointer (some ⟨bs,0,none⟩)) rfl ?_
  refine Xai 11 rfl rfl (Wi (Wd (nO ?_)))
  refine JP.nil (by kernel_rfl) ?_
  generalize hSM:(stMerge sb s sn).1=sm at hsm hfold2
  refine wz14 ?_
  refine JR.callSl (L:=Xxk seen [x]) rfl (fun w1 hw=>(X60 w1 _ ps (some ⟨lb,0,none⟩) qs 1 seen [x] hw.get hw.get (by omega) (by simp)).sl) ?_
  intro p5 q5
  refine wz2 ?_
  have hbl2:=Xxp seen [x]
  rw [List.length_singleton] at hbl2
  exact ⟨i+1,(sm,Xxk seen [x],M2),(((zc,oc),(zr,or),(zp,op)),R5,(p5,q5)),⟨by omega,hfold2,hR5,hsm,hM2,hn2,by dsimp only; omega⟩,by omega,iI⟩
 ·obtain rfl:i=rest.length:=by omega
  rw [List.take_length,hf] at hfold
  injection hfold with hfold
  subst hfold
  dsimp only
  refine wz3 ?_
  exact Xac (((ac,kc),(ar,kr),(ap,kp)),⟨R3,rfl⟩) rfl
theorem Yam {of:OfT} {L:List Commit} (ih:∀ M f r,of M f=some r→(M.map (·.1)).Nodup→(r.2.map (·.1)).Nodup) {t u:State_ × List ID × Memo} {a:ID} (h:joinStep of L t a=some u) (h2:(t.2.2.map (·.1)).Nodup):(u.2.2.map (·.1)).Nodup:=by
 unfold joinStep at h
 obtain ⟨x,hx,h⟩:=Option.bind_eq_some_iff.1 h
 obtain ⟨y,hy,rfl⟩:=Option.map_eq_some_iff.1 h
 exact ih _ _ _ hy (ih _ _ _ hx h2)
theorem X4m {of:OfT} {L:List Commit} (ih:∀ M f r,of M f=some r→(M.map (·.1)).Nodup→(r.2.map (·.1)).Nodup):∀ {rest:List ID} {t u:State_ × List ID × Memo},rest.foldlM (joinStep of L) t=some u→(t.2.2.map (·.1)).Nodup→(u.2.2.map (·.1)).Nodup
 | [],t,u,h,h2=>by
  simp only [List.foldlM_nil] at h
  injection h with h; subst h
  exact h2
 | a::rest,t,u,h,h2=>by
  rw [List.foldlM_cons] at h
  obtain ⟨x,hx,h⟩:=Option.bind_eq_some_iff.1 h
  exact X4m ih h (Yam ih hx h2)
theorem X8v {of:OfT} {L:List Commit} (ih:∀ M f r,of M f=some r→(M.map (·.1)).Nodup→(r.2.map (·.1)).Nodup) {M:Memo} {a:ID} {u:State_ × Memo} (hu:oneF of L M a=some u) (hM:(M.map (·.1)).Nodup):(u.2.map (·.1)).Nodup:=by
 unfold oneF at hu
 obtain ⟨x,hx,rfl⟩:=Option.map_eq_some_iff.1 hu
 have h9:=ih _ _ _ hx hM
 exact h9
theorem X4n {of:OfT} {L:List Commit} (ih:∀ M f r,of M f=some r→(M.map (·.1)).Nodup→(r.2.map (·.1)).Nodup) {M:Memo} {a:ID} {rest:List ID} {u:State_ × Memo} (hu:stJoin of L M a rest=some u) (hM:(M.map (·.1)).Nodup):(u.2.map (·.1)).Nodup:=by
 unfold stJoin at hu
 obtain ⟨x,hx,hu⟩:=Option.bind_eq_some_iff.1 hu
 obtain ⟨y,hy,rfl⟩:=Option.map_eq_some_iff.1 hu
 exact X4m ih hy (ih _ _ _ hx hM)
theorem X8w (L:List Commit):∀ n M f r,ofF n L M f=some r→(M.map (·.1)).Nodup→(r.2.map (·.1)).Nodup
 | 0,M,f,r,h,_=>by cases h
 | n+1,M,f,r,h,hM=>by
  have ih:=X8w L n
  rw [Xnb] at h
  split at h
  ·injection h with h; subst h; exact hM
  ·rename_i hne
   split at h
   ·injection h with h; subst h; exact hM
   ·obtain ⟨u,hu,rfl⟩:=Option.map_eq_some_iff.1 h
    refine X07 ?_ _ _
    match f,hne,hu with
    | [a],_,hu=>exact X8v ih hu hM
    | a::b::rest,_,hu=>exact X4n ih hu hM
theorem Yan {L:List Commit} (hL:EvL L) {a:Option Addr} {k bw bm:Nat} (n:Nat) (ih:OfC L a k bw bm (ofF n L)):OfC L a k bw bm (ofF (n+1) L):=by
 have hh:=Xss L n
 have hnn:=X8w L n
 intro w0 w F Γ R p q f u hu hM hn hl ho
 rw [Xnb] at hu
 have hslf:=ho.sat (.st (sl p q f)) (by simp)
 have hfq:f.length≤q:=hslf.1
 have hnR:((memV R).map (·.1)).Nodup:=by rw [Xo1]; exact hn
 refine Xa4 (v:=fun y:EvY u.2=>.agg ⟨stC u.1 y.1⟩) (B:=fun y=>.own bw 83 [.slice a L.length k, .map (some bm)]::.omap bm (ents idV (memV y.2.1)) (memV y.2.1).length::.st (memA y.2.1)::.st (sl a k L)::.st (sl y.1.1.1 y.1.1.2 u.1.c)::.st (sl y.1.2.1.1 y.1.2.1.2 u.1.r)::.st (sl y.1.2.2.1 y.1.2.2.2 u.1.p)::Γ)
  func43 rfl ntmps43 rfl rfl _ ho ?_
 (repeat (refine wE ?_; intro _)); refine wA ?_
 rename_i br
 refine JC.test (fun h0=>?_) (fun h0=>?_)
 ·have hf0:f=[]:=List.eq_nil_of_length_eq_zero (by omega)
  subst hf0
  rw [if_pos rfl] at hu
  injection hu with hu
  subst hu
  refine wz14 ?_
  refine Wf (OpV.build [.slice none 0 0, .slice none 0 0, .slice none 0 0] (by kernel_rfl)) rfl ?_
  refine wz9 ?_
  refine CT.done (((none,0),(none,0),(none,0)),⟨R,rfl⟩) rfl (fun w ho=>?_)
  have h9:=((ho.add (A:=sl (α:=Pair_) none 0 []) Xan).add (A:=sl (α:=Reg_) none 0 []) Xan).add (A:=sl (α:=Ctr_) none 0 []) Xan
  exact (show Hold _ _ (.own bw 83 [.slice a L.length k, .map (some bm)]::.omap bm (ents idV (memV R)) (memV R).length::.st (memA R)::.st (sl a k L)::.st (sl (α:=Ctr_) none 0 [])::.st (sl (α:=Reg_) none 0 [])::.st (sl (α:=Pair_) none 0 [])::Γ) w from h9.ent)
 have hne:f≠[]:=by intro h; subst h; simp at h0
 rw [if_neg hne] at hu
 refine wz14 ?_
 refine JR.callV rfl (fun w1 hw=>X7f w1 _ p q f hw.get (by omega)) ?_
 generalize keyF f=kf at hu
 (repeat (refine wE ?_; intro _)); refine wA ?_
 rename_i bk
 refine JC.drawP mixed ?_
 refine Xab 0 ?_
 refine Xab 1 ?_
 refine Xab 2 ?_
 refine JP.tv 3 [.own bw 83 [.slice a L.length k, .map (some bm)]] ?_
 refine JP.tv 4 [.own bk 72 (idc kf)] ?_
 rcases Yak (R:=R) (k:=kf) with ⟨hg,hg2⟩ | ⟨r,hr,hg,hg2⟩
 ·rw [hg] at hu
  dsimp only at hu
  obtain ⟨⟨s,M1⟩,hb,rfl⟩:=Option.map_eq_some_iff.1 hu
  dsimp only
  clear hu
  refine JP.take 5 [.omap bm (ents idV (memV R)) (memV R).length] rfl (by kernel_rfl) rfl (Xb6 (M:=memV R) (v:=.agg ⟨[.slice none 0 0, .slice none 0 0, .slice none 0 0]⟩) (is:=false) kf hnR (by rw [hg2]; rfl) (by rw [hg2]; rfl)) rfl rfl ?_
  refine Xab 6 ?_
  refine Xab 7 ?_
  refine Xab 8 ?_
  refine Xai 9 rfl rfl (Wg rfl (fun b6=>Wd (nO ?_)))
  refine JP.reslot 6 (.pointer (some ⟨b6,0,none⟩)) rfl ?_
  refine Xai 10 rfl rfl (Wi (Wd (nO ?_)))
  refine Xab 11 ?_
  refine JP.nil (by kernel_rfl) ?_
  (repeat (refine wE ?_; intro _)); refine wA ?_
  rename_i b8
  cases f with
  | nil=>exact absurd rfl hne
  | cons x rest =>
  cases rest with
  | nil =>
   refine wz8 ?_
   refine Xcf (L:=[x]) (k:=0) rfl (by simp) ?_
   intro b1 o1
   dsimp only [List.getElem_cons_zero]
   refine wz6 ?_
   refine JR.more (Γ':=.own bw 83 [.slice a L.length k, .map (some bm)]::.omap bm (ents idV (memV R)) (memV R).length::.st (memA R)::.st (sl a k L)::.own bk 72 (idc kf)::.own b8 38 [.slice none 0 0, .slice none 0 0, .slice none 0 0]::.st (sl p q [x])::.own br 38 [.slice none 0 0, .slice none 0 0, .slice none 0 0]::Γ) (fun w1 ho=>ho.ent) ?_
   refine Xal (v:=fun y:EvY M1=>.agg ⟨stC s y.1⟩) (B:=fun y=>.own bw 83 [.slice a L.length k, .map (some bm)]::.omap bm (ents idV (memV y.2.1)) (memV y.2.1).length::.st (memA y.2.1)::.st (sl a k L)::.st (sl y.1.1.1 y.1.1.2 s.c)::.st (sl y.1.2.1.1 y.1.2.1.2 s.r)::.st (sl y.1.2.2.1 y.1.2.2.2 s.p)::.own bk 72 (idc kf)::.own b8 38 [.slice none 0 0, .slice none 0 0, .slice none 0 0]::.st (sl p q [x])::.own br 38 [.slice none 0 0, .slice none 0 0, .slice none 0 0]::Γ) rfl (fun w1 hw=>X7h hL ih hh x (s,M1) hb hM hn hw) ?_
   rintro ⟨⟨⟨ac,kc⟩,⟨ar,kr⟩,⟨ap,kp⟩⟩,⟨R2,hR2⟩⟩
   dsimp only [stC]
   have hnR2:((memV R2).map (·.1)).Nodup:=by rw [Xo1,hR2]; exact X8v hnn hb hn
   refine wz9 ?_
   refine JC.drawP mixed ?_
   refine Xab 0 ?_
   refine Xab 1 ?_
   refine Xab 2 ?_
   refine JP.tv 3 [.own bw 83 [.slice a L.length k, .map (some bm)]] ?_
   refine JP.tv 4 [.own bk 72 (idc kf)] ?_
   refine JP.tv 5 [.own b8 38 [.slice ac s.c.length kc, .slice ar s.r.length kr, .slice ap s.p.length kp]] ?_
   refine Xai 6 rfl rfl (Xb5 (M:=memV R2) (k:=kf) (.inl rfl) hnR2 (Wd (nO ?_)))
   rw [← Xy0 R2 kf s ((ac,kc),(ar,kr),(ap,kp))]
   refine JP.more (fun w1 ho=>ho.add (A:=memA (updR R2 kf s ((ac,kc),(ar,kr),(ap,kp)))) (X4e (ho.get (A:=memA R2)) (ho.get (A:=sl ac kc s.c)) (ho.get (A:=sl ar kr s.r)) (ho.get (A:=sl ap kp s.p)))) ?_
   refine JP.nil (by kernel_rfl) ?_
   refine wz9 ?_
   exact Xac (((ac,kc),(ar,kr),(ap,kp)),⟨updR R2 kf s ((ac,kc),(ar,kr),(ap,kp)),by rw [Xyz,hR2]⟩) rfl
  | cons x1 rest =>
   rw [Xis] at hb
   refine wz7 ?_
   refine JR.more (Γ':=.own bw 83 [.slice a L.length k, .map (some bm)]::.omap bm (ents idV (memV R)) (memV R).length::.st (memA R)::.st (sl a k L)::.st (sl p q (x::x1::rest))::.own bk 72 (idc kf)::.own b8 38 [.slice none 0 0, .slice none 0 0, .slice none 0 0]::.own br 38 [.slice none 0 0, .slice none 0 0, .slice none 0 0]::Γ) (fun w1 ho=>ho.ent) ?_
   refine Xal (v:=fun y:EvY M1=>.agg ⟨stC s y.1⟩) (B:=fun y=>.own bw 83 [.slice a L.length k, .map (some bm)]::.omap bm (ents idV (memV y.2.1)) (memV y.2.1).length::.st (memA y.2.1)::.st (sl a k L)::.st (sl y.1.1.1 y.1.1.2 s.c)::.st (sl y.1.2.1.1 y.1.2.1.2 s.r)::.st (sl y.1.2.2.1 y.1.2.2.2 s.p)::.own bk 72 (idc kf)::.own b8 38 [.slice none 0 0, .slice none 0 0, .slice none 0 0]::.own br 38 [.slice none 0 0, .slice none 0 0, .slice none 0 0]::Γ) rfl (fun w1 hw=>X4l hL ih hh hnn p q x (x1::rest) (s,M1) hb hM hn hl hw) ?_
   rintro ⟨⟨⟨ac,kc⟩,⟨ar,kr⟩,⟨ap,kp⟩⟩,⟨R2,hR2⟩⟩
   dsimp only [stC]
   have hnR2:((memV R2).map (·.1)).Nodup:=by rw [Xo1,hR2]; exact X4n hnn hb hn
   refine wz9 ?_
   refine JC.drawP mixed ?_
   refine Xab 0 ?_
   refine Xab 1 ?_
   refine Xab 2 ?_
   refine JP.tv 3 [.own bw 83 [.slice a L.length k, .map (some bm)]] ?_
   refine JP.tv 4 [.own bk 72 (idc kf)] ?_
   refine JP.tv 5 [.own b8 38 [.slice ac s.c.length kc, .slice ar s.r.length kr, .slice ap s.p.length kp]] ?_
   refine Xai 6 rfl rfl (Xb5 (M:=memV R2) (k:=kf) (.inl rfl) hnR2 (Wd (nO ?_)))
   rw [← Xy0 R2 kf s ((ac,kc),(ar,kr),(ap,kp))]
   refine JP.more (fun w1 ho=>ho.add (A:=memA (updR R2 kf s ((ac,kc),(ar,kr),(ap,kp)))) (X4e (ho.get (A:=memA R2)) (ho.get (A:=sl ac kc s.c)) (ho.get (A:=sl ar kr s.r)) (ho.get (A:=sl ap kp s.p)))) ?_
   refine JP.nil (by kernel_rfl) ?_
   refine wz9 ?_
   exact Xac (((ac,kc),(ar,kr),(ap,kp)),⟨updR R2 kf s ((ac,kc),(ar,kr),(ap,kp)),by rw [Xyz,hR2]⟩) rfl
 ·rw [hg] at hu
  dsimp only at hu
  injection hu with hu
  subst hu
  dsimp only
  refine JP.take 5 [.omap bm (ents idV (memV R)) (memV R).length] rfl (by kernel_rfl) rfl (Xb6 (M:=memV R) (v:=.agg ⟨stC r.1.2 r.2⟩) (is:=true) kf hnR (by rw [hg2]; rfl) (by rw [hg2]; rfl)) rfl rfl ?_
  refine Xab 6 ?_
  refine Xab 7 ?_
  refine Xab 8 ?_
  refine Xai 9 rfl rfl (Wg rfl (fun b6=>Wd (nO ?_)))
  refine JP.reslot 6 (.pointer (some ⟨b6,0,none⟩)) rfl ?_
  refine Xai 10 rfl rfl (Wi (Wd (nO ?_)))
  refine Xab 11 ?_
  refine JP.nil (by kernel_rfl) ?_
  refine wA ?_
  refine CT.done (r.2,⟨R,rfl⟩) rfl (fun w ho=>?_)
  have hat:=X4d (ho.get (A:=memA R)) hr
  have h1:=ho.add (A:=sl r.2.1.1 r.2.1.2 r.1.2.c) hat.1
  have h2:=h1.add (A:=sl r.2.2.1.1 r.2.2.1.2 r.1.2.r) (X4d (h1.get (A:=memA R)) hr).2.1
  have h3:=h2.add (A:=sl r.2.2.2.1 r.2.2.2.2 r.1.2.p) (X4d (h2.get (A:=memA R)) hr).2.2
  exact h3.ent
theorem X8x {L:List Commit} (hL:EvL L) {a:Option Addr} {k bw bm:Nat}:∀ n,OfC L a k bw bm (ofF n L)
 | 0=>fun _ _ _ _ _ _ _ _ _ hu=>by cases hu
 | n+1=>Yan hL n (X8x hL n)
theorem X4o {L:List Commit} (h:closedB L=false):evalF L=(st0,1):=by unfold evalF; rw [h]; rfl
theorem Xo6 {L:List Commit} (h:closedB L=true):evalF L=(evalS L,0):=by unfold evalF; rw [h]; rfl
theorem Xvg (a:Option Addr) (k:Nat) (L:List Commit) (h:(sl a k L).holds F w) (hl:L.length≤11) (hf:∀ x∈L,fine x) :
  Gives prog 14 [.slice a L.length k] w F (fun y:Sa=>.tuple ⟨[.agg ⟨stC (evalF L).1 y⟩, .int .i64 (evalF L).2]⟩) (fun y=>stF (evalF L).1 y):=by
 refine Xaa func14 rfl ntmps14 rfl rfl [.st (sl a k L)] (.start1 h) ?_
 (repeat (refine wE ?_; intro _)); refine wA ?_
 rename_i br
 refine JR.callV rfl (fun w1 hw=>Xdj w1 _ a k L (closedB L) hw.get (by omega) hf Xbj) ?_
 cases hc:closedB L with
 | false =>
  rw [X4o hc]
  refine wz8 ?_
  refine Wf (OpV.build [.slice none 0 0, .slice none 0 0, .slice none 0 0] (by kernel_rfl)) rfl ?_
  refine wz9 ?_
  refine CT.done ((none,0),(none,0),(none,0)) rfl (fun w ho=>?_)
  have h9:=((ho.add (A:=sl (α:=Pair_) none 0 []) Xan).add (A:=sl (α:=Reg_) none 0 []) Xan).add (A:=sl (α:=Ctr_) none 0 []) Xan
  exact (show Hold _ _ [.st (sl (α:=Ctr_) none 0 []), .st (sl (α:=Reg_) none 0 []), .st (sl (α:=Pair_) none 0 [])] w from h9.ent)
 | true =>
 have hcl:=Xbj.1 hc
 obtain ⟨M,hM⟩:=Xkj hcl
 have hfl:=Xou hcl
 rw [Xo6 hc]
 generalize evalS L=s at hM
 dsimp only
 refine wz7 ?_
 refine JR.makeMap idV rfl ?_
 intro bm
 refine wz13 ?_
 refine Wf (OpV.build [.slice a L.length k, .map (some bm)] (by kernel_rfl)) rfl ?_
 (repeat (refine wE ?_; intro _)); refine wA ?_
 rename_i bw
 refine JR.callSl rfl (fun w1 hw=>Xo4 w1 _ a k L hw.get (by omega) hf) ?_
 intro pf qf
 refine wz13 ?_
 refine JR.more (Γ':=.own bw 83 [.slice a L.length k, .map (some bm)]::.omap bm (ents idV ([]:List (ID × Value))) ([]:List (ID × Value)).length::.st (memA [])::.st (sl a k L)::.st (sl pf qf (frontF L))::.own br 38 [.slice none 0 0, .slice none 0 0, .slice none 0 0]::[]) (fun w1 ho=>(ho.add (A:=memA []) Yal).ent) ?_
 refine Xal (v:=fun y:EvY M=>.agg ⟨stC s y.1⟩) (B:=fun y=>.own bw 83 [.slice a L.length k, .map (some bm)]::.omap bm (ents idV (memV y.2.1)) (memV y.2.1).length::.st (memA y.2.1)::.st (sl a k L)::.st (sl y.1.1.1 y.1.1.2 s.c)::.st (sl y.1.2.1.1 y.1.2.1.2 s.r)::.st (sl y.1.2.2.1 y.1.2.2.2 s.p)::.own br 38 [.slice none 0 0, .slice none 0 0, .slice none 0 0]::[]) rfl (fun w1 hw=>X8x ⟨hcl,hl,hf⟩ _ _ _ _ (.own br 38 [.slice none 0 0, .slice none 0 0, .slice none 0 0]::[]) [] pf qf (frontF L) (s,M) hM (by intro p hp; cases hp) List.nodup_nil (by omega) hw) ?_
 rintro ⟨⟨⟨ac,kc⟩,⟨ar,kr⟩,⟨ap,kp⟩⟩,⟨R2,hR2⟩⟩
 dsimp only [stC]
 refine wz9 ?_
 exact Xac ((ac,kc),(ar,kr),(ap,kp)) rfl
end
end
section
variable {P:Program}
theorem Xsz {t el:TypeId} {sz by_ es eb m:Nat} {z ez:Value} (h:Ty P t (.array m el) sz by_ z) (hE:Ty P el (.int .u8) es eb ez) (hs:es=1) (xs ys:List UInt8) (h1:xs.length=m) (h2:ys.length=m) (w:World) :
  (Op.equal t (.agg ⟨xs.map Xak⟩) (.agg ⟨ys.map Xak⟩)).run P w = .ok (decide (xs=ys)) w:=by
 obtain ⟨i,hi,_⟩:=hE.some
 have e0:=run_equalIn_array (P:=P) w 9999 (i:=i) ⟨xs.map Xak⟩ ⟨ys.map Xak⟩ h.und hi
 have e2:=Xjy hE hs 9998 xs ys (by rw [h1,h2]) w m m (by rw [h1]; omega) (by rw [h1]; exact Nat.le_refl _)
 have e1:List.range m=List.range' (m - m) m:=by
  have h0:m - m=0:=Nat.sub_self m
  rw [h0]; exact List.range_eq_range'
 unfold Op.equal
 rw [show Op.maxDepth=9999+1 from rfl,e0,e1]
 rw [e2]
 have e3:decide (List.take m (List.drop (m - m) xs)=List.take m (List.drop (m - m) ys))=decide (xs=ys):=by
  have ha:List.take m (List.drop (m - m) xs)=xs:=by simp [List.take_of_length_le,h1]
  have hb:List.take m (List.drop (m - m) ys)=ys:=by simp [List.take_of_length_le,h2]
  rw [ha,hb]
 rw [e3]
end
section
variable {P:Program} {n:Nn} {w0:World} {F:Nat→Prop} {d:Option Nat} {t:TypeId} {pos:String} {aft:Array Edge} {g:Option (Nat × Bool)} {e:E} {Γ:List Fact}
theorem X1a [Dr] {x y:Operand} {ty yt el:TypeId} {u v:List Value} {sz by_ eb m:Nat} {z ez:Value} [hx:Ev e x (.agg ⟨u⟩)] [hy:Ev e y (.agg ⟨v⟩)] [hp:Plain P ty] [hT:Ty P ty (.array m el) sz by_ z] [hE:Ty P el (.int .u8) 1 eb ez] (xs ys:List UInt8)
  (h1:xs.length=m) (h2:ys.length=m) (hu:u=xs.map Xak) (hv:v=ys.map Xak) :
  OpV P n w0 F ⟨d, .binOp .neq ty x y yt,t,pos,aft,g⟩ e Γ (.bool (!decide (xs=ys))):=by
 subst hu hv
 exact Xp8 fun w=>Xsz hT hE rfl xs ys h1 h2 w
theorem Xkm [Dr] {x:Operand} {ty el:TypeId} {b o m k c sz by_:Nat} {z:Value} [hx:Ev e x (.slice (some ⟨b,o,none⟩) k c)] [hT:Ty P ty (.array m el) sz by_ z] (h:m≤k) :
  OpV P n w0 F ⟨d, .sliceToArrayPointer ty x,t,pos,aft,g⟩ e Γ (.pointer (some ⟨b,o,none⟩)) :=
 fun a w fr _=>by
  have h1:=Xav (P:=P) (t:=ty) w
  have:¬ k < m:=by omega
  simp [execOp,hx.ok n a fr,Instr.arrayAt,h1,this]
end
theorem Yby {α:Type} [ic:Cell α] {G:Nat→Prop} {w:World} {a:Option Addr} {c:Nat} {L:List α} (h:(sl a c L).holds G w) {l m:Nat} (hk:l+m≤L.length):(sl (Xgm a c l (Cell.sz α)) (c - l) ((L.drop l).take m)).holds G w:=by
 have hc:=h.1
 exact Xgb (Xrq h (by omega)) (by rw [List.length_drop]; omega) ⟨by omega,Nat.le_refl _⟩
section
variable {P:Program} {n:Nn} {w0:World} {F:Nat→Prop} {Q:Cont} {e:E} {Γ:List Fact}
theorem JC.know [Dr] {c:Code} {p:Prop} (h:∀ w,Hold w0 F Γ w→p) (k:p→JC P n w0 F c Q e Γ):JC P n w0 F c Q e Γ:=fun a w fr ho=>k (h w ho) a w fr ho
end
theorem Yao {α:Type} [ic:Cell α] {G:Nat→Prop} {w:World} {a:Option Addr} {c:Nat} {L:List α} (h:(sl a c L).holds G w) (hne:L≠[]):∃ b off,a=some ⟨b,off,none⟩ :=
 let ⟨b,off,h1,_⟩:=h.2.2.2 hne; ⟨b,off,h1⟩
theorem Ycg {G:Nat→Prop} {w:World} {b off c:Nat} {L:List UInt8} (h:(sl (some ⟨b,off,none⟩) c L).holds G w) (hne:L≠[]):(ro b off (L.map Xak)).holds G w:=by
 obtain ⟨b',off',he,hb,hlt,hrow⟩:=h.2.2.2 hne
 injection he with he
 injection he with h1 h2
 subst h1 h2
 refine ⟨hb,hlt,?_⟩
 intro j u hu
 rw [List.getElem?_map] at hu
 cases hq:L[j]? with
 | none=>rw [hq] at hu; cases hu
 | some q =>
  rw [hq] at hu
  obtain ⟨hjl,hju⟩:=List.getElem?_eq_some_iff.1 hq
  injection hu with hu
  subst hu hju
  exact Xnn h j hjl
def numV:List UInt8→Nat
 | []=>0
 | c::l=>c.toNat % 128+128 * numV l
theorem Xhm (a b:List UInt8):numV (a++b)=numV a+128 ^ a.length * numV b:=by
 induction a with
 | nil=>simp [numV]
 | cons c a ih =>
  simp only [List.cons_append,numV,ih,List.length_cons,Nat.pow_succ]
  rw [Nat.mul_add,Nat.add_assoc,← Nat.mul_assoc,Nat.mul_comm 128 (128 ^ a.length)]
theorem X4p (a:List UInt8):numV a < 128 ^ a.length:=by
 induction a with
 | nil=>simp [numV]
 | cons c a ih =>
  simp only [numV,List.length_cons,Nat.pow_succ]
  have:c.toNat % 128 < 128:=Nat.mod_lt _ (by decide)
  omega
theorem X4q (n:Nat):(UInt8.ofNat n ||| 128).toNat=n % 128+128:=by
 have h1:=Xym n
 have h2:=u8_or_nat (n % 256) 128 (by omega) (by omega)
 have h3:((n:Int) % 256)=((n % 256:Nat):Int):=by omega
 rw [h3] at h1
 have h4:(UInt8.ofNat n ||| 128).toNat=(n % 256 ||| 128):=Int.ofNat.inj (h1.trans h2)
 rw [h4]
 have key:∀ k:Fin 256,(k.1 ||| 128)=k.1 % 128+128:=by decide +kernel
 have:=key ⟨n % 256,Nat.mod_lt _ (by decide)⟩
 simp only at this
 rw [this]; omega
structure Digits (i:List UInt8) (l:UInt8):Prop where
 great:∀ c∈i,128≤c.toNat
 small:l.toNat < 128
 some:i≠[]→l.toNat≠0
theorem Xo7:∀ (f n:Nat),n < 128 ^ (f+1)→numV (numF f n)=n∧∃ i l,numF f n=i++[l]∧Digits i l
 | 0,n,h=>by
  have h:n < 128:=by simpa using h
  have e:(UInt8.ofNat n).toNat=n:=by rw [UInt8.toNat_ofNat']; omega
  refine ⟨by simp [numF,numV,e]; omega,[],UInt8.ofNat n,by simp [numF],by simp,by rw [e]; exact h,by simp⟩
 | f+1,n,h=>by
  simp only [numF]
  split
  ·rename_i hn
   obtain ⟨h1,i,l,h2,h3⟩:=Xo7 f (n / 128) (by rw [Nat.pow_succ] at h; omega)
   refine ⟨?_,(UInt8.ofNat n ||| 128)::i,l,by rw [h2]; rfl,?_,h3.small,fun _=>?_⟩
   ·simp only [numV,h1,X4q]; omega
   ·intro c hc
    rcases List.mem_cons.1 hc with rfl | hc
    ·rw [X4q]; omega
    ·exact h3.great c hc
   ·by_cases hi:i=[]
    ·subst hi
     rw [h2] at h1
     simp only [List.nil_append,numV] at h1
     have:=h3.small
     omega
    ·exact h3.some hi
  ·rename_i hn
   have e:(UInt8.ofNat n).toNat=n:=by rw [UInt8.toNat_ofNat']; omega
   refine ⟨by simp [numV,e]; omega,[],UInt8.ofNat n,by simp,by simp,by rw [e]; omega,by simp⟩
theorem Xft {n:Nat} (h:n < 18446744073709551616):numV (numL n)=n∧∃ i l,numL n=i++[l]∧Digits i l:=Xo7 9 n (by omega)
theorem Xjo:∀ {i j:List UInt8} {l m:UInt8} {r s:List UInt8},(∀ c∈i,128≤c.toNat)→(∀ c∈j,128≤c.toNat)→l.toNat < 128→m.toNat < 128→i++l::r=j++m::s→i=j∧l=m∧r=s
 | [],[],l,m,r,s,_,_,_,_,h=>by
  simp only [List.nil_append,List.cons.injEq] at h; exact ⟨rfl,h.1,h.2⟩
 | [],d::j,l,m,r,s,_,h2,h3,_,h=>by
  simp only [List.nil_append,List.cons_append,List.cons.injEq] at h
  have:=h2 d (by simp)
  rw [← h.1] at this; omega
 | c::i,[],l,m,r,s,h1,_,_,h4,h=>by
  simp only [List.nil_append,List.cons_append,List.cons.injEq] at h
  have:=h1 c (by simp)
  rw [h.1] at this; omega
 | c::i,d::j,l,m,r,s,h1,h2,h3,h4,h=>by
  simp only [List.cons_append,List.cons.injEq] at h
  obtain ⟨e1,e2,e3⟩:=Xjo (fun x hx=>h1 x (by simp [hx])) (fun x hx=>h2 x (by simp [hx])) h3 h4 h.2
  exact ⟨by rw [h.1,e1],e2,e3⟩
theorem X7j {n m:Nat} {r s:List UInt8} (hn:n < 18446744073709551616) (hm:m < 18446744073709551616) (h:numL n++r=numL m++s):n=m∧r=s:=by
 obtain ⟨h1,i,l,h2,h3⟩:=Xft hn
 obtain ⟨k1,j,k,k2,k3⟩:=Xft hm
 have h':=h
 rw [h2,k2,List.append_assoc,List.append_assoc,List.singleton_append,List.singleton_append] at h'
 obtain ⟨e1,e2,e3⟩:=Xjo h3.great k3.great h3.small k3.small h'
 refine ⟨?_,e3⟩
 rw [← h1,← k1,h2,k2,e1,e2]
theorem X4r:∀ (i:List UInt8) (l:UInt8) (f:Nat),Digits i l→i.length≤f→numF f (numV (i++[l]))=i++[l]
 | [],l,f,h,_=>by
  have e:numV ([]++[l])=l.toNat:=by simp only [List.nil_append,numV]; have:=h.small; omega
  rw [e]
  have e2:UInt8.ofNat l.toNat=l:=UInt8.ofNat_toNat
  cases f with
  | zero=>simp [numF,e2]
  | succ f=>simp only [numF]; rw [if_neg (by have:=h.small; omega)]; simp [e2]
 | c::i,l,f,h,hf=>by
  have hd:Digits i l:=⟨fun x hx=>h.great x (by simp [hx]),h.small,fun _=>h.some (by simp)⟩
  have hc:=h.great c (by simp)
  have hl:=h.some (by simp)
  have hv:1≤numV (i++[l]):=by
   rw [Xhm]
   have:numV [l]=l.toNat:=by simp only [numV]; have:=h.small; omega
   rw [this]
   have h1:1≤128 ^ i.length:=Nat.one_le_pow _ _ (by decide)
   have:=Nat.mul_le_mul h1 (show 1≤l.toNat by omega)
   omega
  cases f with
  | zero=>simp at hf
  | succ f =>
   simp only [List.cons_append,numV,numF]
   have hc2:c.toNat < 256:=c.toNat_lt
   rw [if_pos (by omega)]
   have e1:(c.toNat % 128+128 * numV (i++[l])) / 128=numV (i++[l]):=by omega
   rw [e1,X4r i l f hd (by simp at hf; omega)]
   congr 1
   apply UInt8.toNat_inj.1
   rw [X4q]; omega
theorem Yap {i:List UInt8} {l:UInt8} (h:Digits i l) (hl:i.length≤9):numL (numV (i++[l]))=i++[l]:=X4r i l 9 h hl
open Classical in
noncomputable def getN (b:List UInt8):Nat × Nat:=if h:∃ n,n < 18446744073709551616∧numL n <+: b then (Classical.choose h,(numL (Classical.choose h)).length) else (0,0)
theorem Xcl (n:Nat):1≤(numL n).length:=by
 unfold numL
 simp only [numF]
 split <;> simp
theorem Xs0 {b:List UInt8} {n:Nat} (hn:n < 18446744073709551616) (h:numL n <+: b):getN b=(n,(numL n).length):=by
 have hex:∃ n,n < 18446744073709551616∧numL n <+: b:=⟨n,hn,h⟩
 have hs:=Classical.choose_spec hex
 unfold getN
 rw [dif_pos hex]
 obtain ⟨r,hr⟩:=h
 obtain ⟨s,hs2⟩:=hs.2
 have:=(X7j hs.1 hn (hs2.trans hr.symm)).1
 rw [this]
theorem Xdk {n:Nat} (hn:n < 18446744073709551616) (r:List UInt8):getN (numL n++r)=(n,(numL n).length):=Xs0 hn ⟨r,rfl⟩
theorem Xij {b:List UInt8} (h:¬ ∃ n,n < 18446744073709551616∧numL n <+: b):getN b=(0,0):=by unfold getN; rw [dif_neg h]
theorem Xvh {b:List UInt8} (h:(getN b).2≠0):(getN b).1 < 18446744073709551616∧(getN b).2=(numL (getN b).1).length∧b=numL (getN b).1++b.drop (getN b).2∧(getN b).2≤b.length:=by
 by_cases hex:∃ n,n < 18446744073709551616∧numL n <+: b
 ·obtain ⟨n,hn,hp⟩:=hex
  rw [Xs0 hn hp]
  obtain ⟨r,rfl⟩:=hp
  exact ⟨hn,rfl,by simp,by simp⟩
 ·rw [Xij hex] at h; exact (h rfl).elim
theorem Xo8 (b:List UInt8):(getN b).2≤b.length∧(getN b).2≤10:=by
 by_cases h:(getN b).2=0
 ·omega
 ·obtain ⟨_,h2,_,h3⟩:=Xvh h
  exact ⟨h3,by rw [h2]; exact Xa8 _⟩
theorem Xo9 (b:List UInt8):(getN b).1 < 18446744073709551616:=by
 by_cases h:∃ n,n < 18446744073709551616∧numL n <+: b
 ·obtain ⟨n,hn,hp⟩:=h; rw [Xs0 hn hp]; exact hn
 ·rw [Xij h]; decide
theorem Yaq {b:List UInt8} {k:Nat} (hk:k < b.length) (hg:∀ c∈b.take k,128≤c.toNat) (hs:b[k].toNat < 128) :
  getN b=if k≤9∧¬ (0 < k∧b[k].toNat=0)∧¬ (k=9∧1 < b[k].toNat) then (numV (b.take (k+1)),k+1) else (0,0):=by
 have htk:b.take (k+1)=b.take k++[b[k]]:=List.take_succ_eq_append_getElem hk
 have hlen:(b.take k).length=k:=by rw [List.length_take]; omega
 split
 ·rename_i h
  obtain ⟨h1,h2,h3⟩:=h
  have hd:Digits (b.take k) b[k]:=⟨hg,hs,fun hne h0=>h2 ⟨by
   rcases Nat.eq_zero_or_pos k with e | e
   ·subst e; exact (hne (by simp)).elim
   ·exact e,h0⟩⟩
  have hv:numV (b.take (k+1)) < 18446744073709551616:=by
   rw [htk,Xhm,hlen]
   have h4:=X4p (b.take k)
   rw [hlen] at h4
   have h5:numV [b[k]]=b[k].toNat:=by simp only [numV]; omega
   rw [h5]
   by_cases h9:k=9
   ·subst h9
    have:b[9].toNat≤1:=by omega
    have h6:(128:Nat) ^ 9=9223372036854775808:=by decide
    rw [h6] at h4 ⊢
    have:=Nat.mul_le_mul_left 9223372036854775808 this
    omega
   ·have h6:128 ^ (k+1)≤128 ^ 9:=Nat.pow_le_pow_right (by decide) (by omega)
    have h7:(128:Nat) ^ 9=9223372036854775808:=by decide
    rw [h7,Nat.pow_succ] at h6
    have:=Nat.mul_le_mul_left (128 ^ k) (show b[k].toNat≤127 by omega)
    omega
  have hn:=Yap hd (by omega)
  rw [← htk] at hn
  rw [Xs0 hv (by rw [hn]; exact List.take_prefix _ _),hn,List.length_take]
  congr 1; omega
 ·rename_i h
  refine Xij ?_
  rintro ⟨n,hn,r,hr⟩
  obtain ⟨h1,i,l,h2,h3⟩:=Xft hn
  have hb:b.take k++b[k]::b.drop (k+1)=b:=by
   have:=List.take_append_drop k b
   rwa [List.drop_eq_getElem_cons hk] at this
  rw [h2,List.append_assoc,List.singleton_append] at hr
  obtain ⟨e1,e2,_⟩:=Xjo h3.great hg h3.small hs (hr.trans hb.symm)
  have hil:i.length=k:=by rw [e1,hlen]
  have h10:=Xa8 n
  rw [h2,List.length_append,List.length_singleton,hil] at h10
  apply h
  refine ⟨by omega,fun ⟨h4,h5⟩=>?_,fun ⟨h4,h5⟩=>?_⟩
  ·exact h3.some (fun e=>by rw [e] at hil; simp at hil; omega) (by rw [e2]; exact h5)
  ·rw [h2,Xhm,hil,h4] at h1
   have h6:numV [l]=l.toNat:=by simp only [numV]; have:=h3.small; omega
   rw [h6,e2] at h1
   have h7:(128:Nat) ^ 9=9223372036854775808:=by decide
   rw [h7] at h1
   have:=Nat.mul_le_mul_left 9223372036854775808 h5
   omega
theorem X1b {b:List UInt8} (h:∀ c∈b.take 10,128≤c.toNat):getN b=(0,0):=by
 refine Xij ?_
 rintro ⟨n,hn,r,hr⟩
 obtain ⟨_,i,l,h2,h3⟩:=Xft hn
 have h10:=Xa8 n
 have:l∈b.take 10:=by
  rw [h2] at h10 hr
  rw [← hr,List.take_append,List.take_of_length_le h10]
  simp
 have:=h l this
 have:=h3.small
 omega
section
attribute [local irreducible] JC JO JR JQ andThen inBlock OpV Gives Xah JM JS
theorem low7 (c:UInt8):(c &&& 127).toNat=c.toNat % 128:=by
 have key:∀ k:Fin 256,(k.1 &&& 127)=k.1 % 128:=by decide +kernel
 rw [UInt8.toNat_and]; exact key ⟨c.toNat,c.toNat_lt⟩
theorem top1 (c:UInt8):(c &&& 128).toNat=0↔c.toNat < 128:=by
 have key:∀ k:Fin 256,(k.1 &&& 128)=0↔k.1 < 128:=by decide +kernel
 rw [UInt8.toNat_and]; exact key ⟨c.toNat,c.toNat_lt⟩
theorem X7k (N:UInt64) (m i:Nat) (h:N.toNat < 2 ^ (7 * i)) (hm:m * 2 ^ (7 * i) < 18446744073709551616) (hm':m < 256):(N ||| Xnu (UInt64.ofNat m) (7 * i)).toNat=N.toNat+m * 2 ^ (7 * i):=by
 have e1:(UInt64.ofNat m).toNat=m:=by rw [UInt64.toNat_ofNat']; omega
 have e2:(Xnu (UInt64.ofNat m) (7 * i)).toNat=m * 2 ^ (7 * i):=by
  rw [Xnu,e1,UInt64.toNat_ofNat']; exact Nat.mod_eq_of_lt hm
 rw [UInt64.toNat_or,e2,Nat.or_comm,← Nat.shiftLeft_eq,← Nat.shiftLeft_add_eq_or_of_lt h,Nat.add_comm]
theorem pow7 (i:Nat):128 ^ i=2 ^ (7 * i):=by rw [Nat.pow_mul]
theorem X4s {B:List UInt8} {i:Nat} (h:i < B.length):numV (B.take (i+1))=numV (B.take i)+B[i].toNat % 128 * 2 ^ (7 * i):=by
 rw [List.take_succ_eq_append_getElem h,Xhm,List.length_take,Nat.min_eq_left (by omega),pow7,Nat.mul_comm]
 simp [numV]
theorem Xnf {N:UInt64} {B:List UInt8} {i:Nat} (h:i < B.length) (hN:N.toNat=numV (B.take i)) (h9:i≤8∨(i=9∧B[i].toNat≤1)) :
  (N ||| Xnu (UInt64.ofNat (B[i].toNat % 128)) (7 * i)).toNat=numV (B.take (i+1)):=by
 have h1:=X4p (B.take i)
 rw [List.length_take,Nat.min_eq_left (by omega),pow7] at h1
 rw [X7k N _ i (by rw [hN]; exact h1) ?_ (by omega),hN,X4s h]
 rcases h9 with h9 | ⟨h9,hc⟩
 ·have h3:2 ^ (7 * i)≤2 ^ 56:=Nat.pow_le_pow_right (by decide) (by omega)
  have h4:B[i].toNat % 128≤127:=by omega
  have:=Nat.mul_le_mul h4 h3
  have:(2:Nat) ^ 56=72057594037927936:=by decide
  omega
 ·have h4:B[i].toNat % 128≤1:=by omega
  have:=Nat.mul_le_mul_right (2 ^ (7 * i)) h4
  have e:2 ^ (7 * i)=9223372036854775808:=by rw [h9]
  rw [e] at this ⊢
  omega
theorem Xlm (a:Option Addr) (c:Nat) (b:List UInt8) (h:(sl a c b).holds F w) :
  GivesV prog 167 [.slice a b.length c] w F (.tuple ⟨[.int .u64 ((getN b).1:Int), .int .i64 ((getN b).2:Int)]⟩):=by
 have hL:b.length < 9223372036854775807:=by have:=h.2.2.1; simp only [lim] at this; omega
 refine Xaa func167 rfl ntmps167 rfl rfl [.st (sl a c b)] (.start1 h) ?_
 refine wz4 ?_
 refine Wf OpV.min rfl ?_
 refine JO.reslot 10 (.int .i64 ((min b.length 10:Nat):Int)) (by congr 1; omega) ?_
 refine wz13 ?_
 refine Xky (L:=b) (k:=min b.length 10) rfl rfl (by omega) ?_
 intro a1 c1
 obtain ⟨B,hB⟩:∃ B,B=b.take (min b.length 10):=⟨_,rfl⟩
 have hBl:B.length=min b.length 10:=by rw [hB,List.length_take]; omega
 rw [← hB]
 refine wz4 ?_
 refine JC.reslot 4 (w64 0) rfl ?_
 refine Xc8 (fun (i:Nat) (N:UInt64)=>[(4,w64 N),(11, .slice a1 B.length c1),(12, .int .i64 (B.length:Int)),(13, .int .i64 (i:Int))]) (fun i N=>[.st (sl a1 c1 B)])
  (fun i N=>i≤B.length∧(∀ c∈B.take i,128≤c.toNat)∧(i≤9→N.toNat=numV (B.take i))) (fun i _=>B.length - i) 0 0 ⟨Nat.zero_le _,by simp,fun _=>by simp [numV]⟩ iI ?_
 intro i N ⟨hi,hg,hN⟩
 refine wz11 ?_
 refine JC.test (fun hlt=>?_) (fun hge=>?_)
 ·have hi':i < B.length:=by omega
  have hib:i < b.length:=by omega
  have hBi:B[i]=b[i]:=by simp only [hB,List.getElem_take]
  have htk:B.take i=b.take i:=by rw [hB,List.take_take]; congr 1; omega
  refine wz14 ?_
  refine JR.indexByte (L:=B) rfl hi' ?_
  intro bb ob
  obtain ⟨x,hx⟩:∃ x,x=B[i]:=⟨_,rfl⟩
  have hxl:=x.toNat_lt
  rw [← hx]
  refine wz9 ?_
  refine Wf (Xyc (a:=x) (b:=127) (hy:=⟨fun _ _ _=>rfl⟩)) rfl ?_
  refine wz13 ?_
  refine Wf Xaz rfl ?_
  refine JO.reslot 21 (w64 (UInt64.ofNat (x.toNat % 128))) (by
   have e1:(UInt64.ofNat (x.toNat % 128)).toNat=x.toNat % 128:=by rw [UInt64.toNat_ofNat']; omega
   rw [w64,e1,low7,Xd8]; congr 2 <;> omega) ?_
  refine wz6 ?_
  refine Wf (OpV.mul (by omega)) rfl ?_
  refine JO.reslot 23 (.int .i64 ((7 * i:Nat):Int)) (by congr 1) ?_
  refine wz13 ?_
  refine Wf (X10 (by omega)) rfl ?_
  refine wz13 ?_
  refine Wf X5x rfl ?_
  refine wz10 ?_
  refine Wf (Xyc (a:=x) (b:=128) (hy:=⟨fun _ _ _=>rfl⟩)) rfl ?_
  refine wA ?_
  refine JC.test (fun hc=>?_) (fun hc=>?_)
  ·have hx128:128≤x.toNat:=by
    apply Classical.byContradiction
    intro hn
    have:=(top1 x).2 (by omega)
    exact hc (by rw [this]; rfl)
   refine wz12 ?_
   refine ⟨i+1,N ||| Xnu (UInt64.ofNat (x.toNat % 128)) (7 * i),⟨by omega,fun d hd=>?_,fun h9=>by rw [hx]; exact Xnf hi' (hN (by omega)) (.inl (by omega))⟩,by omega,iI⟩
   rw [List.take_succ_eq_append_getElem hi',List.mem_append,List.mem_singleton] at hd
   rcases hd with hd | rfl
   ·exact hg d hd
   ·rw [← hx]; exact hx128
  ·have hx128:x.toNat < 128:=(top1 x).1 (by
    have:((x &&& 128).toNat:Int)=0:=by simpa using hc
    omega)
   have hat:=Yaq hib (by rw [← htk]; exact hg) (by rw [← hBi,← hx]; exact hx128)
   rw [← hBi,← hx] at hat
   by_cases h0:i=0
   ·rw [if_pos ⟨by omega,by omega,by omega⟩] at hat
    have hv:=Xnf hi' (hN (by omega)) (.inl (by omega))
    rw [← hx] at hv
    have htk1:B.take (i+1)=b.take (i+1):=by rw [hB,List.take_take]; congr 1; omega
    rw [htk1] at hv
    rw [hat]
    dsimp only
    refine wz14 ?_
    refine JO.reslot 31 (.bool false) (by simp [h0]) ?_
    refine wX ?_
    refine JO.reslot 38 (.bool false) (by simp [h0]) ?_
    refine wX ?_
    refine Xac () ?_
    rw [w64,hv]; rfl
   by_cases hx0:x.toNat=0
   ·rw [if_neg (fun h=>h.2.1 ⟨by omega,hx0⟩)] at hat
    rw [hat]
    refine wz14 ?_
    refine JO.reslot 31 (.bool true) (by simp; omega) ?_
    refine wz6 ?_
    refine JO.reslot 35 (.bool true) (by simp [hx0]) ?_
    refine wX ?_
    exact Xac () rfl
   by_cases h9:i=9
   ·by_cases hx1:1 < x.toNat
    ·rw [if_neg (fun h=>h.2.2 ⟨h9,hx1⟩)] at hat
     rw [hat]
     refine wz14 ?_
     refine JO.reslot 31 (.bool true) (by simp; omega) ?_
     refine wz6 ?_
     refine JO.reslot 35 (.bool false) (by simp [hx0]) ?_
     refine wz6 ?_
     refine JO.reslot 38 (.bool true) (by simp [h9]) ?_
     refine wX ?_
     refine JC.reslot 42 (.bool true) (by simp; omega) ?_
     refine wz12 ?_
     exact Xac () rfl
    ·rw [if_pos ⟨by omega,by omega,by omega⟩] at hat
     have hv:=Xnf hi' (hN (by omega)) (.inr ⟨h9,by rw [← hx]; omega⟩)
     rw [← hx] at hv
     have htk1:B.take (i+1)=b.take (i+1):=by rw [hB,List.take_take]; congr 1; omega
     rw [htk1] at hv
     rw [hat]
     dsimp only
     refine wz14 ?_
     refine JO.reslot 31 (.bool true) (by simp; omega) ?_
     refine wz6 ?_
     refine JO.reslot 35 (.bool false) (by simp [hx0]) ?_
     refine wz6 ?_
     refine JO.reslot 38 (.bool true) (by simp [h9]) ?_
     refine wX ?_
     refine JC.reslot 42 (.bool false) (by simp; omega) ?_
     refine wX ?_
     refine Xac () ?_
     rw [w64,hv]; rfl
   ·rw [if_pos ⟨by omega,by omega,by omega⟩] at hat
    have hv:=Xnf hi' (hN (by omega)) (.inl (by omega))
    rw [← hx] at hv
    have htk1:B.take (i+1)=b.take (i+1):=by rw [hB,List.take_take]; congr 1; omega
    rw [htk1] at hv
    rw [hat]
    dsimp only
    refine wz14 ?_
    refine JO.reslot 31 (.bool true) (by simp; omega) ?_
    refine wz6 ?_
    refine JO.reslot 35 (.bool false) (by simp [hx0]) ?_
    refine wz6 ?_
    refine JO.reslot 38 (.bool false) (by simp; omega) ?_
    refine wX ?_
    refine Xac () ?_
    rw [w64,hv]; rfl
 ·obtain rfl:i=B.length:=by omega
  rw [List.take_length] at hg
  have hnone:getN b=(0,0):=by
   by_cases h10:10≤b.length
   ·exact X1b (by rw [hB,Nat.min_eq_right h10] at hg; exact hg)
   ·refine Xij ?_
    rintro ⟨n,hn,r,hr⟩
    obtain ⟨_,i,l,h2,h3⟩:=Xft hn
    have hl:l∈B:=by
     rw [hB,Nat.min_eq_left (by omega),List.take_length,← hr,h2]; simp
    have:=hg l hl
    have:=h3.small
    omega
  rw [hnone]
  refine wz3 ?_
  exact Xac () rfl
abbrev X4t:Value:=.iface 291 (.agg ⟨[]⟩)
abbrev Xq2:List PanicEntry:=pan X4t
theorem Xgy:GivesV prog 309 [.bool true] w F (.tuple ⟨[]⟩):=by
 refine Xaa func309 rfl ntmps309 rfl rfl [] (.start w F) ?_
 refine wz7 ?_
 exact Xj6 () rfl
theorem Xfi {w0 w:World} {F:Nat→Prop} {Γ:List Fact} (ho:Hold w0 F Γ w):Calls prog 309 ⟨[.bool false]⟩ w fun x w'=>x = .panicked Xq2∧Hold w0 F Γ w':=by
 refine Xj7 func309 rfl ntmps309 rfl _ ho ?_
 refine wz8 ?_
 refine Wf (OpV.build [] (by kernel_rfl)) rfl ?_
 refine wz13 ?_
 refine Wf (Xry (by kernel_rfl)) rfl ?_
 refine wz13 ?_
 refine JR.panic ?_
 refine z2z ?_
 exact CT.gone (fun w ho=>ho)
section
variable {w0 w:World} {F:Nat→Prop} {Γ:List Fact} {br:Nat} {a:Option Addr} {c:Nat} {L:List UInt8}
theorem X4u (hk:(getN L).2≠0) (ho:Hold w0 F (.own br 295 [.slice a L.length c]::.st (sl a c L)::Γ) w) :
  Calls prog 305 ⟨[.pointer (some ⟨br,0,none⟩)]⟩ w fun x w'=>∃ y:Option Addr × Nat,x = .returned (.int .u64 ((getN L).1:Int))∧Hold w0 F (.own br 295 [.slice y.1 (L.drop (getN L).2).length y.2]::.st (sl y.1 y.2 (L.drop (getN L).2))::Γ) w':=by
 have hkl:=(Xo8 L).1
 refine Xa4 (v:=fun y:Option Addr × Nat=>.int .u64 ((getN L).1:Int)) (B:=fun y=>.own br 295 [.slice y.1 (L.drop (getN L).2).length y.2]::.st (sl y.1 y.2 (L.drop (getN L).2))::Γ) func305 rfl ntmps305 rfl rfl _ ho ?_
 refine wz10 ?_
 refine Wf OpV.nilCheck rfl ?_
 refine wz6 ?_
 refine JR.callV rfl (fun w1 hw=>Xlm w1 _ a c L hw.get) ?_
 refine wA ?_
 refine JR.reslot 14 (.bool true) (by congr 1; exact decide_eq_true (by omega)) ?_
 refine JR.callV rfl (fun w1 hw=>Xgy w1 _) ?_
 refine wz10 ?_
 refine Wf OpV.nilCheck rfl ?_
 refine wz6 ?_
 refine Xb4 (L:=L) (k:=(getN L).2) rfl rfl hkl ?_
 intro a2 c2
 refine wz13 ?_
 refine Wf OpV.nilCheck rfl ?_
 refine wz6 ?_
 refine JR.reslot 24 (.pointer (some ⟨br,0,none⟩)) rfl ?_
 refine Wi ?_
 refine wz10 ?_
 exact Xac (a2,c2) rfl
theorem X4v (hk:(getN L).2=0) (ho:Hold w0 F (.own br 295 [.slice a L.length c]::.st (sl a c L)::Γ) w) :
  Calls prog 305 ⟨[.pointer (some ⟨br,0,none⟩)]⟩ w fun x w'=>x = .panicked Xq2∧Hold w0 F Γ w':=by
 refine Xj7 func305 rfl ntmps305 rfl _ ho ?_
 refine wz10 ?_
 refine Wf OpV.nilCheck rfl ?_
 refine wz6 ?_
 refine JR.callV rfl (fun w1 hw=>Xlm w1 _ a c L hw.get) ?_
 refine wA ?_
 refine JR.reslot 14 (.bool false) (by congr 1; exact decide_eq_false (by omega)) ?_
 refine Xc9 (fun w1 hw=>Xfi hw) ?_
 refine z2z ?_
 exact CT.gone (fun w ho=>ho.ent)
theorem Xxq (m:Nat) (hm:m≤1048576) (hk:(getN L).2≠0) (hn:(getN L).1≤m) (ho:Hold w0 F (.own br 295 [.slice a L.length c]::.st (sl a c L)::Γ) w) :
  Calls prog 306 ⟨[.pointer (some ⟨br,0,none⟩), .int .i64 (m:Int)]⟩ w fun x w'=>∃ y:Option Addr × Nat,x = .returned (.int .i64 ((getN L).1:Int))∧Hold w0 F (.own br 295 [.slice y.1 (L.drop (getN L).2).length y.2]::.st (sl y.1 y.2 (L.drop (getN L).2))::Γ) w':=by
 refine Xa4 (v:=fun y:Option Addr × Nat=>.int .i64 ((getN L).1:Int)) (B:=fun y=>.own br 295 [.slice y.1 (L.drop (getN L).2).length y.2]::.st (sl y.1 y.2 (L.drop (getN L).2))::Γ) func306 rfl ntmps306 rfl rfl _ ho ?_
 refine wz10 ?_
 refine Xal (v:=fun y:Option Addr × Nat=>.int .u64 ((getN L).1:Int)) (B:=fun y=>.own br 295 [.slice y.1 (L.drop (getN L).2).length y.2]::.st (sl y.1 y.2 (L.drop (getN L).2))::Γ) rfl (fun w1 hw=>X4u hk hw) ?_
 rintro ⟨a2,c2⟩
 dsimp only
 refine wz10 ?_
 refine Wf Xaz rfl ?_
 refine JO.reslot 10 (.int .u64 (m:Int)) (by rw [Xd8]; congr 2; omega) ?_
 refine wA ?_
 refine JR.reslot 11 (.bool true) (by congr 1; exact decide_eq_true (by omega)) ?_
 refine JR.callV rfl (fun w1 hw=>Xgy w1 _) ?_
 refine wz10 ?_
 refine Wf Xaz rfl ?_
 refine JO.reslot 14 (.int .i64 ((getN L).1:Int)) (by rw [Xc3 (by omega)]) ?_
 refine wz10 ?_
 exact Xac (a2,c2) rfl
theorem Xs1 (m:Nat) (hm:m≤1048576) (hk:(getN L).2=0∨m < (getN L).1) (ho:Hold w0 F (.own br 295 [.slice a L.length c]::.st (sl a c L)::Γ) w) :
  Calls prog 306 ⟨[.pointer (some ⟨br,0,none⟩), .int .i64 (m:Int)]⟩ w fun x w'=>x = .panicked Xq2∧Hold w0 F Γ w':=by
 refine Xj7 func306 rfl ntmps306 rfl _ ho ?_
 refine wz10 ?_
 by_cases h0:(getN L).2=0
 ·refine Xc9 (fun w1 hw=>X4v h0 hw) ?_
  refine z2z ?_
  exact CT.gone (fun w ho=>ho)
 refine Xal (v:=fun y:Option Addr × Nat=>.int .u64 ((getN L).1:Int)) (B:=fun y=>.own br 295 [.slice y.1 (L.drop (getN L).2).length y.2]::.st (sl y.1 y.2 (L.drop (getN L).2))::Γ) rfl (fun w1 hw=>X4u h0 hw) ?_
 rintro ⟨a2,c2⟩
 dsimp only
 refine wz10 ?_
 refine Wf Xaz rfl ?_
 refine JO.reslot 10 (.int .u64 (m:Int)) (by rw [Xd8]; congr 2; omega) ?_
 refine wA ?_
 refine JR.reslot 11 (.bool false) (by congr 1; exact decide_eq_false (by omega)) ?_
 refine Xc9 (fun w1 hw=>Xfi hw) ?_
 refine z2z ?_
 exact CT.gone (fun w ho=>ho.ent)
def Xkn (L:List UInt8) (h:32≤L.length):ID:=⟨L.take 32,by rw [List.length_take]; omega⟩
theorem Xvi (L:List UInt8) (h:32≤L.length):(L.take 32).map Xak=idc (Xkn L h):=rfl
theorem Ych (h:32≤L.length) (ho:Hold w0 F (.own br 295 [.slice a L.length c]::.st (sl a c L)::Γ) w) :
  Calls prog 307 ⟨[.pointer (some ⟨br,0,none⟩)]⟩ w fun x w'=>∃ y:Option Addr × Nat,x = .returned (.agg ⟨idc (Xkn L h)⟩)∧Hold w0 F (.own br 295 [.slice y.1 (L.drop 32).length y.2]::.st (sl y.1 y.2 (L.drop 32))::Γ) w':=by
 refine Xa4 (v:=fun y:Option Addr × Nat=>.agg ⟨idc (Xkn L h)⟩) (B:=fun y=>.own br 295 [.slice y.1 (L.drop 32).length y.2]::.st (sl y.1 y.2 (L.drop 32))::Γ) func307 rfl ntmps307 rfl rfl _ ho ?_
 (repeat (refine wE ?_; intro _)); refine wA ?_
 rename_i b2
 refine Wf OpV.nilCheck rfl ?_
 refine wA ?_
 refine JR.reslot 8 (.bool true) (by congr 1; exact decide_eq_true (by omega)) ?_
 refine JR.callV rfl (fun w1 hw=>Xgy w1 _) ?_
 refine wz10 ?_
 refine JC.drawP mixed ?_
 refine Xab 0 ?_
 refine Xab 1 ?_
 refine Xab 2 ?_
 refine Xab 3 ?_
 refine JP.tv 4 [.own br 295 [.slice a L.length c]] ?_
 refine JP.pure 5 rfl (by kernel_rfl) rfl (fun _=>Xh1) rfl rfl ?_
 refine Xab 6 ?_
 refine Xab 7 ?_
 refine Xab 8 ?_
 refine JP.tv 9 [.own br 295 [.slice a L.length c]] ?_
 refine Xai 10 rfl rfl (Xwm (L:=L) rfl h (by decide) (by simp) (Wd (nO ?_)))
 refine JP.more (Γ':=.st (sl (Xgm a c 32 1) (c - 32) (L.drop 32))::.own b2 72 ((L.take 32).map Xak)::.own br 295 [.slice a L.length c]::.st (sl a c L)::Γ) (fun w1 ho=>?_) ?_
 ·exact ((ho.ent:Hold _ _ (.own b2 72 ((L.take 32).map Xak)::.own br 295 [.slice a L.length c]::.st (sl a c L)::Γ) w1).add (A:=sl (Xgm a c 32 1) (c - 32) (L.drop 32)) (Xrq (k:=32) (ho.get (A:=sl a c L)) h))
 refine JP.take 11 [.st (sl a c L)] rfl (by kernel_rfl) rfl (Xeo (l:=32) (s:=1) rfl (fun w1 ho=>⟨h,(Hold.get (A:=sl a c L) ho).1⟩)) rfl rfl ?_
 refine JP.reslot 21 (.slice (Xgm a c 32 1) (L.drop 32).length (c - 32)) (by congr 1; simp) ?_
 refine Xab 12 ?_
 refine Xab 13 ?_
 refine JP.reslot 23 (.pointer (some ⟨br,0,none⟩)) rfl ?_
 refine Xai 14 rfl rfl (Wi (Wd (nO ?_)))
 refine JP.nil (by kernel_rfl) ?_
 rw [Xvi L h]
 refine wz9 ?_
 exact Xac (Xgm a c 32 1,c - 32) rfl
theorem Ybz (h:L.length < 32) (ho:Hold w0 F (.own br 295 [.slice a L.length c]::.st (sl a c L)::Γ) w) :
  Calls prog 307 ⟨[.pointer (some ⟨br,0,none⟩)]⟩ w fun x w'=>x = .panicked Xq2∧Hold w0 F Γ w':=by
 refine Xj7 func307 rfl ntmps307 rfl _ ho ?_
 (repeat (refine wE ?_; intro _)); refine wA ?_
 refine Wf OpV.nilCheck rfl ?_
 refine wA ?_
 refine JR.reslot 8 (.bool false) (by congr 1; exact decide_eq_false (by omega)) ?_
 refine Xc9 (fun w1 hw=>Xfi hw) ?_
 refine z2z ?_
 exact CT.gone (fun w ho=>ho.ent)
end
end
def strB (L:List UInt8):ByteArray:=⟨L.toArray⟩
theorem Xxr (L:List UInt8):strOfNums (L.map fun b=>(b.toNat:Int))=strB L:=by
 simp only [strOfNums,strB,List.map_map]
 congr 2
 conv=>rhs; rw [← List.map_id L]
 apply List.map_congr_left
 intro b _
 simp
theorem Xev [Dr] {P:Program} {n:Nn} {w0:World} {F:Nat→Prop} {d:Option Nat} {t:TypeId} {pos:String} {aft:Array Edge} {g:Option (Nat × Bool)} {e:E} {Γ:List Fact}
  {x:Operand} {src dst el:TypeId} {v:Value} {L:List UInt8} {s1 b1 s2 b2 s3 b3:Nat} {z1 z2 z3:Value} [hx:Ev e x v] [hL:HasSl Γ v UInt8 iI L]
  [hs:Ty P src (.slice el) s1 b1 z1] [hE:Ty P el (.int .u8) s2 b2 z2] [hD:Ty P dst .string s3 b3 z3]:OpV P n w0 F ⟨d, .convert src dst x,t,pos,aft,g⟩ e Γ (.string (strB L)) :=
 fun a w fr ho=>by
  obtain ⟨a0,c,rfl,hsl⟩:=hL.holds ho
  have key:(convert src dst (.slice a0 L.length c)).run P w = .ok (.string (strB L)) w:=by
   by_cases hne:L=[]
   ·subst hne
    cases a0 with
    | none=>exact run_convert_bytes_nil w src el hs.und hE.und _ _ dst hD.und
    | some a0 =>
     obtain ⟨b,off,sp⟩:=a0
     rw [run_convert_bytes_string w src dst el _ _ _ hs.und hE.und hD.und]
     have hl:(loadCells ⟨b,off,sp⟩ ([]:List UInt8).length).run P w = .ok (([]:List Int).map (Value.int .u8)).toArray w:=by
      have:=run_loadCells_list (P:=P) w ⟨b,off,sp⟩ ([]:List Value) (fun j v hj=>by simp at hj)
      simpa using this
     rw [run_bytesToString w _ _ c [] hl]; rfl
   ·obtain ⟨b,off,rfl,_,_,hr⟩:=hsl.2.2.2 hne
    have:=run_convert_bytes_arg w src el hs.und hE.und b off L.length c (L.map fun b=>(b.toNat:Int)) (by simp) (fun i hi=>by
     obtain ⟨y,h1,_⟩:=hr i hi
     have h2:=h1 0 (Xak L[i]) rfl
     have e:off+i * Cell.sz UInt8+0=off+i:=by show off+i * 1+0=off+i; omega
     rw [e] at h2
     rw [h2]
     simp [Xak,List.getD_eq_getElem?_getD,hi]) dst hD.und
    rw [Xxr] at this
    exact this
  simp [execOp,hx.ok n a fr,key]
section
attribute [local irreducible] JC JO JR JQ andThen inBlock OpV Gives Xah JM JS
def Xek (m:Nat):Int:=if m % 2=0 then ((m / 2:Nat):Int) else -1 - ((m / 2:Nat):Int)
theorem Yar (m:Nat):(BitVec.ofInt 64 (m:Int) &&& BitVec.ofInt 64 1).toNat=m % 2:=by
 rw [BitVec.toNat_and]
 have e1:(BitVec.ofInt 64 (m:Int)).toNat=m % 18446744073709551616:=by
  rw [BitVec.toNat_ofInt]; omega
 have e2:(BitVec.ofInt 64 1).toNat=1:=by decide
 rw [e1,e2,Nat.and_one_is_mod]; omega
theorem X1c (m:Nat) (h:m < 18446744073709551616):IntKind.i64.wrap ((BitVec.ofInt 64 ((m / 2:Nat):Int) ^^^ BitVec.ofInt 64 (IntKind.i64.wrap (0 - ((m % 2:Nat):Int)))).toNat:Int)=Xek m:=by
 have e1:(BitVec.ofInt 64 ((m / 2:Nat):Int)).toNat=m / 2:=by rw [BitVec.toNat_ofInt]; omega
 rcases Nat.mod_two_eq_zero_or_one m with h0 | h0
 ·rw [h0]
  have e2:BitVec.ofInt 64 (IntKind.i64.wrap (0 - ((0:Nat):Int)))=0#64:=by rw [Xc3 (by omega)]; decide
  rw [e2,BitVec.xor_zero,e1,Xc3 (by omega),Xek,if_pos h0]
 ·rw [h0]
  have e2:BitVec.ofInt 64 (IntKind.i64.wrap (0 - ((1:Nat):Int)))=BitVec.allOnes 64:=by rw [Xc3 (by omega)]; decide
  rw [e2,BitVec.xor_allOnes,BitVec.toNat_not,e1,Xek,if_neg (by omega)]
  have e3:((2 ^ 64 - 1 - m / 2:Nat):Int)=18446744073709551615 - ((m / 2:Nat):Int):=by omega
  rw [e3,IntKind.wrap_i64]
  omega
theorem Xq3 (m:Nat) (h:m < 18446744073709551616):GivesV prog 168 [.int .u64 (m:Int)] w F (.int .i64 (Xek m)):=by
 refine Xaa func168 rfl ntmps168 rfl rfl [] (.start w F) ?_
 refine wz10 ?_
 refine Wf (OpV.shr (by decide)) rfl ?_
 refine JO.reslot 4 (.int .u64 ((m / 2:Nat):Int)) (by
  congr 1
  show (m:Int).fdiv 2=_
  rw [Int.fdiv_eq_ediv_of_nonneg _ (by decide)]; omega) ?_
 refine We rfl ?_
 refine Wf Xaz rfl ?_
 refine JO.reslot 5 (.int .i64 ((m / 2:Nat):Int)) (by rw [Xc3 (by omega)]) ?_
 refine wz6 ?_
 refine Wf OpV.and rfl ?_
 refine JO.reslot 7 (.int .u64 ((m % 2:Nat):Int)) (by
  show Value.int .u64 (IntKind.u64.wrap ((BitVec.ofInt 64 (m:Int) &&& BitVec.ofInt 64 1).toNat:Int))=_
  rw [Yar,Xd8]; congr 2; omega) ?_
 refine We rfl ?_
 refine Wf Xaz rfl ?_
 refine JO.reslot 8 (.int .i64 ((m % 2:Nat):Int)) (by rw [Xc3 (by omega)]) ?_
 refine We rfl ?_
 refine Wf OpV.neg rfl ?_
 refine We rfl ?_
 refine Wf OpV.xor rfl ?_
 refine JO.reslot 10 (.int .i64 (Xek m)) (by rw [← X1c m h]; rfl) ?_
 refine wz10 ?_
 exact Xac () rfl
theorem Xel (a:Option Addr) (c:Nat) (L:List UInt8) (h:(sl a c L).holds F w) (hl:L.length≤34359738368) :
  GivesBuf prog 145 [.slice a L.length c] w F 5 L:=by
 refine Xaa func145 rfl ntmps145 rfl rfl [.st (sl a c L)] (.start1 h) ?_
 refine wA ?_
 refine JC.test (fun ha=>?_) (fun ha=>?_)
 ·cases a with
  | some a=>cases ha
  | none =>
   obtain rfl:=Xcv h
   refine wz9 ?_
   exact CT.done (none,0) rfl (fun w ho=>ho.bufNil)
 ·refine wz14 ?_
  refine Xhw (α:=UInt8) rfl ?_
  intro a2
  refine wz6 ?_
  refine Xbc rfl (by exact ⟨rfl,rfl,by decide⟩) (by simpa using hl) ?_
  intro a3 c3
  rw [List.nil_append]
  refine wz10 ?_
  exact Xac (a3,c3) rfl
noncomputable def cutT (b:List UInt8) (m:Nat):ByteArray × List UInt8 × Bool :=
 if (getN b).2=0∨m < (getN b).1∨b.length - (getN b).2 < (getN b).1 then (.empty,[],false) else (strB ((b.drop (getN b).2).take (getN b).1),(b.drop (getN b).2).drop (getN b).1,true)
theorem Xpa (b:List UInt8) (m:Nat):(cutT b m).1.size≤m:=by
 unfold cutT
 split
 ·exact Nat.zero_le _
 ·rename_i h
  simp only [strB,ByteArray.size,List.size_toArray,List.length_take]
  omega
theorem X4w (a:Option Addr) (c:Nat) (b:List UInt8) (m:Nat) (h:(sl a c b).holds F w) (hl:b.length≤34359738368) (hm:m≤1048576) :
  Gives prog 173 [.slice a b.length c, .int .i64 (m:Int)] w F (fun y:Option Addr × Nat=>.tuple ⟨[.string (cutT b m).1, .slice y.1 (cutT b m).2.1.length y.2, .bool (cutT b m).2.2]⟩) (fun y=>[.st (sl y.1 y.2 (cutT b m).2.1)]):=by
 have hkl:=(Xo8 b).1
 have hn64:=Xo9 b
 refine Xaa func173 rfl ntmps173 rfl rfl [.st (sl a c b)] (.start1 h) ?_
 refine wz10 ?_
 refine JR.callV rfl (fun w1 hw=>Xlm w1 _ a c b hw.get) ?_
 refine wz4 ?_
 refine JO.test 16 (fun h0=>?_) (fun h0=>?_)
 ·have e:cutT b m=(.empty,[],false):=by unfold cutT; rw [if_pos (.inl (by omega))]
  rw [e]
  refine wz8 ?_
  exact CT.done (none,0) rfl (fun w ho=>(ho.ent:Hold _ _ [] w).add Xan)
 refine wz11 ?_
 refine Wf Xaz rfl ?_
 refine JO.reslot 23 (.int .u64 (m:Int)) (by rw [Xd8]; congr 2; omega) ?_
 refine wz5 ?_
 refine JO.test 26 (fun h1=>?_) (fun h1=>?_)
 ·have e:cutT b m=(.empty,[],false):=by unfold cutT; rw [if_pos (.inr (.inl (by omega)))]
  rw [e]
  refine wz8 ?_
  exact CT.done (none,0) rfl (fun w ho=>(ho.ent:Hold _ _ [] w).add Xan)
 refine wX ?_
 refine Wf Xaz rfl ?_
 refine JO.reslot 32 (.int .u64 ((b.length - (getN b).2:Nat):Int)) (by
  rw [Xd8]; congr 2; omega) ?_
 refine wz5 ?_
 refine JC.test (fun h2=>?_) (fun h2=>?_)
 ·have e:cutT b m=(.empty,[],false):=by unfold cutT; rw [if_pos (.inr (.inr (by omega)))]
  rw [e]
  refine wz9 ?_
  exact CT.done (none,0) rfl (fun w ho=>(ho.ent:Hold _ _ [] w).add Xan)
 obtain ⟨B,hB⟩:∃ B,B=b.drop (getN b).2:=⟨_,rfl⟩
 have hBl:B.length=b.length - (getN b).2:=by rw [hB,List.length_drop]
 have e:cutT b m=(strB (B.take (getN b).1),B.drop (getN b).1,true):=by unfold cutT; rw [if_neg (by omega),hB]
 rw [e]
 obtain ⟨n,hn⟩:∃ n,n=(getN b).1:=⟨_,rfl⟩
 rw [← hn] at h1 h2 ⊢
 refine wz14 ?_
 refine Xb4 (L:=b) (k:=(getN b).2) rfl rfl hkl ?_
 rw [← hB]
 intro a1 c1
 refine wz10 ?_
 refine JC.more (Γ':=[.st (sl a1 c1 (B.take n)), .st (sl (Xgm a1 c1 n 1) (c1 - n) (B.drop n)), .st (sl a1 c1 B)]) (fun w1 ho=>?_) ?_
 ·have h1:=ho.add (A:=sl (Xgm a1 c1 n 1) (c1 - n) (B.drop n)) (Xrq (k:=n) (ho.get (A:=sl a1 c1 B)) (by omega))
  have h2:=h1.add (A:=sl a1 c1 (B.take n)) (Xgb (k:=n) (c':=c1) (h1.get (A:=sl a1 c1 B)) (by omega) ⟨by have:=(h1.get (A:=sl a1 c1 B)).1; omega,Nat.le_refl _⟩)
  exact h2.ent
 refine Xb1 11 mixed ?_
 refine JM.tv 0 ?_
 refine JM.tv 1 ?_
 refine JM.take 2 rfl (by kernel_rfl) rfl (Xa6 (k:=n) (fun w1 ho=>by have:=(Hold.get (A:=sl a1 c1 B) ho).1; omega)) rfl rfl ?_
 refine JM.reslot 40 (.slice a1 (B.take n).length c1) (by congr 1; rw [List.length_take]; omega) ?_
 refine JM.take 3 rfl (by kernel_rfl) rfl (Xev (L:=B.take n)) rfl rfl ?_
 refine JM.tv 4 ?_
 refine JM.tv 5 ?_
 refine JM.take 6 rfl (by kernel_rfl) rfl (Xeo (l:=n) (s:=1) rfl (fun w1 ho=>⟨by omega,(Hold.get (A:=sl a1 c1 B) ho).1⟩)) rfl rfl ?_
 refine JM.reslot 44 (.slice (Xgm a1 c1 n 1) (B.drop n).length (c1 - n)) (by congr 1; rw [List.length_drop]) ?_
 refine JM.one 7 (by kernel_rfl) rfl rfl rfl rfl (JS.callBuf rfl (fun w1 hw=>Xel w1 _ (Xgm a1 c1 n 1) (c1 - n) (B.drop n) hw.get (by rw [List.length_drop]; omega)) fun a2 c2=>?_)
 refine JM.more (fun w1 ho=>ho.pub) ?_
 refine JM.one 8 (by kernel_rfl) rfl rfl rfl rfl (JS.val Vb rfl ?_)
 refine JM.one 9 (by kernel_rfl) rfl rfl rfl rfl (JS.val Vb rfl ?_)
 refine JM.one 10 (by kernel_rfl) rfl rfl rfl rfl (JS.val Vb rfl ?_)
 refine JM.nil (by kernel_rfl) ?_
 refine wz13 ?_
 exact Xac (a2,c2) rfl
def Xmu (L:List UInt8):List UInt8:=(sumL L).take 4
theorem Xf6 (L:List UInt8):(Xmu L).length=4:=by unfold Xmu; rw [List.length_take,Xji]; rfl
theorem four {L:List UInt8} (h:L.length=32):∃ a b c d r,L=a::b::c::d::r∧L.take 4=[a,b,c,d]:=by
 match L,h with
 | a::b::c::d::r,_=>exact ⟨a,b,c,d,r,rfl,rfl⟩
theorem X4x (a:Option Addr) (c:Nat) (L:List UInt8) (h:(sl a c L).holds F w) (hL:L.length≤1048576) :
  GivesV prog 266 [.slice a L.length c] w F (.agg ⟨(Xmu L).map Xak⟩):=by
 obtain ⟨s0,s1,s2,s3,r,h1,h2⟩:=four (Xji L)
 have hq:Xmu L=[s0,s1,s2,s3]:=h2
 rw [hq]
 have hi:idc (sumI L)=Xak s0::Xak s1::Xak s2::Xak s3::r.map Xak:=by
  show (sumI L).1.map Xak=_
  rw [X6n,h1]; rfl
 refine Xaa func266 rfl ntmps266 rfl rfl [.st (sl a c L)] (.start1 h) ?_
 (repeat (refine wE ?_; intro _)); refine wA ?_
 refine JR.callV rfl (fun w1 hw=>Xw6 w1 _ a c L hw.get hL) ?_
 (repeat (refine wE ?_; intro _)); refine wA ?_
 refine Wf (Xi6 (k:=4) (by decide)) rfl ?_
 refine wz13 ?_
 refine Wf (Xkm (by decide)) rfl ?_
 rw [hi]
 refine wz9 ?_
 exact Xac () rfl
def Xbn (L:List UInt8):List UInt8:=numL L.length++L++Xmu L
theorem Xbz (L:List UInt8):(Xbn L).length=(numL L.length).length+L.length+4:=by unfold Xbn; rw [List.length_append,List.length_append,Xf6]
def Xpb (L:List UInt8):List UInt8 × Int:=if 4000 < L.length then ([],5) else (Xbn L,0)
theorem Xvj (a:Option Addr) (c:Nat) (L:List UInt8) (h:(sl a c L).holds F w) :
  Xg4 prog 215 [.slice a L.length c] w F (Xpb L).1 [.int .i64 (Xpb L).2]:=by
 obtain ⟨s0,s1,s2,s3,r,h1,h2⟩:=four (Xji L)
 have hq:Xmu L=[s0,s1,s2,s3]:=h2
 refine Xaa func215 rfl ntmps215 rfl rfl [.st (sl a c L)] (.start1 h) ?_
 refine wz5 ?_
 refine JC.test (fun h4=>?_) (fun h4=>?_)
 ·have e:Xpb L=([],5):=if_pos (by omega)
  rw [e]
  refine wz9 ?_
  exact CT.done (none,0) rfl (fun w ho=>(ho.ent:Hold _ _ [] w).add Xan)
 ·have e:Xpb L=(Xbn L,0):=if_neg (by omega)
  rw [e]
  refine wz14 ?_
  refine JR.callV rfl (fun w1 hw=>X4x w1 _ a c L hw.get (by omega)) ?_
  rw [hq]
  (repeat (refine wE ?_; intro _)); refine wA ?_
  rename_i b4
  refine JR.reslot 9 (.agg ⟨[Xak s0,Xak s1,Xak s2,Xak s3]⟩) rfl ?_
  refine wz9 ?_
  refine JC.drawP mixed ?_
  refine Xab 0 ?_
  refine Xab 1 ?_
  refine Xab 2 ?_
  refine JP.reslot 12 (.int .u64 (L.length:Int)) (by rw [Xd8]; congr 2; omega) ?_
  refine Xab 4 ?_
  refine JP.pure 6 rfl (by kernel_rfl) rfl (fun _=>Xh1) rfl rfl ?_
  refine Xai 3 rfl rfl (JR.callBuf rfl (fun w1 hw=>Xh8 L.length (by omega) w1 _) fun a5 c5=>Wd (nO ?_))
  refine Xai 5 rfl rfl (Xbc (L':=L) rfl (by exact ⟨rfl,rfl,by decide⟩) (by have:=Xa8 L.length; omega) fun a6 c6=>Wd (nO ?_))
  refine Xai 7 rfl rfl (Xen (M:=Xmu L) rfl (by rw [hq]; rfl) rfl (Xf6 L) (by exact ⟨rfl,rfl,by decide⟩) (by have:=Xa8 L.length; rw [List.length_append]; omega) fun a7 c7=>Wd (nO ?_))
  refine Xab 8 ?_
  refine Xab 9 ?_
  refine JP.nil (by kernel_rfl) ?_
  refine Wa ?_
  refine JC.more (fun w ho=>ho.pub) ?_
  refine wz13 ?_
  exact CT.done (a7,c7) rfl (fun w ho=>(ho.ent:Hold _ _ [.st (sl a7 c7 (numL L.length++L++Xmu L))] w))
def Xgz (b:List UInt8) (room:Int) (L:List UInt8):List UInt8 × Int :=
 if 4000 < L.length then ([],5) else if room < (b.length+(Xbn L).length:Nat) then ([],4) else (b++Xbn L,0)
theorem X4y (a a2:Option Addr) (c c2:Nat) (b L:List UInt8) (room:Int) (h:(sl a c b).holds F w) (h2:(sl a2 c2 L).holds F w) (hb:b.length≤1048576) :
  Gives prog 269 [.slice a b.length c, .int .i64 room, .slice a2 L.length c2] w F (fun y:Option Addr × Nat=>.tuple ⟨[.slice y.1 (Xgz b room L).1.length y.2, .int .i64 (Xgz b room L).2]⟩) (fun y=>[.res (buf y.1 y.2 5 (Xgz b room L).1)]):=by
 refine Xaa func269 rfl ntmps269 rfl rfl [.st (sl a c b), .st (sl a2 c2 L)] (.start2 h h2) ?_
 refine wz10 ?_
 refine Xcy rfl (fun w1 hw=>Xvj w1 _ a2 c2 L hw.get) ?_
 intro a3 c3
 by_cases h4:4000 < L.length
 ·have e:Xpb L=([],5):=if_pos h4
  have e2:Xgz b room L=([],5):=if_pos h4
  rw [e,e2]
  refine wA ?_
  exact CT.done (none,0) rfl (fun w ho=>((ho.ent:Hold _ _ [] w).bufNil:Hold _ _ [.res (buf (α:=UInt8) none 0 5 [])] w))
 have e:Xpb L=(Xbn L,0):=if_neg h4
 rw [e]
 dsimp only
 have hfl:=Xbz L
 have hnl:=Xa8 L.length
 refine wA ?_
 refine JC.test (fun h5=>?_) (fun h5=>?_)
 ·have e2:Xgz b room L=([],4):=by unfold Xgz; rw [if_neg h4,if_pos (by omega)]
  rw [e2]
  refine wz9 ?_
  exact CT.done (none,0) rfl (fun w ho=>((ho.ent:Hold _ _ [] w).bufNil:Hold _ _ [.res (buf (α:=UInt8) none 0 5 [])] w))
 ·have e2:Xgz b room L=(b++Xbn L,0):=by unfold Xgz; rw [if_neg h4,if_neg (by omega)]
  rw [e2]
  refine wz14 ?_
  refine JR.callBuf rfl (fun w1 hw=>Xel w1 _ a c b hw.get (by omega)) ?_
  intro a5 c5
  refine wz6 ?_
  refine Xbc (L':=Xbn L) rfl (by exact ⟨rfl,rfl,by decide⟩) (by omega) ?_
  intro a6 c6
  refine wz10 ?_
  exact Xac (a6,c6) rfl
noncomputable def storeT (b:List UInt8) (room:Int) (c:Commit):List UInt8 × Int:=if (Xaw c).2=0 then Xgz b room (Xaw c).1 else ([],(Xaw c).2)
theorem X4z (a a2:Option Addr) (k k2:Nat) (b:List UInt8) (room:Int) (c:Commit) (h:(sl a k b).holds F w) (h2:(sl a2 k2 c.parents).holds F w) (ht:Xmq c) (hb:b.length≤1048576) :
  Gives prog 219 [.slice a b.length k, .int .i64 room,Xap c a2 k2] w F (fun y:Option Addr × Nat=>.tuple ⟨[.slice y.1 (storeT b room c).1.length y.2, .int .i64 (storeT b room c).2]⟩) (fun y=>[.res (buf y.1 y.2 5 (storeT b room c).1)]):=by
 refine Xaa func219 rfl ntmps219 rfl rfl [.st (sl a k b), .st (sl a2 k2 c.parents)] (.start2 h h2) ?_
 (repeat (refine wE ?_; intro _)); refine wA ?_
 refine Xcy rfl (fun w1 hw=>Xqr w1 _ c a2 k2 hw.get ht) ?_
 intro a3 c3
 refine wA ?_
 refine JC.test (fun h5=>?_) (fun h5=>?_)
 ·have e2:storeT b room c=([],(Xaw c).2):=if_neg h5
  rw [e2]
  refine wz9 ?_
  exact CT.done (none,0) rfl (fun w ho=>((ho.ent:Hold _ _ [] w).bufNil:Hold _ _ [.res (buf (α:=UInt8) none 0 5 [])] w))
 ·have e2:storeT b room c=Xgz b room (Xaw c).1:=if_pos (by omega)
  rw [e2]
  refine wz14 ?_
  refine JR.call1 (B:=fun y:Option Addr × Nat=>.res (buf y.1 y.2 5 (Xgz b room (Xaw c).1).1)) rfl (fun w1 hw=>X4y w1 _ a a3 k c3 b (Xaw c).1 room hw.get hw.get hb) ?_
  rintro ⟨a6,c6⟩
  dsimp only
  refine wA ?_
  exact Xac (a6,c6) rfl
noncomputable def readStep (b:List UInt8):Option (List UInt8 × List UInt8) :=
 if (getN b).2=0∨4000 < (getN b).1∨b.length < (getN b).2+(getN b).1+4 then none
 else if Xmu ((b.drop (getN b).2).take (getN b).1)=(b.drop ((getN b).2+(getN b).1)).take 4 then some ((b.drop (getN b).2).take (getN b).1,b.drop ((getN b).2+(getN b).1+4)) else none
theorem Xd3 {b x r:List UInt8} (h:readStep b=some (x,r)):x.length≤4000∧b=Xbn x++r:=by
 unfold readStep at h
 split at h
 ·cases h
 ·rename_i h0
  split at h
  ·rename_i hq
   cases h
   obtain ⟨h1,h2,h3,h4⟩:=Xvh (b:=b) (by omega)
   have hl:((b.drop (getN b).2).take (getN b).1).length=(getN b).1:=by rw [List.length_take,List.length_drop]; omega
   refine ⟨by rw [hl]; omega,?_⟩
   unfold Xbn
   rw [hl,hq]
   have e1:b.drop ((getN b).2+(getN b).1+4)=(b.drop ((getN b).2+(getN b).1)).drop 4:=by rw [List.drop_drop]
   have e2:b.drop ((getN b).2+(getN b).1)=(b.drop (getN b).2).drop (getN b).1:=by rw [List.drop_drop]
   rw [e1,List.append_assoc _ (List.take 4 _),List.take_append_drop,e2,List.append_assoc,List.take_append_drop]
   exact h3
  ·cases h
theorem Xgg {x:List UInt8} (h:x.length≤4000) (r:List UInt8):readStep (Xbn x++r)=some (x,r):=by
 have hN:getN (Xbn x++r)=(x.length,(numL x.length).length):=by
  unfold Xbn
  rw [List.append_assoc,List.append_assoc]
  exact Xdk (by omega) _
 have hql:=Xf6 x
 have d1:(Xbn x++r).drop (numL x.length).length=x++(Xmu x++r):=by
  unfold Xbn
  rw [List.append_assoc,List.append_assoc,List.drop_left']
  rfl
 have d2:(Xbn x++r).drop ((numL x.length).length+x.length)=Xmu x++r:=by
  rw [← List.drop_drop,d1,List.drop_left']
  rfl
 have d3:(Xbn x++r).drop ((numL x.length).length+x.length+4)=r:=by
  rw [← List.drop_drop,d2,List.drop_left' hql]
 have hp:=Xcl x.length
 unfold readStep
 rw [hN]
 dsimp only
 rw [if_neg (by rw [List.length_append,Xbz]; omega),d1,d2,d3,List.take_left' rfl,List.take_left' hql,if_pos rfl]
theorem Xfu {b x r:List UInt8} (h:readStep b=some (x,r)):r.length+5≤b.length:=by
 obtain ⟨_,rfl⟩:=Xd3 h
 rw [List.length_append,Xbz]
 have:=Xcl x.length
 omega
noncomputable def readF:Nat→List UInt8→List (List UInt8)
 | 0,_=>[]
 | f+1,b=>match readStep b with | none=>[] | some q=>q.1::readF f q.2
noncomputable def readL (b:List UInt8):List (List UInt8):=readF b.length b
theorem Xy2:∀ (f g:Nat) (b:List UInt8),b.length≤f→b.length≤g→readF f b=readF g b
 | 0,0,_,_,_=>rfl
 | 0,g+1,b,h,_=>by
  have h0:b=[]:=List.eq_nil_of_length_eq_zero (by omega)
  subst h0
  unfold readF
  cases hs:readStep [] with
  | none=>rfl
  | some q=>have:=Xfu (x:=q.1) (r:=q.2) hs; simp at this
 | f+1,0,b,_,h=>by
  have h0:b=[]:=List.eq_nil_of_length_eq_zero (by omega)
  subst h0
  unfold readF
  cases hs:readStep [] with
  | none=>rfl
  | some q=>have:=Xfu (x:=q.1) (r:=q.2) hs; simp at this
 | f+1,g+1,b,hf,hg=>by
  unfold readF
  cases hs:readStep b with
  | none=>rfl
  | some q =>
   have:=Xfu (x:=q.1) (r:=q.2) hs
   dsimp only
   rw [Xy2 f g q.2 (by omega) (by omega)]
theorem Xg0 {b:List UInt8} (h:readStep b=none):readL b=[]:=by
 unfold readL
 cases hl:b.length with
 | zero=>rfl
 | succ f=>unfold readF; rw [h]
theorem Xq4 {b x r:List UInt8} (h:readStep b=some (x,r)):readL b=x::readL r:=by
 have hlt:=Xfu h
 unfold readL
 cases hl:b.length with
 | zero=>omega
 | succ f =>
  rw [readF,h]
  dsimp only
  rw [Xy2 f r.length r (by omega) (Nat.le_refl _)]
def Xaf (l:List (List UInt8)):List UInt8:=(l.map Xbn).flatten
theorem Xcr (l m:List (List UInt8)):Xaf (l++m)=Xaf l++Xaf m:=by simp [Xaf]
theorem Xjp (x:List UInt8):Xaf [x]=Xbn x:=by simp [Xaf]
theorem Xf7 (x:List UInt8) (l:List (List UInt8)):Xaf (x::l)=Xbn x++Xaf l:=by simp [Xaf]
noncomputable def readEnd (b:List UInt8):Nat:=(Xaf (readL b)).length
end
section
variable {Q:Cont} {e:E} {Γ:List Fact}
def Xvk (l:Nat) (J:E→List Fact→Prop) (Q:Cont):Cont
 | .goto l',e,Γ=>l'=l∧J e Γ
 | x,e,Γ=>Q x e Γ
theorem CT.jump {l:Nat} {J:E→List Fact→Prop} (h:J e Γ):Xvk l J Q (.goto l) e Γ:=⟨rfl,h⟩
theorem Xiu {l:Nat} {J:E→List Fact→Prop} (h:Q .ret e Γ):Xvk l J Q .ret e Γ:=h
end
section
variable {P:Program} {n:Nn} {w0:World} {F:Nat→Prop} {Q:Cont} {e:E} {Γ:List Fact}
theorem JC.scope [Dr] {A:Type} {c rest:Code} (l:Nat) (St:A→E) (Me:A→List Fact) (I:A→Prop) (μ:A→Nat) (x0:A) (h0:I x0) (hf:findLabel c l=some (.seq .skip rest))
  (round:∀ x,I x→JC P n w0 F rest (Xvk l (fun e Γ=>∃ y,I y∧μ y < μ x∧Ent e Γ (St y) (Me y)) Q) (St x) (Me x))
  (first:(∀ e Γ,Ent e Γ (St x0) (Me x0)→JC P n w0 F rest (Xvk l (fun e Γ=>∃ y,I y∧Ent e Γ (St y) (Me y)) Q) e Γ)→JC P n w0 F c (Xvk l (fun e Γ=>∃ y,I y∧Ent e Γ (St y) (Me y)) Q) e Γ):JC P n w0 F (.scope c) Q e Γ:=by
 classical
 intro a w fr ho
 let R:Nat→Act→World→Prop:=fun m a w=>∃ x,I x∧μ x=m∧Fr n (St x) a∧Hold w0 F (Me x) w
 let μ':Act→World→Nat:=fun a w=>if h:∃ m,R m a w then Classical.choose (Xzf _ h) else 0
 have hμ':∀ a w (h:∃ m,R m a w),R (μ' a w) a w∧∀ k,R k a w→μ' a w≤k:=by
  intro a w h
  have:μ' a w=Classical.choose (Xzf _ h):=dif_pos h
  rw [this]; exact Classical.choose_spec (Xzf _ h)
 have go:∀ x,I x→∀ a w,Fr n (St x) a→Hold w0 F (Me x) w→rest.wp P (Exit.jump l (fun a w=>(∃ m,R m a w)∧μ' a w < μ x) (up n w0 F Q)) a w:=by
  intro x hx a w fr ho
  refine wp_mono (round x hx a w fr ho) ?_
  rintro z a1 w1 ⟨e1,Γ1,hq,fr1,ho1⟩
  cases z with
  | goto l' =>
   obtain ⟨rfl,y,hy,hm,hent⟩:=hq
   have hR:R (μ y) a1 w1:=⟨y,hy,rfl,hent.slots n a1 fr1,hent.facts w0 F w1 ho1⟩
   refine ⟨rfl,⟨_,hR⟩,?_⟩
   have:=(hμ' a1 w1 ⟨_,hR⟩).2 _ hR
   omega
  | _=>exact ⟨e1,Γ1,hq,fr1,ho1⟩
 refine wp_scope_jumps l (fun a w=>∃ m,R m a w) μ' hf ?_ ?_
 ·refine wp_mono (first (fun e Γ hent=>?_) a w fr ho) ?_
  ·refine ((round x0 h0).mono ?_).weaken (fun a fr=>hent.slots n a fr) (fun w ho=>hent.facts w0 F w ho)
   intro z e1 Γ1 hz
   cases z with
   | goto l'=>exact ⟨hz.1,let ⟨y,hy,_,h⟩:=hz.2; ⟨y,hy,h⟩⟩
   | _=>exact hz
  ·rintro z a1 w1 ⟨e1,Γ1,hq,fr1,ho1⟩
   cases z with
   | goto l' =>
    obtain ⟨rfl,y,hy,hent⟩:=hq
    exact ⟨rfl,_,y,hy,rfl,hent.slots n a1 fr1,hent.facts w0 F w1 ho1⟩
   | _=>exact ⟨e1,Γ1,hq,fr1,ho1⟩
 ·intro a1 w1 hR
  obtain ⟨⟨x,hx,hxm,fr1,ho1⟩,_⟩:=hμ' a1 w1 hR
  refine wp_seq (wp_skip ?_)
  have:=go x hx a1 w1 fr1 ho1
  rw [hxm] at this
  exact this
end
section
attribute [local irreducible] JC JO JR JQ andThen inBlock OpV Gives Xah JM JS
section
attribute [local irreducible] JX
instance {Γ:List Fact} {a:Option Addr} {c:Nat} {L:List UInt8} [h:Mem (sl a c L) Γ]:Typed Γ [.slice a L.length c] L:=⟨(a,c),rfl,fun A hA=>by
 simp only [Cell.facts,List.mem_singleton] at hA
 subst hA; exact h.ok⟩
theorem X7l (a:Option Addr) (c:Nat) (b:List UInt8) (h:(sl a c b).holds F w) (hb:b.length≤1048576) :
  Xg4 prog 214 [.slice a b.length c] w F (readL b) [.int .i64 (readEnd b:Int)]:=by
 refine Xaa func214 rfl ntmps214 rfl rfl [.st (sl a c b)] (.start1 h) ?_
 refine wz10 ?_
 refine JC.scope (A:=List (List UInt8) × List UInt8 × Option Addr × Nat) 0 (fun x=>[(0, .slice a b.length c),(4, .slice x.2.2.1 x.1.length x.2.2.2),(5, .int .i64 ((Xaf x.1).length:Int))])
  (fun x=>[.st (sl a c b), .res (buf x.2.2.1 x.2.2.2 47 x.1)]) (fun x=>b=Xaf x.1++x.2.1∧readL b=x.1++readL x.2.1) (fun x=>x.2.1.length) ([],b,none,0) ⟨rfl,rfl⟩ (by rfl) ?_ ?_
 ·rintro ⟨l,R,p,q⟩ ⟨hb1,hb2⟩
  dsimp only at hb1 hb2 ⊢
  have hbl:b.length=(Xaf l).length+R.length:=by rw [hb1,List.length_append]
  have hdrop:b.drop (Xaf l).length=R:=by rw [hb1]; exact List.drop_left' rfl
  refine wz14 ?_
  refine Xb4 (L:=b) (k:=(Xaf l).length) rfl rfl (by omega) ?_
  rw [hdrop]
  intro a1 c1
  refine wz10 ?_
  refine JR.callV rfl (fun w1 hw=>Xlm w1 _ a1 c1 R hw.get) ?_
  have hk10:=Xo8 R
  have hn64:=Xo9 R
  refine wz4 ?_
  refine JO.test 21 (fun h0=>?_) (fun h0=>?_)
  ·have hs:readStep R=none:=if_pos (.inl (by omega))
   have hL:readL b=l:=by rw [hb2,Xg0 hs,List.append_nil]
   have hE:readEnd b=(Xaf l).length:=by unfold readEnd; rw [hL]
   rw [hL,hE]
   refine wz8 ?_
   refine Xiu ?_
   exact CT.done (p,q) rfl (fun w ho=>(ho.ent:Hold _ _ [.res (buf p q 47 l)] w).pub)
  refine wz5 ?_
  refine JO.test 25 (fun h1=>?_) (fun h1=>?_)
  ·have hs:readStep R=none:=if_pos (.inr (.inl (by omega)))
   have hL:readL b=l:=by rw [hb2,Xg0 hs,List.append_nil]
   have hE:readEnd b=(Xaf l).length:=by unfold readEnd; rw [hL]
   rw [hL,hE]
   refine wz8 ?_
   refine Xiu ?_
   exact CT.done (p,q) rfl (fun w ho=>(ho.ent:Hold _ _ [.res (buf p q 47 l)] w).pub)
  refine wz4 ?_
  refine Wf Xaz rfl ?_
  refine JO.reslot 30 (.int .i64 ((getN R).1:Int)) (by rw [Xc3 (by omega)]) ?_
  refine wX ?_
  refine JC.test (fun h2=>?_) (fun h2=>?_)
  ·have hs:readStep R=none:=if_pos (.inr (.inr (by omega)))
   have hL:readL b=l:=by rw [hb2,Xg0 hs,List.append_nil]
   have hE:readEnd b=(Xaf l).length:=by unfold readEnd; rw [hL]
   rw [hL,hE]
   refine wz9 ?_
   refine Xiu ?_
   exact CT.done (p,q) rfl (fun w ho=>(ho.ent:Hold _ _ [.res (buf p q 47 l)] w).pub)
  refine wz14 ?_
  generalize hk:(getN R).2=k at *
  generalize hn:(getN R).1=n at *
  have hkn:k+n+4≤R.length:=by omega
  refine JC.drawP mixed ?_
  refine Xab 0 ?_
  refine Xab 1 ?_
  refine Xab 2 ?_
  refine Xab 3 ?_
  refine Xab 4 ?_
  refine JP.reslot 41 (.int .i64 (n:Int)) (by rw [Xc3 (by omega)]) ?_
  refine JP.pure 5 rfl (by kernel_rfl) rfl (fun _=>Vs (k:=k) (m:=n) (by omega)) rfl rfl ?_
  refine JP.take 6 [.st (sl a1 c1 R)] rfl (by kernel_rfl) rfl (Xrx (l:=k) (h:=k+n) (s:=1) rfl (fun w1 ho=>⟨by omega,by have:=(Hold.get (A:=sl a1 c1 R) ho).1; omega⟩)) rfl rfl ?_
  refine Xab 7 ?_
  refine Xab 8 ?_
  refine Xab 9 ?_
  refine Xab 10 ?_
  refine JP.reslot 47 (.int .i64 (n:Int)) (by rw [Xc3 (by omega)]) ?_
  refine JP.pure 11 rfl (by kernel_rfl) rfl (fun _=>Vs (k:=k) (m:=n) (by omega)) rfl rfl ?_
  refine JP.take 12 [.st (sl a1 c1 R)] rfl (by kernel_rfl) rfl (Xeo (l:=k+n) (s:=1) rfl (fun w1 ho=>⟨by omega,by have:=(Hold.get (A:=sl a1 c1 R) ho).1; omega⟩)) rfl rfl ?_
  have hxl:((R.drop k).take n).length=n:=by rw [List.length_take,List.length_drop]; omega
  have htl:(R.drop (k+n)).length=R.length - (k+n):=List.length_drop
  refine JP.reslot 43 (.slice (Xgm a1 c1 k 1) ((R.drop k).take n).length (c1 - k)) (by rw [hxl]; congr 1; omega) ?_
  refine JP.reslot 49 (.slice (Xgm a1 c1 (k+n) 1) (R.drop (k+n)).length (c1 - (k+n))) (by rw [htl]) ?_
  refine Xab 13 ?_
  refine Xab 14 ?_
  refine JP.nil (by kernel_rfl) ?_
  refine Wa ?_
  refine JC.more (Γ':=.st (sl (Xgm a1 c1 k 1) (c1 - k) ((R.drop k).take n))::.st (sl (Xgm a1 c1 (k+n) 1) (c1 - (k+n)) (R.drop (k+n)))::[.st (sl a c b), .res (buf p q 47 l)]) (fun w1 ho=>?_) ?_
  ·have e2:=ho.add (Xrq (k:=k+n) (ho.get (A:=sl a1 c1 R)) (by omega))
   exact (e2.add (Yby (l:=k) (m:=n) (e2.get (A:=sl a1 c1 R)) (by omega))).ent
  generalize hx:(R.drop k).take n=x at hxl ⊢
  generalize htd:R.drop (k+n)=T at htl ⊢
  have h4:4≤T.length:=by omega
  generalize Xgm a1 c1 k 1=ax
  generalize Xgm a1 c1 (k+n) 1=at1
  generalize c1 - k=cx
  generalize c1 - (k+n)=ct
  refine JC.know (fun w1 ho=>Yao (ho.get (A:=sl at1 ct T)) (by intro h; rw [h] at h4; simp at h4)) ?_
  rintro ⟨bt,ot,rfl⟩
  obtain ⟨t0,t1,t2,t3,T',hT⟩:∃ t0 t1 t2 t3 T',T=t0::t1::t2::t3::T':=by
   match T,h4 with
   | t0::t1::t2::t3::T',_=>exact ⟨t0,t1,t2,t3,T',rfl⟩
  have hT4:T.take 4=[t0,t1,t2,t3]:=by rw [hT]; rfl
  refine JC.more (Γ':=.st (ro bt ot [Xak t0,Xak t1,Xak t2,Xak t3])::.st (sl (some ⟨bt,ot,none⟩) ct T)::.st (sl ax cx x)::[.st (sl a c b), .res (buf p q 47 l)]) (fun w1 ho=>?_) ?_
  ·have e1:=Xgb (k:=4) (c':=ct) (ho.get (A:=sl (some ⟨bt,ot,none⟩) ct T)) h4 ⟨by have:=(ho.get (A:=sl (some ⟨bt,ot,none⟩) ct T)).1; omega,Nat.le_refl _⟩
   have e2:=Ycg e1 (by rw [hT4]; simp)
   rw [hT4] at e2
   exact (ho.add (A:=ro bt ot [Xak t0,Xak t1,Xak t2,Xak t3]) e2).ent
  refine Wb ?_
  refine Wb ?_
  refine JC.drawP mixed ?_
  refine Xab 0 ?_
  refine JP.takeCall 1 [.st (sl ax cx x)] rfl (by kernel_rfl) rfl (fun w1 hw=>X4x w1 _ ax cx x hw.get (by omega)) rfl rfl ?_
  refine Xab 2 ?_
  refine JP.take 3 [.st (sl (some ⟨bt,ot,none⟩) ct T)] rfl (by kernel_rfl) rfl (Xa6 (k:=4) (fun w1 ho=>by have:=(Hold.get (A:=sl (some ⟨bt,ot,none⟩) ct T) ho).1; omega)) rfl rfl ?_
  refine JP.pure 4 rfl (by kernel_rfl) rfl (fun _=>Xkm (by decide)) rfl rfl ?_
  refine JP.tv 5 [.st (ro bt ot [Xak t0,Xak t1,Xak t2,Xak t3])] ?_
  refine JP.pure 6 rfl (by kernel_rfl) rfl (fun _=>X1a (Xmu x) [t0,t1,t2,t3] (Xf6 x) rfl rfl rfl) rfl rfl ?_
  refine JP.nil (by kernel_rfl) ?_
  refine wz13 ?_
  refine JC.test (fun h5=>?_) (fun h5=>?_)
  ·have hs:readStep R=none:=by
    unfold readStep
    rw [hk,hn,hx,htd,if_neg (by omega),if_neg (by rw [hT4]; simpa using h5)]
   have hL:readL b=l:=by rw [hb2,Xg0 hs,List.append_nil]
   have hE:readEnd b=(Xaf l).length:=by unfold readEnd; rw [hL]
   rw [hL,hE]
   refine wz9 ?_
   refine Xiu ?_
   exact CT.done (p,q) rfl (fun w ho=>(ho.ent:Hold _ _ [.res (buf p q 47 l)] w).pub)
  ·have hs:readStep R=some (x,R.drop (k+n+4)):=by
    unfold readStep
    rw [hk,hn,hx,htd,if_neg (by omega),if_pos (by rw [hT4]; simpa using h5)]
   have hlt:=Xfu hs
   have hL2:readL b=(l++[x])++readL (R.drop (k+n+4)):=by rw [hb2,Xq4 hs]; simp
   have hR2:b=Xaf (l++[x])++R.drop (k+n+4):=by rw [hb1,Xcr,Xjp,List.append_assoc,← (Xd3 hs).2]
   have hfl:(Xaf (l++[x])).length=(Xaf l).length+(k+n+4):=by
    have:=congrArg List.length hR2
    rw [List.length_append,List.length_drop] at this
    omega
   have hll:l.length≤b.length:=by
    have:∀ l:List (List UInt8),l.length≤(Xaf l).length:=by
     intro l
     induction l with
     | nil=>simp
     | cons y l ih=>rw [Xf7,List.length_append,Xbz,List.length_cons]; omega
    have:=this l
    omega
   refine wz14 ?_
   refine JR.callBuf rfl (fun w1 hw=>Xel w1 _ ax cx x hw.get (by omega)) ?_
   intro a5 c5
   refine JO.more (fun w ho=>ho.pub) ?_
   (repeat (refine wF ?_; intro _)); refine wX ?_
   rename_i bl
   refine Xay (L:=l) (u:=x) rfl (by exact ⟨rfl,rfl,by decide⟩) (by omega) ?_
   intro a6 c6
   refine wz10 ?_
   refine Wf Xaz rfl ?_
   refine JO.reslot 67 (.int .i64 (n:Int)) (by rw [Xc3 (by omega)]) ?_
   refine wX ?_
   refine JC.goto ?_
   refine CT.jump ⟨(l++[x],R.drop (k+n+4),a6,c6),⟨hR2,hL2⟩,by show (R.drop (k+n+4)).length < _; omega,?_⟩
   show Ent _ _ [(0, .slice a b.length c),(4, .slice a6 (l++[x]).length c6),(5, .int .i64 ((Xaf (l++[x])).length:Int))] [.st (sl a c b), .res (buf a6 c6 47 (l++[x]))]
   rw [hfl]
   exact iI
 ·intro hrest
  refine JC.more (Γ':=.res (buf (α:=List UInt8) none 0 47 [])::[.st (sl a c b)]) (fun w ho=>ho.bufNil) ?_
  refine wz10 ?_
  refine JC.label ?_
  refine Wa ?_
  exact hrest _ _ (show Ent _ _ [(0, .slice a b.length c),(4, .slice none 0 0),(5, .int .i64 0)] [.st (sl a c b), .res (buf (α:=List UInt8) none 0 47 [])] from iI)
end
theorem Xxs (f1 f2 f3:FuncId) (w:World):(Instr.field 152 (.agg ⟨[fnV f1,fnV f2,fnV f3]⟩) 2).run prog w = .ok (fnV f3) w:=by
 have h1:=Xav (P:=prog) (t:=152) w
 unfold Instr.field
 rw [Sem.run_bind,h1]
 simp [asAgg,part,isAgg,Sem.run_bind]
section
variable {w0 w:World} {F:Nat→Prop} {Γ:List Fact} {bo:Nat} {a:Option Addr} {c:Nat} {b:List UInt8} {o:Op_}
theorem Yb0 (ho:Hold w0 F (.own bo 26 [.int .i64 o.kind, .string o.key, .string o.elem, .int .i64 o.n]::.st (sl a c b)::Γ) w) :
  Calls prog 166 ⟨[.pointer (some ⟨bo,0,none⟩), .slice a b.length c]⟩ w fun x w'=>∃ y:Option Addr × Nat,x = .returned (.tuple ⟨[.slice y.1 (b.drop (getN b).2).length y.2, .bool (decide (0 < (getN b).2))]⟩)∧Hold w0 F (.own bo 26 [.int .i64 o.kind, .string o.key, .string o.elem, .int .i64 (Xek (getN b).1)]::.st (sl y.1 y.2 (b.drop (getN b).2))::Γ) w':=by
 have hkl:=(Xo8 b).1
 have hn64:=Xo9 b
 refine Xa4 (v:=fun y:Option Addr × Nat=>.tuple ⟨[.slice y.1 (b.drop (getN b).2).length y.2, .bool (decide (0 < (getN b).2))]⟩) (B:=fun y=>.own bo 26 [.int .i64 o.kind, .string o.key, .string o.elem, .int .i64 (Xek (getN b).1)]::.st (sl y.1 y.2 (b.drop (getN b).2))::Γ) func166 rfl ntmps166 rfl rfl _ ho ?_
 refine wz10 ?_
 refine JR.callV rfl (fun w1 hw=>Xlm w1 _ a c b hw.get) ?_
 refine wz4 ?_
 refine JR.callV rfl (fun w1 hw=>Xq3 w1 _ (getN b).1 hn64) ?_
 refine wz13 ?_
 refine Wf OpV.nilCheck rfl ?_
 refine wz9 ?_
 refine Xb4 (L:=b) (k:=(getN b).2) rfl rfl hkl ?_
 intro a2 c2
 refine wz5 ?_
 refine Xac (a2,c2) ?_
 simp [Xad]
theorem Yb1 (hl:b.length≤34359738368) (ho:Hold w0 F (.own bo 26 [.int .i64 o.kind, .string o.key, .string o.elem, .int .i64 o.n]::.st (sl a c b)::Γ) w) :
  Calls prog 172 ⟨[.pointer (some ⟨bo,0,none⟩), .slice a b.length c]⟩ w fun x w'=>∃ y:Option Addr × Nat,x = .returned (.tuple ⟨[.slice y.1 (cutT b 8).2.1.length y.2, .bool (cutT b 8).2.2]⟩)∧Hold w0 F (.own bo 26 [.int .i64 o.kind, .string o.key, .string (cutT b 8).1, .int .i64 o.n]::.st (sl y.1 y.2 (cutT b 8).2.1)::Γ) w':=by
 refine Xa4 (v:=fun y:Option Addr × Nat=>.tuple ⟨[.slice y.1 (cutT b 8).2.1.length y.2, .bool (cutT b 8).2.2]⟩) (B:=fun y=>.own bo 26 [.int .i64 o.kind, .string o.key, .string (cutT b 8).1, .int .i64 o.n]::.st (sl y.1 y.2 (cutT b 8).2.1)::Γ) func172 rfl ntmps172 rfl rfl _ ho ?_
 refine wz10 ?_
 refine JR.call1 (B:=fun y:Option Addr × Nat=>.st (sl y.1 y.2 (cutT b 8).2.1)) rfl (fun w1 hw=>X4w w1 _ a c b 8 hw.get hl (by decide)) ?_
 rintro ⟨a2,c2⟩
 dsimp only
 refine wz4 ?_
 refine Wf OpV.nilCheck rfl ?_
 refine wz9 ?_
 exact Xac (a2,c2) rfl
end
noncomputable def restOp (k:Nat) (key:ByteArray) (b:List UInt8):Op_ × List UInt8 × Bool :=
 if k=0 then (⟨0,key, .empty,Xek (getN b).1⟩,b.drop (getN b).2,decide (0 < (getN b).2)) else (⟨(k:Int),key,(cutT b 8).1,0⟩,(cutT b 8).2.1,(cutT b 8).2.2)
noncomputable def getOp (b:List UInt8):Op_ × List UInt8 × Int :=
 if (getN b).2=0∨4≤(getN b).1 then (op0,[],2) else
 if (cutT (b.drop (getN b).2) 8).2.2=false then (op0,[],2) else
 if (restOp (getN b).1 (cutT (b.drop (getN b).2) 8).1 (cutT (b.drop (getN b).2) 8).2.1).2.2=true∧Xc0 (restOp (getN b).1 (cutT (b.drop (getN b).2) 8).1 (cutT (b.drop (getN b).2) 8).2.1).1=true then
  ((restOp (getN b).1 (cutT (b.drop (getN b).2) 8).1 (cutT (b.drop (getN b).2) 8).2.1).1,(restOp (getN b).1 (cutT (b.drop (getN b).2) 8).1 (cutT (b.drop (getN b).2) 8).2.1).2.1,0) else (op0,[],2)
theorem Xs2 (b:List UInt8) (m:Nat):(cutT b m).2.1.length≤b.length:=by
 unfold cutT
 split
 ·simp
 ·simp only [List.length_drop]; omega
theorem Xq5 (k:Nat) (key:ByteArray) (b:List UInt8):(restOp k key b).2.1.length≤b.length:=by
 unfold restOp
 split
 ·simp only [List.length_drop]; omega
 ·exact Xs2 b 8
theorem Xmc (k:Nat) (key:ByteArray) (b:List UInt8) (h:key.size≤8):(restOp k key b).1.key.size < 4611686018427387904∧(restOp k key b).1.elem.size < 4611686018427387904:=by
 have:=Xpa b 8
 unfold restOp
 split
 ·exact ⟨by show key.size < _; omega,(by decide:ByteArray.empty.size < 4611686018427387904)⟩
 ·exact ⟨by show key.size < _; omega,by show (cutT b 8).1.size < _; omega⟩
theorem X40 (k:Nat) (h:k < 4):∃ (f1 f2 f3:FuncId) (_:Body prog f3),(Xbl kindsM (k:Int)).getD Xwz = .agg ⟨[fnV f1,fnV f2,fnV f3]⟩ ∧
  ∀ (key:ByteArray) (b:List UInt8),b.length≤34359738368→∀ (w0 w:World) (F:Nat→Prop) (Γ:List Fact) (bo:Nat) (a:Option Addr) (c:Nat),
   Hold w0 F (.own bo 26 [.int .i64 (k:Int), .string key, .string .empty, .int .i64 0]::.st (sl a c b)::Γ) w →
   Calls prog f3 ⟨[.pointer (some ⟨bo,0,none⟩), .slice a b.length c]⟩ w fun x w'=>∃ y:Option Addr × Nat,x = .returned (.tuple ⟨[.slice y.1 (restOp k key b).2.1.length y.2, .bool (restOp k key b).2.2]⟩) ∧
    Hold w0 F (.own bo 26 [.int .i64 (restOp k key b).1.kind, .string (restOp k key b).1.key, .string (restOp k key b).1.elem, .int .i64 (restOp k key b).1.n]::.st (sl y.1 y.2 (restOp k key b).2.1)::Γ) w':=by
 by_cases h0:k=0
 ·subst h0
  refine ⟨_,_,166,iI,rfl,fun key b hl w0 w F Γ bo a c ho=>?_⟩
  have:=Yb0 (o:=⟨0,key, .empty,0⟩) ho
  simp only [restOp,if_true]
  exact this
 ·refine ⟨169,170,172,iI,?_,fun key b hl w0 w F Γ bo a c ho=>?_⟩
  ·obtain h1 | h1 | h1:k=1∨k=2∨k=3:=by omega
   ·subst h1; rfl
   ·subst h1; rfl
   ·subst h1; rfl
  ·have:=Yb1 (o:=⟨(k:Int),key, .empty,0⟩) hl ho
   simp only [restOp,if_neg h0]
   exact this
theorem Yas (a:Option Addr) (c:Nat) (b:List UInt8) (h:(sl a c b).holds F w) (hl:b.length≤34359738368) :
  Gives prog 308 [.slice a b.length c] w F (fun y:Option Addr × Nat=>.tuple ⟨[opV (getOp b).1, .slice y.1 (getOp b).2.1.length y.2, .int .i64 (getOp b).2.2]⟩) (fun y=>[.st (sl y.1 y.2 (getOp b).2.1)]):=by
 have hkl:=(Xo8 b).1
 have hn64:=Xo9 b
 refine Xaa func308 rfl ntmps308 rfl rfl [.st (sl a c b)] (.start1 h) ?_
 (repeat (refine wE ?_; intro _)); refine wA ?_
 rename_i b2
 refine JR.callV rfl (fun w1 hw=>Xlm w1 _ a c b hw.get) ?_
 refine wz4 ?_
 refine JO.test 18 (fun h0=>?_) (fun h0=>?_)
 ·have e:getOp b=(op0,[],2):=by unfold getOp; rw [if_pos (.inl (by omega))]
  rw [e]
  refine wz8 ?_
  refine Wf (OpV.build [.int .i64 0, .string .empty, .string .empty, .int .i64 0] (by kernel_rfl)) rfl ?_
  refine wz9 ?_
  exact CT.done (none,0) rfl (fun w ho=>(ho.ent:Hold _ _ [] w).add Xan)
 refine wX ?_
 refine JC.test (fun h1=>?_) (fun h1=>?_)
 ·have e:getOp b=(op0,[],2):=by unfold getOp; rw [if_pos (.inr (by omega))]
  rw [e]
  refine wz14 ?_
  refine Wf (OpV.build [.int .i64 0, .string .empty, .string .empty, .int .i64 0] (by kernel_rfl)) rfl ?_
  refine wz9 ?_
  exact CT.done (none,0) rfl (fun w ho=>(ho.ent:Hold _ _ [] w).add Xan)
 obtain ⟨k,hk⟩:∃ k,k=(getN b).1:=⟨_,rfl⟩
 have hk4:k < 4:=by omega
 obtain ⟨B,hB⟩:∃ B,B=b.drop (getN b).2:=⟨_,rfl⟩
 have hBl:B.length≤b.length:=by rw [hB,List.length_drop]; omega
 have hg:getOp b=if (cutT B 8).2.2=false then (op0,[],2) else if (restOp k (cutT B 8).1 (cutT B 8).2.1).2.2=true∧Xc0 (restOp k (cutT B 8).1 (cutT B 8).2.1).1=true then ((restOp k (cutT B 8).1 (cutT B 8).2.1).1,(restOp k (cutT B 8).1 (cutT B 8).2.1).2.1,0) else (op0,[],2):=by
  rw [hk,hB]; unfold getOp; rw [if_neg (by omega)]
 obtain ⟨f1,f2,f3,hbody,hlook,hget⟩:=X40 k hk4
 rw [← hk]
 refine wz14 ?_
 refine Wf Xaz rfl ?_
 refine JO.reslot 24 (.int .i64 (k:Int)) (by rw [Xc3 (by omega)]) ?_
 refine wz13 ?_
 refine Wf (OpV.build [.int .i64 (k:Int), .string .empty, .string .empty, .int .i64 0] (by kernel_rfl)) rfl ?_
 (repeat (refine wF ?_; intro _)); refine wX ?_
 rename_i b7
 refine Xb4 (L:=b) (k:=(getN b).2) rfl rfl hkl ?_
 rw [← hB]
 intro a1 c1
 refine wz13 ?_
 refine JR.call1 (B:=fun y:Option Addr × Nat=>.st (sl y.1 y.2 (cutT B 8).2.1)) rfl (fun w1 hw=>X4w w1 _ a1 c1 B 8 hw.get (by omega) (by decide)) ?_
 rintro ⟨a3,c3⟩
 dsimp only
 obtain ⟨key,T,is,hcut⟩:∃ key T is,cutT B 8=(key,T,is):=⟨_,_,_,rfl⟩
 have hks:key.size≤8:=by have:=Xpa B 8; rw [hcut] at this; exact this
 have hTl:T.length≤B.length:=by have:=Xs2 B 8; rw [hcut] at this; exact this
 rw [hcut] at hg ⊢
 dsimp only at hg ⊢
 refine wX ?_
 cases is with
 | false =>
  rw [if_pos rfl] at hg
  rw [hg]
  refine wX ?_
  skip
  refine Wf (OpV.build [.int .i64 0, .string .empty, .string .empty, .int .i64 0] (by kernel_rfl)) rfl ?_
  refine wz9 ?_
  exact CT.done (none,0) rfl (fun w ho=>(ho.ent:Hold _ _ [] w).add Xan)
 | true =>
  rw [if_neg (by simp)] at hg
  have hrt:=Xmc k key T hks
  have hrl:=Xq5 k key T
  have hget':=fun w0 w F Γ bo a c=>hget key T (by omega) w0 w F Γ bo a c
  obtain ⟨o,R,ok,hro⟩:∃ o R ok,restOp k key T=(o,R,ok):=⟨_,_,_,rfl⟩
  rw [hro] at hg hrt hrl hget'
  dsimp only at hg hrt hrl hget'
  refine wz8 ?_
  refine JC.drawP mixed ?_
  refine Xab 1 ?_
  refine JP.tv 2 [.own b7 26 [.int .i64 (k:Int), .string key, .string .empty, .int .i64 0]] ?_
  refine Xab 5 ?_
  refine Xai 0 rfl rfl (JR.call1 rfl (fun w1 hw=>Xkd w1 _) fun mk=>Wd (nO ?_))
  refine JP.take 3 [.omap mk (ents intV kindsM) kindsM.length] rfl (by kernel_rfl) rfl (Xa7 (k:Int) Xh6 hlook) rfl rfl ?_
  refine JP.pure 4 rfl (by kernel_rfl) rfl (fun _=>Xk2 (Xxs f1 f2 f3)) rfl rfl ?_
  refine JP.more (Γ':=.own b7 26 [.int .i64 (k:Int), .string key, .string .empty, .int .i64 0]::.st (sl a3 c3 T)::[.omap mk (ents intV kindsM) kindsM.length, .own b2 26 [.int .i64 0, .string .empty, .string .empty, .int .i64 0]]) (fun w1 ho=>ho.ent) ?_
  refine Xai 6 rfl rfl (Xal (v:=fun y:Option Addr × Nat=>.tuple ⟨[.slice y.1 R.length y.2, .bool ok]⟩) (B:=fun y=>.own b7 26 [.int .i64 o.kind, .string o.key, .string o.elem, .int .i64 o.n]::.st (sl y.1 y.2 R)::[.omap mk (ents intV kindsM) kindsM.length, .own b2 26 [.int .i64 0, .string .empty, .string .empty, .int .i64 0]]) rfl (fun w1 hw=>hget' _ _ _ _ _ _ _ hw) fun y=>Wd (nO ?_))
  refine Xab 7 ?_
  refine Xab 8 ?_
  refine Xab 9 ?_
  refine Xab 10 ?_
  refine Xab 11 ?_
  refine JP.nil (by kernel_rfl) ?_
  cases ok with
  | false =>
   rw [if_neg (by simp)] at hg
   rw [hg]
   refine wz8 ?_
   skip
   refine Wf (OpV.build [.int .i64 0, .string .empty, .string .empty, .int .i64 0] (by kernel_rfl)) rfl ?_
   refine wz9 ?_
   exact CT.done (none,0) rfl (fun w ho=>(ho.ent:Hold _ _ [] w).add Xan)
  | true =>
   refine wz1 ?_
   refine JR.callV rfl (fun w1 hw=>Xoj w1 _ o hrt.1 hrt.2) ?_
   cases hm:Xc0 o with
   | false =>
    rw [if_neg (by simp [hm])] at hg
    rw [hg]
    refine wz8 ?_
    skip
    refine Wf (OpV.build [.int .i64 0, .string .empty, .string .empty, .int .i64 0] (by kernel_rfl)) rfl ?_
    refine wz9 ?_
    exact CT.done (none,0) rfl (fun w ho=>(ho.ent:Hold _ _ [] w).add Xan)
   | true =>
    rw [if_pos ⟨rfl,hm⟩] at hg
    rw [hg]
    refine wz7 ?_
    refine JC.drawP mixed ?_
    refine JP.tv 0 [.own b7 26 [.int .i64 o.kind, .string o.key, .string o.elem, .int .i64 o.n]] ?_
    refine Xab 1 ?_
    refine Xai 2 rfl rfl (JR.callBuf rfl (fun w1 hw=>Xel w1 _ y.1 y.2 R hw.get (by omega)) fun a5 c5=>Wd (nO ?_))
    refine JP.more (fun w1 ho=>ho.pub) ?_
    refine Xai 3 rfl rfl (Wi (Wd (nO ?_)))
    refine Xab 4 ?_
    refine Xab 5 ?_
    refine JP.nil (by kernel_rfl) ?_
    refine wz13 ?_
    exact Xac (a5,c5) rfl
end
section
attribute [local irreducible] JC JO JR JQ andThen inBlock OpV Gives Xah JM JS
noncomputable section
def numO (b:List UInt8):Option (Nat × List UInt8):=if (getN b).2=0 then none else some ((getN b).1,b.drop (getN b).2)
def Xmv (m:Nat) (b:List UInt8):Option (Nat × List UInt8):=if (getN b).2=0∨m < (getN b).1 then none else some ((getN b).1,b.drop (getN b).2)
def Xfv:Nat→List UInt8→Option (List ID × List UInt8)
 | 0,b=>some ([],b)
 | n+1,b=>if h:32≤b.length then (Xfv n (b.drop 32)).map (fun q=>(Xkn b h::q.1,q.2)) else none
def finC (c:Commit) (b:List UInt8):Option (Commit × List UInt8):=if may c=true then some (c,b) else none
def opC (n0:Int) (n1 n2:Nat) (ps:List ID) (b:List UInt8):Option (Commit × List UInt8) :=
 if n0 = -1 then finC ⟨⟨n0,n1⟩,n2,ps,op0⟩ b else if (getOp b).2.2=0 then finC ⟨⟨n0,n1⟩,n2,ps,(getOp b).1⟩ (getOp b).2.1 else none
def getC (b:List UInt8):Option (Commit × List UInt8) :=
 (numO b).bind fun q0=>(Xmv 1048576 q0.2).bind fun q1=>(Xmv 1048576 q1.2).bind fun q2=>(Xmv 8 q2.2).bind fun q3=>(Xfv q3.1 q3.2).bind fun q4 =>
  opC (Xek q0.1) q1.1 q2.1 q4.1 q4.2
end
theorem Xpc (b:List UInt8):(getOp b).1.key.size < 4611686018427387904∧(getOp b).1.elem.size < 4611686018427387904:=by
 have h0:op0.key.size < 4611686018427387904∧op0.elem.size < 4611686018427387904:=by constructor <;> decide
 unfold getOp
 split
 ·exact h0
 ·split
  ·exact h0
  ·split
   ·exact Xmc _ _ _ (Xpa _ 8)
   ·exact h0
theorem Xvl (b:List UInt8):(getOp b).2.1.length≤b.length:=by
 unfold getOp
 split
 ·simp
 ·split
  ·simp
  ·split
   ·refine Nat.le_trans (Xq5 _ _ _) (Nat.le_trans (Xs2 _ 8) ?_)
    simp only [List.length_drop]; omega
   ·simp
structure ReadY (L:List UInt8) where
 c:Commit
 r:List UInt8
 ok:getC L=some (c,r)
 pa:Option Addr
 pc:Nat
 ra:Option Addr
 rc:Nat
section
variable {w0 w:World} {F:Nat→Prop} {Γ:List Fact} {br:Nat} {a:Option Addr} {c:Nat} {L:List UInt8}
theorem X41 {b:List UInt8} (h:(getN b).2=0):numO b=none:=if_pos h
theorem X42 {b:List UInt8} (h:(getN b).2≠0):numO b=some ((getN b).1,b.drop (getN b).2):=if_neg h
theorem Xln {m:Nat} {b:List UInt8} (h:(getN b).2=0∨m < (getN b).1):Xmv m b=none:=if_pos h
theorem Xlo {m:Nat} {b:List UInt8} (h:¬ ((getN b).2=0∨m < (getN b).1)):Xmv m b=some ((getN b).1,b.drop (getN b).2):=if_neg h
theorem X43 (hl:L.length≤34359738368) (ho:Hold w0 F (.own br 295 [.slice a L.length c]::.st (sl a c L)::Γ) w) :
  Ends prog 268 [.pointer (some ⟨br,0,none⟩)] w w0 F (fun y:ReadY L=>Xap y.c y.pa y.pc)
   (fun y=>.own br 295 [.slice y.ra y.r.length y.rc]::.st (sl y.ra y.rc y.r)::.st (sl y.pa y.pc y.c.parents)::Γ) (getC L=none) Xq2 Γ:=by
 refine X9e func268 rfl ntmps268 rfl rfl _ ho ?_
 (repeat (refine wE ?_; intro _)); refine wA ?_
 rename_i bp
 obtain ⟨T,hT⟩:∃ T:List Value,T=[.int .i64 0, .int .i64 0, .int .i64 0, .slice none 0 0, .int .i64 0, .string .empty, .string .empty, .int .i64 0]:=⟨_,rfl⟩
 have hg:getC L=(numO L).bind fun q0=>(Xmv 1048576 q0.2).bind fun q1=>(Xmv 1048576 q1.2).bind fun q2=>(Xmv 8 q2.2).bind fun q3=>(Xfv q3.1 q3.2).bind fun q4=>opC (Xek q0.1) q1.1 q2.1 q4.1 q4.2:=rfl
 by_cases h0:(getN L).2=0
 ·rw [X41 h0,Option.bind_none] at hg
  refine JR.more (Γ':=.own br 295 [.slice a L.length c]::.st (sl a c L)::Γ) (fun w ho=>ho.ent) ?_
  refine Xc9 (fun w1 hw=>X4v h0 hw) ?_
  refine z2z ?_
  exact .inr ⟨hg,CT.gone (fun w ho=>ho)⟩
 rw [X42 h0,Option.bind_some] at hg
 dsimp only at hg
 have hn0:=Xo9 L
 refine JR.more (Γ':=.own br 295 [.slice a L.length c]::.st (sl a c L)::.own bp 31 [.int .i64 0, .int .i64 0, .int .i64 0, .slice none 0 0, .int .i64 0, .string .empty, .string .empty, .int .i64 0]::Γ) (fun w ho=>ho.ent) ?_
 refine Xal (v:=fun y:Option Addr × Nat=>.int .u64 ((getN L).1:Int)) (B:=fun y=>.own br 295 [.slice y.1 (L.drop (getN L).2).length y.2]::.st (sl y.1 y.2 (L.drop (getN L).2))::.own bp 31 [.int .i64 0, .int .i64 0, .int .i64 0, .slice none 0 0, .int .i64 0, .string .empty, .string .empty, .int .i64 0]::Γ) rfl (fun w1 hw=>X4u h0 hw) ?_
 rintro ⟨a1,c1⟩
 dsimp only
 have hB:(L.drop (getN L).2).length≤34359738368:=by rw [List.length_drop]; omega
 generalize L.drop (getN L).2=B at hB hg ⊢
 generalize (getN L).1=m0 at hn0 hg ⊢
 refine wz13 ?_
 refine JR.callV rfl (fun w1 hw=>Xq3 w1 _ m0 hn0) ?_
 generalize Xek m0=n0 at hg ⊢
 refine wz6 ?_
 refine JR.reslot 10 (.pointer (some ⟨bp,0,none⟩)) rfl ?_
 refine Wi ?_
 refine wz10 ?_
 by_cases h1:(getN B).2=0∨1048576 < (getN B).1
 ·rw [Xln h1,Option.bind_none] at hg
  refine JR.more (Γ':=.own br 295 [.slice a1 B.length c1]::.st (sl a1 c1 B)::Γ) (fun w ho=>ho.ent) ?_
  refine Xc9 (fun w1 hw=>Xs1 1048576 (by decide) h1 hw) ?_
  refine z2z ?_
  exact .inr ⟨hg,CT.gone (fun w ho=>ho)⟩
 rw [Xlo h1,Option.bind_some] at hg
 dsimp only at hg
 have hn1:(getN B).1≤1048576:=by omega
 refine JR.more (Γ':=.own br 295 [.slice a1 B.length c1]::.st (sl a1 c1 B)::.own bp 31 [.int .i64 n0, .int .i64 0, .int .i64 0, .slice none 0 0, .int .i64 0, .string .empty, .string .empty, .int .i64 0]::Γ) (fun w ho=>ho.ent) ?_
 refine Xal (v:=fun y:Option Addr × Nat=>.int .i64 ((getN B).1:Int)) (B:=fun y=>.own br 295 [.slice y.1 (B.drop (getN B).2).length y.2]::.st (sl y.1 y.2 (B.drop (getN B).2))::.own bp 31 [.int .i64 n0, .int .i64 0, .int .i64 0, .slice none 0 0, .int .i64 0, .string .empty, .string .empty, .int .i64 0]::Γ) rfl (fun w1 hw=>Xxq 1048576 (by decide) (fun h=>h1 (.inl h)) (by omega) hw) ?_
 rintro ⟨a2,c2⟩
 dsimp only
 replace hB:(B.drop (getN B).2).length≤34359738368:=by rw [List.length_drop]; omega
 generalize B.drop (getN B).2=B at hB hg ⊢
 generalize (getN _).1=n1 at hn1 hg ⊢
 refine wz6 ?_
 by_cases h2:(getN B).2=0∨1048576 < (getN B).1
 ·rw [Xln h2,Option.bind_none] at hg
  refine JR.more (Γ':=.own br 295 [.slice a2 B.length c2]::.st (sl a2 c2 B)::Γ) (fun w ho=>ho.ent) ?_
  refine Xc9 (fun w1 hw=>Xs1 1048576 (by decide) h2 hw) ?_
  refine z2z ?_
  exact .inr ⟨hg,CT.gone (fun w ho=>ho)⟩
 rw [Xlo h2,Option.bind_some] at hg
 dsimp only at hg
 have hn2:(getN B).1≤1048576:=by omega
 refine JR.more (Γ':=.own br 295 [.slice a2 B.length c2]::.st (sl a2 c2 B)::.own bp 31 [.int .i64 n0, .int .i64 0, .int .i64 0, .slice none 0 0, .int .i64 0, .string .empty, .string .empty, .int .i64 0]::Γ) (fun w ho=>ho.ent) ?_
 refine Xal (v:=fun y:Option Addr × Nat=>.int .i64 ((getN B).1:Int)) (B:=fun y=>.own br 295 [.slice y.1 (B.drop (getN B).2).length y.2]::.st (sl y.1 y.2 (B.drop (getN B).2))::.own bp 31 [.int .i64 n0, .int .i64 0, .int .i64 0, .slice none 0 0, .int .i64 0, .string .empty, .string .empty, .int .i64 0]::Γ) rfl (fun w1 hw=>Xxq 1048576 (by decide) (fun h=>h2 (.inl h)) (by omega) hw) ?_
 rintro ⟨a3,c3⟩
 dsimp only
 replace hB:(B.drop (getN B).2).length≤34359738368:=by rw [List.length_drop]; omega
 generalize B.drop (getN B).2=B at hB hg ⊢
 generalize (getN _).1=n2 at hn2 hg ⊢
 refine wz9 ?_
 by_cases h3:(getN B).2=0∨8 < (getN B).1
 ·rw [Xln h3,Option.bind_none] at hg
  refine JR.more (Γ':=.own br 295 [.slice a3 B.length c3]::.st (sl a3 c3 B)::Γ) (fun w ho=>ho.ent) ?_
  refine Xc9 (fun w1 hw=>Xs1 8 (by decide) h3 hw) ?_
  refine z2z ?_
  exact .inr ⟨hg,CT.gone (fun w ho=>ho)⟩
 rw [Xlo h3,Option.bind_some] at hg
 dsimp only at hg
 have hn3:(getN B).1≤8:=by omega
 refine JR.more (Γ':=.own br 295 [.slice a3 B.length c3]::.st (sl a3 c3 B)::.own bp 31 [.int .i64 n0, .int .i64 (n1:Int), .int .i64 (n2:Int), .slice none 0 0, .int .i64 0, .string .empty, .string .empty, .int .i64 0]::Γ) (fun w ho=>ho.ent) ?_
 refine Xal (v:=fun y:Option Addr × Nat=>.int .i64 ((getN B).1:Int)) (B:=fun y=>.own br 295 [.slice y.1 (B.drop (getN B).2).length y.2]::.st (sl y.1 y.2 (B.drop (getN B).2))::.own bp 31 [.int .i64 n0, .int .i64 (n1:Int), .int .i64 (n2:Int), .slice none 0 0, .int .i64 0, .string .empty, .string .empty, .int .i64 0]::Γ) rfl (fun w1 hw=>Xxq 8 (by decide) (fun h=>h3 (.inl h)) (by omega) hw) ?_
 rintro ⟨a4,c4⟩
 dsimp only
 replace hB:(B.drop (getN B).2).length≤34359738368:=by rw [List.length_drop]; omega
 generalize B.drop (getN B).2=B at hB hg ⊢
 generalize (getN _).1=n3 at hn3 hg ⊢
 refine wz4 ?_
 generalize a4=r1
 refine JC.more (Γ':=.res (buf (α:=ID) none 0 72 [])::.own br 295 [.slice r1 B.length c4]::.st (sl r1 c4 B)::.own bp 31 [.int .i64 n0, .int .i64 (n1:Int), .int .i64 (n2:Int), .slice none 0 0, .int .i64 0, .string .empty, .string .empty, .int .i64 0]::Γ) (fun w ho=>ho.bufNil) ?_
 refine X5s (fun (i:Nat) (ps:List ID) (p:Option Addr × Nat) (B:List UInt8) (r:Option Addr × Nat)=>[(0, .pointer (some ⟨br,0,none⟩)),(2, .pointer (some ⟨bp,0,none⟩)),(19, .int .i64 (n3:Int)),(20, .int .i64 (i:Int))])
  (fun i ps p B r=>.own br 295 [.slice r.1 B.length r.2]::.st (sl r.1 r.2 B)::.res (buf p.1 p.2 72 ps)::.own bp 31 [.int .i64 n0, .int .i64 (n1:Int), .int .i64 (n2:Int), .slice p.1 ps.length p.2, .int .i64 0, .string .empty, .string .empty, .int .i64 0]::Γ)
  (fun i ps p B r=>i≤n3∧ps.length=i∧B.length≤34359738368∧getC L=(Xfv (n3 - i) B).bind fun q=>opC n0 n1 n2 (ps++q.1) q.2) (fun i _ _ _ _=>n3 - i) 0 [] (none,0) B (r1,c4) ⟨Nat.zero_le _,rfl,hB,hg⟩ iI ?_
 clear hg hB
 rintro i ps ⟨pa,pc⟩ B ⟨ra,rc⟩ ⟨hi,hlen,hB,hg⟩
 dsimp only
 refine wz11 ?_
 refine JC.test (fun h4=>?_) (fun h4=>?_)
 ·have hni:n3 - i=(n3 - (i+1))+1:=by omega
  rw [hni] at hg
  refine wz14 ?_
  refine JC.drawP mixed ?_
  refine Xab 0 ?_
  refine JP.tv 1 [.own bp 31 [.int .i64 n0, .int .i64 (n1:Int), .int .i64 (n2:Int), .slice pa ps.length pc, .int .i64 0, .string .empty, .string .empty, .int .i64 0]] ?_
  refine Xab 2 ?_
  by_cases h32:32≤B.length
  ·have hgi:Xfv (n3 - (i+1)+1) B=(Xfv (n3 - (i+1)) (B.drop 32)).map (fun q=>(Xkn B h32::q.1,q.2)):=dif_pos h32
   refine Xai 3 rfl rfl (Xal (v:=fun y:Option Addr × Nat=>.agg ⟨idc (Xkn B h32)⟩) (B:=fun y=>.own br 295 [.slice y.1 (B.drop 32).length y.2]::.st (sl y.1 y.2 (B.drop 32))::.res (buf pa pc 72 ps)::.own bp 31 [.int .i64 n0, .int .i64 (n1:Int), .int .i64 (n2:Int), .slice pa ps.length pc, .int .i64 0, .string .empty, .string .empty, .int .i64 0]::Γ) rfl (fun w1 hw=>Ych h32 hw) fun y=>Wd (nO ?_))
   refine Xai 4 rfl rfl (Ww rfl ⟨rfl,by decide,by decide,by decide⟩ fun lb=>Wd (nO ?_))
   refine Xai 5 rfl rfl (Xay (L:=ps) (u:=Xkn B h32) rfl (by exact ⟨rfl,rfl,by decide⟩) (by omega) (fun pa2 pc2=>Wd (nO ?_)))
   refine Xab 6 ?_
   refine Xai 7 rfl rfl (Wi (Wd (nO ?_)))
   refine JP.nil (by kernel_rfl) ?_
   refine wz2 ?_
   refine ⟨i+1,ps++[Xkn B h32],(pa2,pc2),B.drop 32,y,⟨by omega,by simp [hlen],by rw [List.length_drop]; omega,?_⟩,by omega,iI⟩
   rw [hg,hgi]
   cases Xfv (n3 - (i+1)) (B.drop 32) with
   | none=>rfl
   | some q=>simp
  ·have hgi:Xfv (n3 - (i+1)+1) B=none:=dif_neg h32
   rw [hgi,Option.bind_none] at hg
   refine JP.more (Γ':=.own br 295 [.slice ra B.length rc]::.st (sl ra rc B)::Γ) (fun w ho=>ho.ent) ?_
   refine JP.gone 3 (by kernel_rfl) rfl rfl (Xc9 (fun w1 hw=>Ybz (by omega) hw) ⟨_,rfl,?_⟩)
   refine z2z ?_
   exact .inr ⟨hg,CT.gone (fun w ho=>ho)⟩
 ·obtain rfl:i=n3:=by omega
  rw [Nat.sub_self] at hg
  have hg2:getC L=opC n0 n1 n2 ps B:=by rw [hg]; simp [Xfv]
  refine wA ?_
  have hps:ps.length≤8:=by omega
  refine JC.more (fun w ho=>(ho.ent:Hold w0 F (.res (buf pa pc 72 ps)::.own br 295 [.slice ra B.length rc]::.st (sl ra rc B)::.own bp 31 [.int .i64 n0, .int .i64 (n1:Int), .int .i64 (n2:Int), .slice pa ps.length pc, .int .i64 0, .string .empty, .string .empty, .int .i64 0]::Γ) w).pub) ?_
  refine JC.test (fun h5=>?_) (fun h5=>?_)
  ·have e5:getC L=if (getOp B).2.2=0 then finC ⟨⟨n0,n1⟩,n2,ps,(getOp B).1⟩ (getOp B).2.1 else none:=by rw [hg2]; exact if_neg h5
   have htx:=Xpc B
   have hol:=Xvl B
   refine wz14 ?_
   refine Wf OpV.nilCheck rfl ?_
   refine wz6 ?_
   refine JR.call1 (B:=fun y:Option Addr × Nat=>.st (sl y.1 y.2 (getOp B).2.1)) rfl (fun w1 hw=>Yas w1 _ ra rc B hw.get hB) ?_
   rintro ⟨ro,co⟩
   dsimp only
   obtain ⟨o,R,k,hk⟩:∃ o R k,getOp B=(o,R,k):=⟨_,_,_,rfl⟩
   rw [hk] at e5 htx hol ⊢
   dsimp only at e5 htx hol ⊢
   (repeat (refine wE ?_; intro _)); refine wA ?_
   by_cases hk0:k=0
   ·rw [if_pos hk0] at e5
    refine JR.reslot 44 (.bool true) (by congr 1; exact decide_eq_true hk0) ?_
    refine JR.callV rfl (fun w1 hw=>Xgy w1 _) ?_
    refine wz9 ?_
    refine Wf OpV.nilCheck rfl ?_
    refine wz6 ?_
    refine JR.reslot 51 (.pointer (some ⟨br,0,none⟩)) rfl ?_
    refine Wi ?_
    refine wz9 ?_
    refine JR.callV rfl (fun w1 hw=>Xeh w1 _ ⟨⟨n0,n1⟩,n2,ps,o⟩ pa pc (hw.get (A:=sl pa pc ps)) htx) ?_
    cases hmay:may ⟨⟨n0,n1⟩,n2,ps,o⟩ with
    | false =>
     have hg:getC L=none:=by rw [e5]; unfold finC; rw [hmay]; rfl
     refine wz13 ?_
     refine JR.more (Γ':=Γ) (fun w ho=>ho.ent) ?_
     refine Xc9 (fun w1 hw=>Xfi hw) ?_
     refine z2z ?_
     exact .inr ⟨hg,CT.gone (fun w ho=>ho)⟩
    | true =>
     have hg:getC L=some (⟨⟨n0,n1⟩,n2,ps,o⟩,R):=by rw [e5]; unfold finC; rw [hmay]; rfl
     refine wz13 ?_
     refine JR.callV rfl (fun w1 hw=>Xgy w1 _) ?_
     refine wz9 ?_
     exact .inl (CT.done (⟨⟨⟨n0,n1⟩,n2,ps,o⟩,R,hg,pa,pc,ro,co⟩:ReadY L) rfl (fun w ho=>ho.ent))
   ·rw [if_neg hk0] at e5
    have hg:=e5
    refine JR.reslot 44 (.bool false) (by congr 1; exact decide_eq_false hk0) ?_
    refine JR.more (Γ':=Γ) (fun w ho=>ho.ent) ?_
    refine Xc9 (fun w1 hw=>Xfi hw) ?_
    refine z2z ?_
    exact .inr ⟨hg,CT.gone (fun w ho=>ho)⟩
  ·have e5:getC L=finC ⟨⟨n0,n1⟩,n2,ps,op0⟩ B:=by rw [hg2]; exact if_pos (by omega)
   refine wz1 ?_
   refine JR.callV rfl (fun w1 hw=>Xeh w1 _ ⟨⟨n0,n1⟩,n2,ps,op0⟩ pa pc (hw.get (A:=sl pa pc ps)) (by unfold Xmq; exact (by decide:op0.key.size < 4611686018427387904∧op0.elem.size < 4611686018427387904))) ?_
   cases hmay:may ⟨⟨n0,n1⟩,n2,ps,op0⟩ with
   | false =>
    have hg:getC L=none:=by rw [e5]; unfold finC; rw [hmay]; rfl
    refine wz13 ?_
    refine JR.more (Γ':=Γ) (fun w ho=>ho.ent) ?_
    refine Xc9 (fun w1 hw=>Xfi hw) ?_
    refine z2z ?_
    exact .inr ⟨hg,CT.gone (fun w ho=>ho)⟩
   | true =>
    have hg:getC L=some (⟨⟨n0,n1⟩,n2,ps,op0⟩,B):=by rw [e5]; unfold finC; rw [hmay]; rfl
    refine wz13 ?_
    refine JR.callV rfl (fun w1 hw=>Xgy w1 _) ?_
    refine wz9 ?_
    exact .inl (CT.done (⟨⟨⟨n0,n1⟩,n2,ps,op0⟩,B,hg,pa,pc,ra,rc⟩:ReadY L) rfl (fun w ho=>ho.ent))
end
end
section
variable {P:Program}
theorem Xp3 {ops:Array Oper} {R:Exit→Act→List Frame→World→Prop} {i:Nat} {rest:List Nat} {a:Act} {cs cs':List Frame} {w:World} {o:Oper} {v:Value} (ho:ops[i]? = some o) (hw:Region.wanted o (yielded ops a.tmps)=true)
  (hr:(execOp a.eval o).run P w = .ok .recover w) (h4:(match recoverD cs with | some (v,cs')=>(v,cs') | none=>(Value.nilIface,cs))=(v,cs')) (h:wpOpsS P ops R rest (a.put o.dst v) cs' w):wpOpsS P ops R (i::rest) a cs w:=by
 unfold wpOpsS
 rw [ho]
 dsimp only
 rw [if_pos hw,hr]
 dsimp only
 cases hd:recoverD cs with
 | none=>rw [hd] at h4; cases h4; exact h
 | some p=>rw [hd] at h4; cases h4; exact h
theorem Xvm {ops:Array Oper} {R:Exit→Act→List Frame→World→Prop} {i:Nat} {rest:List Nat} {a:Act} {cs:List Frame} {w:World} {o:Oper} {v:Value} (ho:ops[i]? = some o) (hw:Region.wanted o (yielded ops a.tmps)=true)
  (hr:(execOp a.eval o).run P w = .ok (.value v) w) (h:wpOpsS P ops R rest (a.put o.dst v) cs w):wpOpsS P ops R (i::rest) a cs w:=by
 unfold wpOpsS
 rw [ho]
 dsimp only
 rw [if_pos hw,hr]
 exact h
end
section
variable {P:Program} {w0:World} {F:Nat→Prop} {Q:Cont} {e:E} {Γ Γ':List Fact} [Dr]
def Xvn (P:Program) (w0:World) (F:Nat→Prop) (g:FuncId) (us:List Value) (u u':FrameMode) (Γ Γ':List Fact):Prop :=
 ∀ w,Hold w0 F Γ w→CallsD P g ⟨us⟩ u w fun x u1 w'=>x = .returned (.tuple ⟨[]⟩)∧u1=u'∧Hold w0 F Γ' w'
abbrev panR (v:Value):List PanicEntry:=[{ v:=v,recovered:=true }]
def Yat (P:Program) (w0:World) (F:Nat→Prop) (rs:List ResultVar) {Y:Type} (v:Y→Value) (B:Y→List Fact) (g:FuncId) (us:List Value):Cont:=fun x e Γ =>
 ∃ Γ',(((x = .ret∨x = .normal)∧Xvn P w0 F g us .returning .returning Γ Γ')∨(∃ v0,x = .panic (pan v0)∧Xvn P w0 F g us (.panicking (pan v0)) (.panicking (panR v0)) Γ Γ'))∧Xah P w0 F rs v B .ret e Γ'
theorem Xxt {f:FuncId} {fn:Func} {c:Code} {rs:List ResultVar} {args:List Value} {w:World} {Y:Type} {v:Y→Value} {B:Y→List Fact}
  {m:Nat} (hf:P.funcs[f]? = some fn) (hb:fn.body=some c) (hn:fn.ntmps=m) (hr:fn.results=⟨rs⟩) (hl:Nat.ble args.length m=true) (Γ:List Fact) (ho:Hold w F Γ w)
  (h:JX P ⟨m,[]⟩ w F c (fun n' x e Γ=>∃ g us,Body P g∧n'=⟨m,[⟨.fn (.func g) ⟨us⟩,#[]⟩]⟩∧Yat P w F rs v B g us x e Γ) (enum 0 args) Γ):Gives P f args w F v B:=by
 refine calls_of_wp_defers hf hb ?_
 rw [hn]
 refine wp_mono (h _ w (Fr.start hl) ho) ?_
 rintro x a w' ⟨n',e,Γ,⟨g,us,hbd,rfl,Γ',hx,_,y,vs,hres,hpk,hB⟩,fr,ho'⟩
 have hi:∀ w1,(invoke (.fn (.func g) ⟨us⟩) #[]).run P w1 = .ok (.enter g ⟨us⟩) w1:=fun w1=>by
  have e3:(#[]:Array Value)++(⟨us⟩:Array Value)=⟨us⟩:=by apply Array.ext'; simp
  simp only [invoke,e3,hbd.ok]
 have hfin:∀ w1,Hold w F Γ' w1→Leaves P fn a.tmps (fun x w'=>∃ y,x = .returned (v y)∧Bel w.heap.size w w'∧Fresh w.heap.size F (B y) w') [] .returning w1:=fun w1 ho1=>by
  have fr':Fr ⟨m,[]⟩ e ⟨a.tmps,[]⟩:=⟨rfl,fr.size,fr.slot⟩
  have hrun:=Xeb (P:=P) hr hres fr' ho1
  exact ⟨_,hrun,y,by rw [hpk],ho1.below,(hB w1 ho1).fresh⟩
 rcases hx with ⟨hx,hc⟩ | ⟨v0,rfl,hc⟩
 ·have:Leaves P fn a.tmps (fun x w'=>∃ y,x = .returned (v y)∧Bel w.heap.size w w'∧Fresh w.heap.size F (B y) w') a.defers .returning w':=by
   rw [fr.defers]
   refine leaves_cons (by simp) (hi w') ((hc w' ho').mono ?_)
   rintro x u' w1 ⟨rfl,rfl,ho1⟩
   exact hfin w1 ho1
  rcases hx with rfl | rfl <;> exact this
 ·show Leaves P fn a.tmps _ a.defers (.panicking (pan v0)) w'
  rw [fr.defers]
  refine leaves_cons (by simp) (hi w') ((hc w' ho').mono ?_)
  rintro x u' w1 ⟨rfl,rfl,ho1⟩
  exact hfin w1 ho1
theorem Xvo {g:FuncId} {fn:Func} {y:Code} {us:List Value} {m id d1 d2:Nat} {t1 t2:TypeId} {p1 p2:String} {f1 f2:Array Edge} {ats:Array TypeId} {u u':FrameMode} {v0:Value}
  (hu:(u = .returning∧u' = .returning∧v0 = .nilIface)∨(u = .panicking (pan v0)∧u' = .panicking (panR v0)))
  (hf:P.funcs[g]? = some fn) (hb:fn.body=some (.seq (.region id ⟨[⟨some d1, .call ⟨.builtin .recover,#[],ats⟩,t1,p1,f1,none⟩,⟨some d2, .assign (.tmp d1),t2,p2,f2,none⟩]⟩ false) y)) (hn:fn.ntmps=m) (hr:fn.results=⟨[]⟩)
  (hl:Nat.ble us.length m=true) (hd1:Nat.blt d1 m=true) (hd2:Nat.blt d2 m=true)
  (h:JC P ⟨m,[]⟩ w0 F y (Xah P w0 F [] (fun _:Unit=>.tuple ⟨[]⟩) (fun _=>Γ')) ((d2,v0)::(d1,v0)::enum 0 us) Γ):Xvn P w0 F g us u u' Γ Γ':=by
 intro w ho
 refine callsD_of_wpS hf hb fun c₀ cs hc=>?_
 rw [hn]
 have fr0:=Fr.start (args:=us) hl
 have fr1:=(fr0.put hd1 v0)
 have fr2:=(fr1.put hd2 v0)
 refine wpS_seq (wpS_region ?_)
 have hrg:List.range (Array.size (⟨[⟨some d1, .call ⟨.builtin .recover,#[],ats⟩,t1,p1,f1,none⟩,⟨some d2, .assign (.tmp d1),t2,p2,f2,none⟩]⟩:Array Oper))=[0,1]:=rfl
 rw [hrg]
 have hw:∀ y (o:Oper),o.guard=none→Region.wanted o y=true:=fun y o h=>by unfold Region.wanted; rw [h]
 generalize hA:({ tmps:=(⟨us⟩:Array Value)++Array.replicate (m - (⟨us⟩:Array Value).size) undef,defers:=[] }:Act)=a at fr0 fr1 fr2 ⊢
 have h1:(execOp a.eval ⟨some d1, .call ⟨.builtin .recover,#[],ats⟩,t1,p1,f1,none⟩).run P w = .ok .recover w:=by
  simp [execOp,Xaj,invoke,builtin]
 have h2:(execOp (a.put (some d1) v0).eval ⟨some d2, .assign (.tmp d1),t2,p2,f2,none⟩).run P w = .ok (.value v0) w:=by
  have h3:(a.put (some d1) v0).eval (.tmp d1)=v0:=(iI:Ev ((d1,v0)::enum 0 us) (.tmp d1) v0).ok _ _ fr1
  simp [execOp,h3]
 have h4:(match recoverD (c₀::cs) with | some (v,cs')=>(v,cs') | none=>(Value.nilIface,c₀::cs))=(v0,{ c₀ with mode:=u' }::cs):=by
  unfold recoverD
  rcases hu with ⟨rfl,rfl,rfl⟩ | ⟨rfl,rfl⟩
  ·cases c₀; simp at hc; subst hc; rfl
  ·cases c₀; simp at hc; subst hc; rfl
 refine Xp3 rfl (hw _ _ rfl) h1 h4 ?_
 refine Xvm rfl (hw _ _ rfl) h2 ?_
 unfold wpOpsS
 refine wpS_of_wp (wp_mono (h _ w fr2 ho) ?_)
 rintro x a1 w1 ⟨e1,Γ1,⟨hx,y1,vs,hres,hpk,hB⟩,fr,ho1⟩
 have hrun:=Xeb (P:=P) hr hres fr ho1
 rw [hpk] at hrun
 rcases hx with rfl | rfl
 ·exact ⟨fr.defers,u',rfl,_,hrun,rfl,rfl,hB w1 ho1⟩
 ·exact ⟨fr.defers,u',rfl,_,hrun,rfl,rfl,hB w1 ho1⟩
end
section
variable {P:Program} {n:Nn} {w0:World} {F:Nat→Prop} {d:Option Nat} {t:TypeId} {pos:String} {aft:Array Edge} {g:Option (Nat × Bool)} {e:E} {Γ:List Fact}
theorem Xxu [Dr] {x:Operand} {ty yt:TypeId} [hx:Ev e x .nilIface] (hu:P.underlying ty=some (.interface (P.methodsAt ty))):OpV P n w0 F ⟨d, .binOp .neq ty x (.const .nilIface) yt,t,pos,aft,g⟩ e Γ (.bool false) :=
 fun a w fr _=>by
  have h2:(Act.eval a (.const .nilIface)) = .nilIface:=rfl
  have h4:(eqGuard .neq ty x (.const .nilIface) .nilIface .nilIface).run P w = .ok () w:=by simp [eqGuard]
  simp only [execOp,hx.ok n a fr,h2,Sem.run_bind,h4,Result.andThen_ok,run_neq_nil_nil w ty hu,Sem.run_pure]
theorem Xxv [Dr] {x:Operand} {ty yt u:TypeId} {v:Value} [hx:Ev e x (.iface u v)] (hu:P.underlying ty=some (.interface (P.methodsAt ty))):OpV P n w0 F ⟨d, .binOp .neq ty x (.const .nilIface) yt,t,pos,aft,g⟩ e Γ (.bool true) :=
 fun a w fr _=>by
  have h2:(Act.eval a (.const .nilIface)) = .nilIface:=rfl
  have h4:(eqGuard .neq ty x (.const .nilIface) (.iface u v) .nilIface).run P w = .ok () w:=by simp [eqGuard]
  simp only [execOp,hx.ok n a fr,h2,Sem.run_bind,h4,Result.andThen_ok,run_neq_held_nil w ty u v hu,Sem.run_pure]
theorem Xvp [Dr] {x:Operand} {xt at_:TypeId} {v:Value} [hx:Ev e x (.iface at_ v)] (hi:∀ w,(Instr.typeAssert (.iface at_ v) xt at_ true).run P w = .ok (.tuple ⟨[v, .bool true]⟩) w):OpV P n w0 F ⟨d, .typeAssert x xt at_ true,t,pos,aft,g⟩ e Γ (.tuple ⟨[v, .bool true]⟩) :=
 fun a w fr _=>by simp [execOp,hx.ok n a fr,hi w]
end
end Ab
end Go.Proofs.YtllddbbldmoibaaGreat
