/- Lemmas for the walks, part 6 of 6: EwU, Entry, Shut. -/
import Derived.Test.YtllddbbldmoibaaGreatBrE5
import Derived.Test.YtllddbbldmoibaaGreatBrE2
import Derived.Test.YtllddbbldmoibaaGreatBrE4
import Derived.SizedLaws
import Derived.ChangeArms
import Derived.KernelRfl
import Derived.OpenShut
import Derived.Test.YtllddbbldmoibaaGreatBrE3
import Derived.Test.YtllddbbldmoibaaGreatRows
import Derived.ProofKit
import Derived.Carry
namespace Go.Proofs.YtllddbbldmoibaaGreat
namespace Ab
open Go Go.RowKit Go.Proofs.Tryz
set_option linter.unusedVariables false
set_option linter.unusedSimpArgs false
set_option linter.unusedSectionVars false
set_option synthInstance.maxSize 4000
set_option synthInstance.maxHeartbeats 400000
set_option maxHeartbeats 16000000
variable (w:World) (F:Nat→Prop)
section
attribute [local irreducible] JC JO JR JQ andThen inBlock OpV Gives Xae JM JS
section
attribute [local irreducible] Xat iE iF iG
theorem law_evalnext (a:Option Addr) (k:Nat) (L:List Commit) (ev:Ev_) (o:Op_) (h:(sl a k L).holds F w) :
  GivesV prog 3 [.slice a L.length k, .agg ⟨[.int .i64 ev.node, .int .i64 ev.seq]⟩,opV o] w F (.bool true):=by
 refine Xaa func3 rfl ntmps3 rfl rfl [.st (sl a k L)] (.start1 h) ?_
 repeat (first|refine Wa ?_|refine Wb ?_|refine Wc ?_|refine Wd ?_|refine We rfl ?_|refine Wf (by first|exact Va|exact Vb|exact Vc|exact Vd|exact Ve|exact Vf|exact Vg|exact Vh|exact Vi|exact Vj|exact Vk (by omega)|exact Vl|exact Vm|exact Vn|exact Vo|exact Vp|exact Vq|exact Vr|exact Vs (by omega)|exact Vt (by omega)|exact Vu (by omega)|exact Vv (by omega)|exact Vw|exact Vx|exact Vy|exact Vz|exact VA|exact VB|exact VC|exact VD|exact VE|exact VF) rfl ?_|(refine Wg rfl ?_; intro _)|(refine Wh rfl ?_; intro _)|refine Wi ?_|refine Wj ?_|refine Wk ?_|refine Wl ?_|refine Wm ?_|refine Wn ?_|refine Wo ?_|refine Wp ?_|refine Wq rfl ?_|refine Wr ?_|refine Ws ?_|refine Wt ?_|refine Wu ?_|refine Wv rfl rfl ?_|(refine Ww rfl ⟨rfl,by decide,by decide,by decide⟩ ?_; intro _))
 rename_i b4 b5
 refine JR.callV rfl (fun w1 hw=>Xuk w1 _) ?_
 repeat (first|refine Wa ?_|refine Wb ?_|refine Wc ?_|refine Wd ?_|refine We rfl ?_|refine Wf (by first|exact Va|exact Vb|exact Vc|exact Vd|exact Ve|exact Vf|exact Vg|exact Vh|exact Vi|exact Vj|exact Vk (by omega)|exact Vl|exact Vm|exact Vn|exact Vo|exact Vp|exact Vq|exact Vr|exact Vs (by omega)|exact Vt (by omega)|exact Vu (by omega)|exact Vv (by omega)|exact Vw|exact Vx|exact Vy|exact Vz|exact VA|exact VB|exact VC|exact VD|exact VE|exact VF) rfl ?_|(refine Wg rfl ?_; intro _)|(refine Wh rfl ?_; intro _)|refine Wi ?_|refine Wj ?_|refine Wk ?_|refine Wl ?_|refine Wm ?_|refine Wn ?_|refine Wo ?_|refine Wp ?_|refine Wq rfl ?_|refine Wr ?_|refine Ws ?_|refine Wt ?_|refine Wu ?_|refine Wv rfl rfl ?_|(refine Ww rfl ⟨rfl,by decide,by decide,by decide⟩ ?_; intro _))
 refine JR.callV rfl (fun w1 hw=>X1c w1 _ a k L 10 hw.get) ?_
 cases hfew:fewL L 10 with
 | false =>
  repeat (first|refine Wa ?_|refine Wb ?_|refine Wc ?_|refine Wd ?_|refine We rfl ?_|refine Wf (by first|exact Va|exact Vb|exact Vc|exact Vd|exact Ve|exact Vf|exact Vg|exact Vh|exact Vi|exact Vj|exact Vk (by omega)|exact Vl|exact Vm|exact Vn|exact Vo|exact Vp|exact Vq|exact Vr|exact Vs (by omega)|exact Vt (by omega)|exact Vu (by omega)|exact Vv (by omega)|exact Vw|exact Vx|exact Vy|exact Vz|exact VA|exact VB|exact VC|exact VD|exact VE|exact VF) rfl ?_|(refine Wg rfl ?_; intro _)|(refine Wh rfl ?_; intro _)|refine Wi ?_|refine Wj ?_|refine Wk ?_|refine Wl ?_|refine Wm ?_|refine Wn ?_|refine Wo ?_|refine Wp ?_|refine Wq rfl ?_|refine Wr ?_|refine Ws ?_|refine Wt ?_|refine Wu ?_|refine Wv rfl rfl ?_|(refine Ww rfl ⟨rfl,by decide,by decide,by decide⟩ ?_; intro _)|refine Wx rfl rfl ?_)
  exact Xab () rfl
 | true =>
 obtain ⟨hL,hf⟩:=Xy3 hfew
 repeat (first|refine Wa ?_|refine Wb ?_|refine Wc ?_|refine Wd ?_|refine We rfl ?_|refine Wf (by first|exact Va|exact Vb|exact Vc|exact Vd|exact Ve|exact Vf|exact Vg|exact Vh|exact Vi|exact Vj|exact Vk (by omega)|exact Vl|exact Vm|exact Vn|exact Vo|exact Vp|exact Vq|exact Vr|exact Vs (by omega)|exact Vt (by omega)|exact Vu (by omega)|exact Vv (by omega)|exact Vw|exact Vx|exact Vy|exact Vz|exact VA|exact VB|exact VC|exact VD|exact VE|exact VF) rfl ?_|(refine Wg rfl ?_; intro _)|(refine Wh rfl ?_; intro _)|refine Wi ?_|refine Wj ?_|refine Wk ?_|refine Wl ?_|refine Wm ?_|refine Wn ?_|refine Wo ?_|refine Wp ?_|refine Wq rfl ?_|refine Wr ?_|refine Ws ?_|refine Wt ?_|refine Wu ?_|refine Wv rfl rfl ?_|(refine Ww rfl ⟨rfl,by decide,by decide,by decide⟩ ?_; intro _)|refine Wx rfl rfl ?_)
 refine JO.test 32 (fun hk=>?_) (fun hk=>?_)
 ·repeat (first|refine Wa ?_|refine Wb ?_|refine Wc ?_|refine Wd ?_|refine We rfl ?_|refine Wf (by first|exact Va|exact Vb|exact Vc|exact Vd|exact Ve|exact Vf|exact Vg|exact Vh|exact Vi|exact Vj|exact Vk (by omega)|exact Vl|exact Vm|exact Vn|exact Vo|exact Vp|exact Vq|exact Vr|exact Vs (by omega)|exact Vt (by omega)|exact Vu (by omega)|exact Vv (by omega)|exact Vw|exact Vx|exact Vy|exact Vz|exact VA|exact VB|exact VC|exact VD|exact VE|exact VF) rfl ?_|(refine Wg rfl ?_; intro _)|(refine Wh rfl ?_; intro _)|refine Wi ?_|refine Wj ?_|refine Wk ?_|refine Wl ?_|refine Wm ?_|refine Wn ?_|refine Wo ?_|refine Wp ?_|refine Wq rfl ?_|refine Wr ?_|refine Ws ?_|refine Wt ?_|refine Wu ?_|refine Wv rfl rfl ?_|(refine Ww rfl ⟨rfl,by decide,by decide,by decide⟩ ?_; intro _)|refine Wx rfl rfl ?_)
  exact Xab () rfl
 repeat (first|refine Wa ?_|refine Wb ?_|refine Wc ?_|refine Wd ?_|refine We rfl ?_|refine Wf (by first|exact Va|exact Vb|exact Vc|exact Vd|exact Ve|exact Vf|exact Vg|exact Vh|exact Vi|exact Vj|exact Vk (by omega)|exact Vl|exact Vm|exact Vn|exact Vo|exact Vp|exact Vq|exact Vr|exact Vs (by omega)|exact Vt (by omega)|exact Vu (by omega)|exact Vv (by omega)|exact Vw|exact Vx|exact Vy|exact Vz|exact VA|exact VB|exact VC|exact VD|exact VE|exact VF) rfl ?_|(refine Wg rfl ?_; intro _)|(refine Wh rfl ?_; intro _)|refine Wi ?_|refine Wj ?_|refine Wk ?_|refine Wl ?_|refine Wm ?_|refine Wn ?_|refine Wo ?_|refine Wp ?_|refine Wq rfl ?_|refine Wr ?_|refine Ws ?_|refine Wt ?_|refine Wu ?_|refine Wv rfl rfl ?_|(refine Ww rfl ⟨rfl,by decide,by decide,by decide⟩ ?_; intro _)|refine Wx rfl rfl ?_)
 refine JC.test (fun he=>?_) (fun he=>?_)
 ·repeat (first|refine Wa ?_|refine Wb ?_|refine Wc ?_|refine Wd ?_|refine We rfl ?_|refine Wf (by first|exact Va|exact Vb|exact Vc|exact Vd|exact Ve|exact Vf|exact Vg|exact Vh|exact Vi|exact Vj|exact Vk (by omega)|exact Vl|exact Vm|exact Vn|exact Vo|exact Vp|exact Vq|exact Vr|exact Vs (by omega)|exact Vt (by omega)|exact Vu (by omega)|exact Vv (by omega)|exact Vw|exact Vx|exact Vy|exact Vz|exact VA|exact VB|exact VC|exact VD|exact VE|exact VF) rfl ?_|(refine Wg rfl ?_; intro _)|(refine Wh rfl ?_; intro _)|refine Wi ?_|refine Wj ?_|refine Wk ?_|refine Wl ?_|refine Wm ?_|refine Wn ?_|refine Wo ?_|refine Wp ?_|refine Wq rfl ?_|refine Wr ?_|refine Ws ?_|refine Wt ?_|refine Wu ?_|refine Wv rfl rfl ?_|(refine Ww rfl ⟨rfl,by decide,by decide,by decide⟩ ?_; intro _)|refine Wx rfl rfl ?_)
  exact Xab () rfl
 have hot:o.key.size < 4611686018427387904∧o.elem.size < 4611686018427387904:=⟨by omega,by omega⟩
 obtain ⟨cn,bn,hn⟩:∃ c b,nextF L ev o=(c,b):=⟨_,_,rfl⟩
 repeat (first|refine Wa ?_|refine Wb ?_|refine Wc ?_|refine Wd ?_|refine We rfl ?_|refine Wf (by first|exact Va|exact Vb|exact Vc|exact Vd|exact Ve|exact Vf|exact Vg|exact Vh|exact Vi|exact Vj|exact Vk (by omega)|exact Vl|exact Vm|exact Vn|exact Vo|exact Vp|exact Vq|exact Vr|exact Vs (by omega)|exact Vt (by omega)|exact Vu (by omega)|exact Vv (by omega)|exact Vw|exact Vx|exact Vy|exact Vz|exact VA|exact VB|exact VC|exact VD|exact VE|exact VF) rfl ?_|(refine Wg rfl ?_; intro _)|(refine Wh rfl ?_; intro _)|refine Wi ?_|refine Wj ?_|refine Wk ?_|refine Wl ?_|refine Wm ?_|refine Wn ?_|refine Wo ?_|refine Wp ?_|refine Wq rfl ?_|refine Wr ?_|refine Ws ?_|refine Wt ?_|refine Wu ?_|refine Wv rfl rfl ?_|(refine Ww rfl ⟨rfl,by decide,by decide,by decide⟩ ?_; intro _)|refine Wx rfl rfl ?_)
 refine JR.call1 (v:=fun y:Option Addr × Nat=>.tuple ⟨[Xbk cn y.1 y.2, .bool bn]⟩) (B:=fun y=>.st (sl y.1 y.2 cn.parents)) rfl (fun w1 hw=>by have:=Xxi w1 _ a k L ev o hw.get (by omega) hf hot; rwa [hn] at this) ?_
 rintro ⟨p1,q1⟩
 dsimp only
 repeat (first|refine Wa ?_|refine Wb ?_|refine Wc ?_|refine Wd ?_|refine We rfl ?_|refine Wf (by first|exact Va|exact Vb|exact Vc|exact Vd|exact Ve|exact Vf|exact Vg|exact Vh|exact Vi|exact Vj|exact Vk (by omega)|exact Vl|exact Vm|exact Vn|exact Vo|exact Vp|exact Vq|exact Vr|exact Vs (by omega)|exact Vt (by omega)|exact Vu (by omega)|exact Vv (by omega)|exact Vw|exact Vx|exact Vy|exact Vz|exact VA|exact VB|exact VC|exact VD|exact VE|exact VF) rfl ?_|(refine Wg rfl ?_; intro _)|(refine Wh rfl ?_; intro _)|refine Wi ?_|refine Wj ?_|refine Wk ?_|refine Wl ?_|refine Wm ?_|refine Wn ?_|refine Wo ?_|refine Wp ?_|refine Wq rfl ?_|refine Wr ?_|refine Ws ?_|refine Wt ?_|refine Wu ?_|refine Wv rfl rfl ?_|(refine Ww rfl ⟨rfl,by decide,by decide,by decide⟩ ?_; intro _))
 rename_i b9
 cases bn with
 | false =>
  repeat (first|refine Wa ?_|refine Wb ?_|refine Wc ?_|refine Wd ?_|refine We rfl ?_|refine Wf (by first|exact Va|exact Vb|exact Vc|exact Vd|exact Ve|exact Vf|exact Vg|exact Vh|exact Vi|exact Vj|exact Vk (by omega)|exact Vl|exact Vm|exact Vn|exact Vo|exact Vp|exact Vq|exact Vr|exact Vs (by omega)|exact Vt (by omega)|exact Vu (by omega)|exact Vv (by omega)|exact Vw|exact Vx|exact Vy|exact Vz|exact VA|exact VB|exact VC|exact VD|exact VE|exact VF) rfl ?_|(refine Wg rfl ?_; intro _)|(refine Wh rfl ?_; intro _)|refine Wi ?_|refine Wj ?_|refine Wk ?_|refine Wl ?_|refine Wm ?_|refine Wn ?_|refine Wo ?_|refine Wp ?_|refine Wq rfl ?_|refine Wr ?_|refine Ws ?_|refine Wt ?_|refine Wu ?_|refine Wv rfl rfl ?_|(refine Ww rfl ⟨rfl,by decide,by decide,by decide⟩ ?_; intro _)|refine Wx rfl rfl ?_)
  exact Xab () rfl
 | true =>
 obtain ⟨e1,hc,hm,hc2⟩:=Xq2 hn
 have hfc:fine cn:=by
  rw [e1]
  exact ⟨hot,by have:=Xhk hc; show (frontF L).length≤_; omega⟩
 have hf2:∀ x∈L++[cn],fine x:=fun x hx=>by
  rcases List.mem_append.1 hx with hx | hx
  ·exact hf x hx
  ·rw [List.mem_singleton] at hx; subst hx; exact hfc
 have hev1:=fun (w:World) (F:Nat→Prop) (h:(sl a k L).holds F w)=>Xhp w F a k L h (by omega) hf
 rw [Xf4 (Xan hc)] at hev1
 have hev2:=fun (w:World) (F:Nat→Prop) (r:Option Addr) (s:Nat) (h:(sl r s (L++[cn])).holds F w)=>Xhp w F r s (L++[cn]) h (by simp; omega) hf2
 rw [Xf4 (Xan hc2)] at hev2
 obtain ⟨hN,hdo⟩:=Xt0 hn
 have hheld:=Xpj hc
 have hE:EvL L:=⟨hc,by omega,hf⟩
 have hlen:=hE.lens hheld
 have hfs:fineS (evalS L):=hheld.fine hE.fk hE.fr hE.fp
 have hdo2:=fun (w:World) (F:Nat→Prop) (pc pr pp:Option Addr) (kc kr kp:Nat) (h1:(sl pc kc (evalS L).c).holds F w) (h2:(sl pr kr (evalS L).r).holds F w) (h3:(sl pp kp (evalS L).p).holds F w)=>Xjo w F (evalS L) o ev cn.gen pc pr pp kc kr kp h1 h2 h3 hfs hot hlen.1 (by have:=hlen.2.1; omega) (by have:=hlen.2.2; omega)
 have hD:stDo (evalS L) o ev cn.gen=(evalS (L++[cn]),0):=by
  rw [hN]
  unfold stDo
  rw [if_pos hdo]
 rw [hD] at hdo2
 dsimp only at hev1 hev2 hdo2
 clear hN hdo hheld hlen hfs hD hE
 generalize evalS L=ss at hev1 hdo2
 generalize evalS (L++[cn])=tt at hev2 hdo2
 repeat (first|refine Wa ?_|refine Wb ?_|refine Wc ?_|refine Wd ?_|refine We rfl ?_|refine Wf (by first|exact Va|exact Vb|exact Vc|exact Vd|exact Ve|exact Vf|exact Vg|exact Vh|exact Vi|exact Vj|exact Vk (by omega)|exact Vl|exact Vm|exact Vn|exact Vo|exact Vp|exact Vq|exact Vr|exact Vs (by omega)|exact Vt (by omega)|exact Vu (by omega)|exact Vv (by omega)|exact Vw|exact Vx|exact Vy|exact Vz|exact VA|exact VB|exact VC|exact VD|exact VE|exact VF) rfl ?_|(refine Wg rfl ?_; intro _)|(refine Wh rfl ?_; intro _)|refine Wi ?_|refine Wj ?_|refine Wk ?_|refine Wl ?_|refine Wm ?_|refine Wn ?_|refine Wo ?_|refine Wp ?_|refine Wq rfl ?_|refine Wr ?_|refine Ws ?_|refine Wt ?_|refine Wu ?_|refine Wv rfl rfl ?_|(refine Ww rfl ⟨rfl,by decide,by decide,by decide⟩ ?_; intro _))
 refine JR.call (v:=fun y:Sa=>.tuple ⟨[.agg ⟨stC ss y⟩, .int .i64 0]⟩) (B:=fun y=>stF ss y) rfl (fun w1 hw=>hev1 w1 _ hw.get) ?_
 rintro ⟨⟨ac,kc⟩,⟨ar,kr⟩,⟨ap,kp⟩⟩
 dsimp only [stC,stF,List.cons_append,List.nil_append]
 repeat (first|refine Wa ?_|refine Wb ?_|refine Wc ?_|refine Wd ?_|refine We rfl ?_|refine Wf (by first|exact Va|exact Vb|exact Vc|exact Vd|exact Ve|exact Vf|exact Vg|exact Vh|exact Vi|exact Vj|exact Vk (by omega)|exact Vl|exact Vm|exact Vn|exact Vo|exact Vp|exact Vq|exact Vr|exact Vs (by omega)|exact Vt (by omega)|exact Vu (by omega)|exact Vv (by omega)|exact Vw|exact Vx|exact Vy|exact Vz|exact VA|exact VB|exact VC|exact VD|exact VE|exact VF) rfl ?_|(refine Wg rfl ?_; intro _)|(refine Wh rfl ?_; intro _)|refine Wi ?_|refine Wj ?_|refine Wk ?_|refine Wl ?_|refine Wm ?_|refine Wn ?_|refine Wo ?_|refine Wp ?_|refine Wq rfl ?_|refine Wr ?_|refine Ws ?_|refine Wt ?_|refine Wu ?_|refine Wv rfl rfl ?_|(refine Ww rfl ⟨rfl,by decide,by decide,by decide⟩ ?_; intro _))
 rename_i b11
 refine Xfi (fun y:Nat × (Option Addr × Nat) × (Option Addr × Nat) × (Option Addr × Nat)=>[(4, .pointer (some ⟨b4,0,none⟩)),(5, .pointer (some ⟨b5,0,none⟩)),(9, .pointer (some ⟨b9,0,none⟩)),(11, .pointer (some ⟨b11,0,none⟩)),(12, .int .i64 0),(13, .pointer (some ⟨y.1,0,none⟩)),(14, .int .i64 0)])
  (fun y=>[.own y.1 38 [.slice y.2.1.1 tt.c.length y.2.1.2, .slice y.2.2.1.1 tt.r.length y.2.2.1.2, .slice y.2.2.2.1 tt.p.length y.2.2.2.2], .st (sl y.2.1.1 y.2.1.2 tt.c), .st (sl y.2.2.1.1 y.2.2.1.2 tt.r), .st (sl y.2.2.2.1 y.2.2.2.2 tt.p), .own b11 38 [.slice ac ss.c.length kc, .slice ar ss.r.length kr, .slice ap ss.p.length kp], .st (sl ac kc ss.c), .st (sl ar kr ss.r), .st (sl ap kp ss.p), .own b9 31 [.int .i64 cn.ev.node, .int .i64 cn.ev.seq, .int .i64 cn.gen, .slice p1 cn.parents.length q1, .int .i64 cn.op.kind, .string cn.op.key, .string cn.op.elem, .int .i64 cn.op.n], .own b4 24 [.int .i64 ev.node, .int .i64 ev.seq], .own b5 26 [.int .i64 o.kind, .string o.key, .string o.elem, .int .i64 o.n]]) ?_ ?_
 ·refine JC.drawP mixed ?_
  refine Xad 0 ?_
  refine JP.tv 2 [.own b9 31 [.int .i64 cn.ev.node, .int .i64 cn.ev.seq, .int .i64 cn.gen, .slice p1 cn.parents.length q1, .int .i64 cn.op.kind, .string cn.op.key, .string cn.op.elem, .int .i64 cn.op.n]] ?_
  refine JP.three 1 3 9 (by kernel_rfl) rfl rfl rfl rfl rfl rfl (JR.appendNil (L':=L) rfl (by exact ⟨rfl,rfl,by decide⟩) (by omega) (fun a2 k2=>Wd (nO ?_))) (Ww rfl ⟨rfl,by decide,by decide,by decide⟩ (fun lb=>Wd (nO ?_))) (Wg rfl (fun bM=>Wd (nO ?_)))
  ·refine JP.both 3 9 (by kernel_rfl) rfl rfl rfl rfl (Ww rfl ⟨rfl,by decide,by decide,by decide⟩ (fun lb=>Wd (nO ?_))) (Wg rfl (fun bM=>Wd (nO ?_)))
   ·refine JP.both 4 9 (by kernel_rfl) rfl rfl rfl rfl (Xap (L:=L) (u:=cn) rfl (by exact ⟨rfl,rfl,by decide⟩) (by omega) (fun r s=>Wd (nO ?_))) (Wg rfl (fun bM=>Wd (nO ?_)))
    ·refine JP.more (fun w1 ho=>ho.pubAt (α:=Commit) (L:=L++[cn]) r s) ?_
     refine JP.both 5 9 (by kernel_rfl) rfl rfl rfl rfl (JR.call (v:=fun y:Sa=>.tuple ⟨[.agg ⟨stC tt y⟩, .int .i64 0]⟩) (B:=fun y=>stF tt y) rfl (fun w1 hw=>hev2 w1 _ r s hw.get) (fun y=>?_)) (Wg rfl (fun bM=>Wd (nO ?_)))
     ·obtain ⟨⟨tc,jc⟩,⟨tr,jr⟩,⟨tp,jp⟩⟩:=y
      dsimp only [stC,stF,List.cons_append,List.nil_append]
      refine Wd (nO ?_)
      refine Xad 6 ?_
      refine Xad 7 ?_
      refine Xad 8 ?_
      refine Xal 9 rfl rfl (Wg rfl (fun bM=>Wd (nO ?_)))
      refine JP.reslot 13 (.pointer (some ⟨bM,0,none⟩)) rfl ?_
      refine Xal 10 rfl rfl (Wi (Wd (nO ?_)))
      refine Xad 11 ?_
      refine JP.nil (by kernel_rfl) ?_
      exact ⟨rfl,(bM,(tc,jc),(tr,jr),(tp,jp)),iI⟩
     ·refine Xal 5 rfl rfl (JR.call (v:=fun y:Sa=>.tuple ⟨[.agg ⟨stC tt y⟩, .int .i64 0]⟩) (B:=fun y=>stF tt y) rfl (fun w1 hw=>hev2 w1 _ r s hw.get) (fun y=>?_))
      obtain ⟨⟨tc,jc⟩,⟨tr,jr⟩,⟨tp,jp⟩⟩:=y
      dsimp only [stC,stF,List.cons_append,List.nil_append]
      refine Wd (nO ?_)
      refine Xad 6 ?_
      refine Xad 7 ?_
      refine Xad 8 ?_
      refine JP.reslot 13 (.pointer (some ⟨bM,0,none⟩)) rfl ?_
      refine Xal 10 rfl rfl (Wi (Wd (nO ?_)))
      refine Xad 11 ?_
      refine JP.nil (by kernel_rfl) ?_
      exact ⟨rfl,(bM,(tc,jc),(tr,jr),(tp,jp)),iI⟩
    ·refine Xal 4 rfl rfl (Xap (L:=L) (u:=cn) rfl (by exact ⟨rfl,rfl,by decide⟩) (by omega) (fun r s=>Wd (nO ?_)))
     refine JP.more (fun w1 ho=>ho.pubAt (α:=Commit) (L:=L++[cn]) r s) ?_
     refine Xal 5 rfl rfl (JR.call (v:=fun y:Sa=>.tuple ⟨[.agg ⟨stC tt y⟩, .int .i64 0]⟩) (B:=fun y=>stF tt y) rfl (fun w1 hw=>hev2 w1 _ r s hw.get) (fun y=>?_))
     obtain ⟨⟨tc,jc⟩,⟨tr,jr⟩,⟨tp,jp⟩⟩:=y
     dsimp only [stC,stF,List.cons_append,List.nil_append]
     refine Wd (nO ?_)
     refine Xad 6 ?_
     refine Xad 7 ?_
     refine Xad 8 ?_
     refine JP.reslot 13 (.pointer (some ⟨bM,0,none⟩)) rfl ?_
     refine Xal 10 rfl rfl (Wi (Wd (nO ?_)))
     refine Xad 11 ?_
     refine JP.nil (by kernel_rfl) ?_
     exact ⟨rfl,(bM,(tc,jc),(tr,jr),(tp,jp)),iI⟩
   ·refine Xal 3 rfl rfl (Ww rfl ⟨rfl,by decide,by decide,by decide⟩ (fun lb=>Wd (nO ?_)))
    refine Xal 4 rfl rfl (Xap (L:=L) (u:=cn) rfl (by exact ⟨rfl,rfl,by decide⟩) (by omega) (fun r s=>Wd (nO ?_)))
    refine JP.more (fun w1 ho=>ho.pubAt (α:=Commit) (L:=L++[cn]) r s) ?_
    refine Xal 5 rfl rfl (JR.call (v:=fun y:Sa=>.tuple ⟨[.agg ⟨stC tt y⟩, .int .i64 0]⟩) (B:=fun y=>stF tt y) rfl (fun w1 hw=>hev2 w1 _ r s hw.get) (fun y=>?_))
    obtain ⟨⟨tc,jc⟩,⟨tr,jr⟩,⟨tp,jp⟩⟩:=y
    dsimp only [stC,stF,List.cons_append,List.nil_append]
    refine Wd (nO ?_)
    refine Xad 6 ?_
    refine Xad 7 ?_
    refine Xad 8 ?_
    refine JP.reslot 13 (.pointer (some ⟨bM,0,none⟩)) rfl ?_
    refine Xal 10 rfl rfl (Wi (Wd (nO ?_)))
    refine Xad 11 ?_
    refine JP.nil (by kernel_rfl) ?_
    exact ⟨rfl,(bM,(tc,jc),(tr,jr),(tp,jp)),iI⟩
  ·refine JP.both 1 9 (by kernel_rfl) rfl rfl rfl rfl (JR.appendNil (L':=L) rfl (by exact ⟨rfl,rfl,by decide⟩) (by omega) (fun a2 k2=>Wd (nO ?_))) (Wg rfl (fun bM=>Wd (nO ?_)))
   ·refine JP.both 4 9 (by kernel_rfl) rfl rfl rfl rfl (Xap (L:=L) (u:=cn) rfl (by exact ⟨rfl,rfl,by decide⟩) (by omega) (fun r s=>Wd (nO ?_))) (Wg rfl (fun bM=>Wd (nO ?_)))
    ·refine JP.more (fun w1 ho=>ho.pubAt (α:=Commit) (L:=L++[cn]) r s) ?_
     refine JP.both 5 9 (by kernel_rfl) rfl rfl rfl rfl (JR.call (v:=fun y:Sa=>.tuple ⟨[.agg ⟨stC tt y⟩, .int .i64 0]⟩) (B:=fun y=>stF tt y) rfl (fun w1 hw=>hev2 w1 _ r s hw.get) (fun y=>?_)) (Wg rfl (fun bM=>Wd (nO ?_)))
     ·obtain ⟨⟨tc,jc⟩,⟨tr,jr⟩,⟨tp,jp⟩⟩:=y
      dsimp only [stC,stF,List.cons_append,List.nil_append]
      refine Wd (nO ?_)
      refine Xad 6 ?_
      refine Xad 7 ?_
      refine Xad 8 ?_
      refine Xal 9 rfl rfl (Wg rfl (fun bM=>Wd (nO ?_)))
      refine JP.reslot 13 (.pointer (some ⟨bM,0,none⟩)) rfl ?_
      refine Xal 10 rfl rfl (Wi (Wd (nO ?_)))
      refine Xad 11 ?_
      refine JP.nil (by kernel_rfl) ?_
      exact ⟨rfl,(bM,(tc,jc),(tr,jr),(tp,jp)),iI⟩
     ·refine Xal 5 rfl rfl (JR.call (v:=fun y:Sa=>.tuple ⟨[.agg ⟨stC tt y⟩, .int .i64 0]⟩) (B:=fun y=>stF tt y) rfl (fun w1 hw=>hev2 w1 _ r s hw.get) (fun y=>?_))
      obtain ⟨⟨tc,jc⟩,⟨tr,jr⟩,⟨tp,jp⟩⟩:=y
      dsimp only [stC,stF,List.cons_append,List.nil_append]
      refine Wd (nO ?_)
      refine Xad 6 ?_
      refine Xad 7 ?_
      refine Xad 8 ?_
      refine JP.reslot 13 (.pointer (some ⟨bM,0,none⟩)) rfl ?_
      refine Xal 10 rfl rfl (Wi (Wd (nO ?_)))
      refine Xad 11 ?_
      refine JP.nil (by kernel_rfl) ?_
      exact ⟨rfl,(bM,(tc,jc),(tr,jr),(tp,jp)),iI⟩
    ·refine Xal 4 rfl rfl (Xap (L:=L) (u:=cn) rfl (by exact ⟨rfl,rfl,by decide⟩) (by omega) (fun r s=>Wd (nO ?_)))
     refine JP.more (fun w1 ho=>ho.pubAt (α:=Commit) (L:=L++[cn]) r s) ?_
     refine Xal 5 rfl rfl (JR.call (v:=fun y:Sa=>.tuple ⟨[.agg ⟨stC tt y⟩, .int .i64 0]⟩) (B:=fun y=>stF tt y) rfl (fun w1 hw=>hev2 w1 _ r s hw.get) (fun y=>?_))
     obtain ⟨⟨tc,jc⟩,⟨tr,jr⟩,⟨tp,jp⟩⟩:=y
     dsimp only [stC,stF,List.cons_append,List.nil_append]
     refine Wd (nO ?_)
     refine Xad 6 ?_
     refine Xad 7 ?_
     refine Xad 8 ?_
     refine JP.reslot 13 (.pointer (some ⟨bM,0,none⟩)) rfl ?_
     refine Xal 10 rfl rfl (Wi (Wd (nO ?_)))
     refine Xad 11 ?_
     refine JP.nil (by kernel_rfl) ?_
     exact ⟨rfl,(bM,(tc,jc),(tr,jr),(tp,jp)),iI⟩
   ·refine Xal 1 rfl rfl (JR.appendNil (L':=L) rfl (by exact ⟨rfl,rfl,by decide⟩) (by omega) (fun a2 k2=>Wd (nO ?_)))
    refine Xal 4 rfl rfl (Xap (L:=L) (u:=cn) rfl (by exact ⟨rfl,rfl,by decide⟩) (by omega) (fun r s=>Wd (nO ?_)))
    refine JP.more (fun w1 ho=>ho.pubAt (α:=Commit) (L:=L++[cn]) r s) ?_
    refine Xal 5 rfl rfl (JR.call (v:=fun y:Sa=>.tuple ⟨[.agg ⟨stC tt y⟩, .int .i64 0]⟩) (B:=fun y=>stF tt y) rfl (fun w1 hw=>hev2 w1 _ r s hw.get) (fun y=>?_))
    obtain ⟨⟨tc,jc⟩,⟨tr,jr⟩,⟨tp,jp⟩⟩:=y
    dsimp only [stC,stF,List.cons_append,List.nil_append]
    refine Wd (nO ?_)
    refine Xad 6 ?_
    refine Xad 7 ?_
    refine Xad 8 ?_
    refine JP.reslot 13 (.pointer (some ⟨bM,0,none⟩)) rfl ?_
    refine Xal 10 rfl rfl (Wi (Wd (nO ?_)))
    refine Xad 11 ?_
    refine JP.nil (by kernel_rfl) ?_
    exact ⟨rfl,(bM,(tc,jc),(tr,jr),(tp,jp)),iI⟩
  ·refine JP.both 1 3 (by kernel_rfl) rfl rfl rfl rfl (JR.appendNil (L':=L) rfl (by exact ⟨rfl,rfl,by decide⟩) (by omega) (fun a2 k2=>Wd (nO ?_))) (Ww rfl ⟨rfl,by decide,by decide,by decide⟩ (fun lb=>Wd (nO ?_)))
   ·refine Xal 3 rfl rfl (Ww rfl ⟨rfl,by decide,by decide,by decide⟩ (fun lb=>Wd (nO ?_)))
    refine Xal 4 rfl rfl (Xap (L:=L) (u:=cn) rfl (by exact ⟨rfl,rfl,by decide⟩) (by omega) (fun r s=>Wd (nO ?_)))
    refine JP.more (fun w1 ho=>ho.pubAt (α:=Commit) (L:=L++[cn]) r s) ?_
    refine Xal 5 rfl rfl (JR.call (v:=fun y:Sa=>.tuple ⟨[.agg ⟨stC tt y⟩, .int .i64 0]⟩) (B:=fun y=>stF tt y) rfl (fun w1 hw=>hev2 w1 _ r s hw.get) (fun y=>?_))
    obtain ⟨⟨tc,jc⟩,⟨tr,jr⟩,⟨tp,jp⟩⟩:=y
    dsimp only [stC,stF,List.cons_append,List.nil_append]
    refine Wd (nO ?_)
    refine Xad 6 ?_
    refine Xad 7 ?_
    refine Xad 8 ?_
    refine JP.reslot 13 (.pointer (some ⟨bM,0,none⟩)) rfl ?_
    refine Xal 10 rfl rfl (Wi (Wd (nO ?_)))
    refine Xad 11 ?_
    refine JP.nil (by kernel_rfl) ?_
    exact ⟨rfl,(bM,(tc,jc),(tr,jr),(tp,jp)),iI⟩
   ·refine Xal 1 rfl rfl (JR.appendNil (L':=L) rfl (by exact ⟨rfl,rfl,by decide⟩) (by omega) (fun a2 k2=>Wd (nO ?_)))
    refine Xal 4 rfl rfl (Xap (L:=L) (u:=cn) rfl (by exact ⟨rfl,rfl,by decide⟩) (by omega) (fun r s=>Wd (nO ?_)))
    refine JP.more (fun w1 ho=>ho.pubAt (α:=Commit) (L:=L++[cn]) r s) ?_
    refine Xal 5 rfl rfl (JR.call (v:=fun y:Sa=>.tuple ⟨[.agg ⟨stC tt y⟩, .int .i64 0]⟩) (B:=fun y=>stF tt y) rfl (fun w1 hw=>hev2 w1 _ r s hw.get) (fun y=>?_))
    obtain ⟨⟨tc,jc⟩,⟨tr,jr⟩,⟨tp,jp⟩⟩:=y
    dsimp only [stC,stF,List.cons_append,List.nil_append]
    refine Wd (nO ?_)
    refine Xad 6 ?_
    refine Xad 7 ?_
    refine Xad 8 ?_
    refine JP.reslot 13 (.pointer (some ⟨bM,0,none⟩)) rfl ?_
    refine Xal 10 rfl rfl (Wi (Wd (nO ?_)))
    refine Xad 11 ?_
    refine JP.nil (by kernel_rfl) ?_
    exact ⟨rfl,(bM,(tc,jc),(tr,jr),(tp,jp)),iI⟩
 rintro ⟨b13,⟨tc,jc⟩,⟨tr,jr⟩,⟨tp,jp⟩⟩
 dsimp only
 repeat (first|refine Wa ?_|refine Wb ?_|refine Wc ?_|refine Wd ?_|refine We rfl ?_|refine Wf (by first|exact Va|exact Vb|exact Vc|exact Vd|exact Ve|exact Vf|exact Vg|exact Vh|exact Vi|exact Vj|exact Vk (by omega)|exact Vl|exact Vm|exact Vn|exact Vo|exact Vp|exact Vq|exact Vr|exact Vs (by omega)|exact Vt (by omega)|exact Vu (by omega)|exact Vv (by omega)|exact Vw|exact Vx|exact Vy|exact Vz|exact VA|exact VB|exact VC|exact VD|exact VE|exact VF) rfl ?_|(refine Wg rfl ?_; intro _)|(refine Wh rfl ?_; intro _)|refine Wi ?_|refine Wj ?_|refine Wk ?_|refine Wl ?_|refine Wm ?_|refine Wn ?_|refine Wo ?_|refine Wp ?_|refine Wq rfl ?_|refine Wr ?_|refine Ws ?_|refine Wt ?_|refine Wu ?_|refine Wv rfl rfl ?_|(refine Ww rfl ⟨rfl,by decide,by decide,by decide⟩ ?_; intro _))
 refine JR.call (v:=fun y:Sa=>.tuple ⟨[.agg ⟨stC tt y⟩, .int .i64 0]⟩) (B:=fun y=>stF tt y) rfl (fun w1 hw=>hdo2 w1 _ ac ar ap kc kr kp hw.get hw.get hw.get) ?_
 rintro ⟨⟨uc,ic⟩,⟨ur,ir⟩,⟨up,ip⟩⟩
 dsimp only [stC,stF,List.cons_append,List.nil_append]
 repeat (first|refine Wa ?_|refine Wb ?_|refine Wc ?_|refine Wd ?_|refine We rfl ?_|refine Wf (by first|exact Va|exact Vb|exact Vc|exact Vd|exact Ve|exact Vf|exact Vg|exact Vh|exact Vi|exact Vj|exact Vk (by omega)|exact Vl|exact Vm|exact Vn|exact Vo|exact Vp|exact Vq|exact Vr|exact Vs (by omega)|exact Vt (by omega)|exact Vu (by omega)|exact Vv (by omega)|exact Vw|exact Vx|exact Vy|exact Vz|exact VA|exact VB|exact VC|exact VD|exact VE|exact VF) rfl ?_|(refine Wg rfl ?_; intro _)|(refine Wh rfl ?_; intro _)|refine Wi ?_|refine Wj ?_|refine Wk ?_|refine Wl ?_|refine Wm ?_|refine Wn ?_|refine Wo ?_|refine Wp ?_|refine Wq rfl ?_|refine Wr ?_|refine Ws ?_|refine Wt ?_|refine Wu ?_|refine Wv rfl rfl ?_|(refine Ww rfl ⟨rfl,by decide,by decide,by decide⟩ ?_; intro _)|refine Wx rfl rfl ?_)
 refine JR.callV rfl (fun w1 hw=>Xue w1 _ tt tt tc tr tp uc ur up jc jr jp ic ir ip hw.get hw.get hw.get hw.get hw.get hw.get) ?_
 repeat (first|refine Wa ?_|refine Wb ?_|refine Wc ?_|refine Wd ?_|refine We rfl ?_|refine Wf (by first|exact Va|exact Vb|exact Vc|exact Vd|exact Ve|exact Vf|exact Vg|exact Vh|exact Vi|exact Vj|exact Vk (by omega)|exact Vl|exact Vm|exact Vn|exact Vo|exact Vp|exact Vq|exact Vr|exact Vs (by omega)|exact Vt (by omega)|exact Vu (by omega)|exact Vv (by omega)|exact Vw|exact Vx|exact Vy|exact Vz|exact VA|exact VB|exact VC|exact VD|exact VE|exact VF) rfl ?_|(refine Wg rfl ?_; intro _)|(refine Wh rfl ?_; intro _)|refine Wi ?_|refine Wj ?_|refine Wk ?_|refine Wl ?_|refine Wm ?_|refine Wn ?_|refine Wo ?_|refine Wp ?_|refine Wq rfl ?_|refine Wr ?_|refine Ws ?_|refine Wt ?_|refine Wu ?_|refine Wv rfl rfl ?_|(refine Ww rfl ⟨rfl,by decide,by decide,by decide⟩ ?_; intro _)|refine Wx rfl rfl ?_)
 refine Xab () ?_
 simp [Xaf]
end
end
structure OpenT (P:Program) (α:Type) [Cell α] (t:TypeId):Prop where
 ok:∀ {H:Type} {enc:TypeId × Value→H} {w:World} {sp:Nat→Bool} {held:Bool} {fuel:Nat} {cs:List Value} {x:DataW H × List MemPlace},
  DataW.trod enc P w 0 sp held fuel t cs=some x→(∀ n∈x.1.weights P t,n≤reachBytes)→∃ (u:α) (y:Cell.Ix α),cs=Cell.cells u y∧∀ A∈Cell.facts u y,A.holds (fun _=>True) w
theorem Xgm {H:Type} {P:Program} {e:TypeId} {d:DataW H} {n:Nat} (hn:n∈d.weights P e):∀ {ds:List (DataW H)},d∈ds→n∈DataW.weightsAll P e ds
 | [],h=>by cases h
 | d'::ds,h=>by
  simp only [DataW.weightsAll,List.mem_append]
  rcases List.mem_cons.1 h with rfl | h
  ·exact .inl hn
  ·exact .inr (Xgm hn h)
theorem Xn0 (a:Addr):(a.add 0).add 0=a:=by simp [Addr.add]
theorem Xxz {w:World} {a:Addr} {n:Nat} {ci:List Value} (h:w.cells? 0 a n=some ci) (j:Nat) (v:Value) (hv:ci[j]? = some v):w.cell? (a.add j)=some v:=by
 unfold World.cells? at h
 rw [if_pos (Nat.zero_le _)] at h
 have hl:=mapM_some_length h
 have hj:j < n:=by
  have:=(List.getElem?_eq_some_iff.1 hv).1
  rw [hl,List.length_range] at this
  exact this
 have:=mapM_some_get h j j (by simp [hj])
 rw [this,hv]
theorem OpenT.slice {P:Program} {α:Type} [Cell α] {t e:TypeId} (hO:OpenT P α e) (ht:P.underlying t=some (.slice e)) (hc:P.cellsOf e=Cell.sz α) (hb:1≤P.bytesOf e)
  {H:Type} {enc:TypeId × Value→H} {w:World} {sp:Nat→Bool} {held:Bool} {fuel:Nat} {cs:List Value} {x:DataW H × List MemPlace}
  (h:DataW.trod enc P w 0 sp held fuel t cs=some x) (hw:∀ n∈x.1.weights P t,n≤reachBytes) :
  ∃ (a:Option Addr) (c:Nat) (L:List α),cs=[.slice a L.length c]∧(sl a c L).holds (fun _=>True) w:=by
 rcases DataW.trod_slice ht h with ⟨rfl,rfl⟩ | ⟨a,len,cap,elems,rest,n,_,rfl,rfl,_,hlc,hcm,hlen,helems,_,_⟩
 ·exact ⟨none,0,[],rfl,Xau⟩
 ·simp only [DataW.weights,ht] at hw
  have hw1:len≤reachBytes:=by
   have:=hw _ (List.mem_cons_self ..)
   simp only [List.length_map] at this
   have h2:(elems.length+rest.length) * 1≤(elems.length+rest.length) * P.bytesOf e:=Nat.mul_le_mul_left _ hb
   omega
  have key:∀ i (hi:i < len),∃ (u:α),∃ (y:Cell.Ix α),(∀ j v,(Cell.cells u y)[j]? = some v→w.cell? ((a.add (i * Cell.sz α)).add j)=some v)∧∀ A∈Cell.facts u y,A.holds (fun _=>True) w:=by
   intro i hi
   have h1:=helems i hi
   have hi':i < elems.length:=by omega
   rw [List.getElem?_eq_getElem hi',hc] at h1
   obtain ⟨ci,hci,hd⟩:=Option.bind_eq_some_iff.1 h1
   obtain ⟨u,y,rfl,hf⟩:=hO.ok hd (fun n hn=>hw n (List.mem_cons_of_mem _ (List.mem_append_left _ (Xgm hn (List.mem_map_of_mem (List.getElem_mem hi'))))))
   exact ⟨u,y,fun j v hv=>Xxz hci j v hv,hf⟩
  obtain ⟨f,hf⟩:=Classical.axiomOfChoice (fun i:Fin len=>key i.1 i.2)
  refine ⟨some a,cap,List.ofFn f,by simp,?_⟩
  have hR:reachBytes=140737488351232:=rfl
  refine ⟨by simpa using hlc,hcm,by simp only [List.length_ofFn,lim]; omega,fun hne=>?_⟩
  have h0:0 < len:=by
   have:=List.length_pos_iff.2 hne
   simpa using this
  obtain ⟨y0,hy0,_⟩:=hf ⟨0,h0⟩
  have hpos:0 < (Cell.cells (f ⟨0,h0⟩) y0).length:=by rw [Cell.len]; exact Cell.pos
  have hc0:=hy0 0 _ (List.getElem?_eq_getElem hpos)
  simp only [Nat.zero_mul,Xn0] at hc0
  obtain ⟨b,off,spot⟩:=a
  have hspot:spot=none:=by
   cases spot with
   | none=>rfl
   | some s =>
    unfold World.cell? at hc0
    split at hc0
    ·simp at hc0
    ·cases hc0
  subst hspot
  refine ⟨b,off,rfl,trivial,?_,fun i hi=>?_⟩
  ·rcases Nat.lt_or_ge b w.heap.size with h | h
   ·exact h
   ·unfold World.cell? at hc0
    simp [Array.getElem?_eq_none h] at hc0
  ·have hi':i < len:=by simpa using hi
   obtain ⟨y,hy,hfa⟩:=hf ⟨i,hi'⟩
   refine ⟨y,fun j v hv=>?_,fun A hA=>?_⟩
   ·simp only [List.getElem_ofFn] at hv
    have:=hy j v hv
    rw [Addr.add_mid,Addr.add_mid] at this
    exact this
   ·simp only [List.getElem_ofFn] at hA
    exact hfa A hA
def Xn1:Value→UInt8
 | .int _ n=>UInt8.ofNat n.toNat
 | _=>0
set_option maxRecDepth 100000 in
theorem open_id:OpenT prog ID 72:=⟨fun {H enc w sp held fuel cs x} h _=>by
 have hcell:prog.cellsOf 5=1:=by kernel_rfl
 have hcell2:prog.cellsOf 72=32:=by kernel_rfl
 obtain ⟨xs,m,rfl,rfl,hl,hlx,hx⟩:=DataW.trod_array underlying72 h
 rw [hcell2] at hl
 have key:∀ i (hi:i < cs.length),cs[i]=Xaq (Xn1 cs[i]):=by
  intro i hi
  have h1:=hx i (by omega)
  rw [hcell,Nat.mul_one,List.getElem?_eq_getElem (by omega)] at h1
  have h2:(cs.drop i).take 1=[cs[i]]:=by
   rw [List.drop_eq_getElem_cons hi]; rfl
  rw [h2] at h1
  obtain ⟨n,hn,_,hw⟩:=DataW.trod_int underlying5 h1
  injection hn with hn
  have hb:0≤n∧n≤255:=by simpa [Lit.wf,IntKind.min,IntKind.max,IntKind.signed,IntKind.bits] using hw
  rw [hn]
  simp only [Xn1,Xaq,Value.int.injEq,true_and]
  rw [UInt8.toNat_ofNat']
  omega
 refine ⟨⟨cs.map Xn1,by rw [List.length_map]; exact hl⟩,(),?_,by simp [Cell.facts]⟩
 show cs=(cs.map Xn1).map Xaq
 apply List.ext_getElem
 ·simp
 ·intro i h1 h2
  simp only [List.getElem_map]
  exact key i h1⟩
set_option maxRecDepth 100000 in
theorem open_commit:OpenT prog Commit 31:=⟨fun {H enc w sp held fuel cs x} h hw=>by
 have c24:prog.cellsOf 24=2:=by kernel_rfl
 have c27:prog.cellsOf 26=4:=by kernel_rfl
 have c29:prog.cellsOf 31=8:=by kernel_rfl
 have c25:prog.cellsOf 29=1:=by kernel_rfl
 have c3:prog.cellsOf 3=1:=by kernel_rfl
 have c9:prog.cellsOf 9=1:=by kernel_rfl
 obtain ⟨xs,m,rfl,rfl,hl,hlx,hx⟩:=DataW.trod_struct underlying31 h
 rw [c29] at hl
 match cs,hl with
 | [v0,v1,v2,v3,v4,v5,v6,v7],_ =>
 match xs,hlx with
 | [x0,x1,x2,x3],_ =>
 have h0:=hx 0 _ rfl
 have h1:=hx 1 _ rfl
 have h2:=hx 2 _ rfl
 have h3:=hx 3 _ rfl
 simp only [List.getElem_toArray,List.getElem_cons_zero,List.getElem_cons_succ,c24,c3,c25,c27,List.drop_zero,List.drop_succ_cons,List.take_succ_cons,List.take_zero,List.getElem?_cons_zero,List.getElem?_cons_succ] at h0 h1 h2 h3
 obtain ⟨ys,m',rfl,rfl,_,hly,hy⟩:=DataW.trod_struct underlying24 h0
 match ys,hly with
 | [y0,y1],_ =>
 have e0:=hy 0 _ rfl
 have e1:=hy 1 _ rfl
 simp only [List.getElem_toArray,List.getElem_cons_zero,List.getElem_cons_succ,c3,List.drop_zero,List.drop_succ_cons,List.take_succ_cons,List.take_zero,List.getElem?_cons_zero,List.getElem?_cons_succ] at e0 e1
 obtain ⟨n0,q0,_,_⟩:=DataW.trod_int underlying3 e0
 obtain ⟨n1,q1,_,_⟩:=DataW.trod_int underlying3 e1
 obtain ⟨n2,q2,_,_⟩:=DataW.trod_int underlying3 h1
 obtain ⟨zs,m2,hm2,rfl,_,hlz,hz⟩:=DataW.trod_struct underlying26 h3
 match zs,hlz with
 | [z0,z1,z2,z3],_ =>
 have g0:=hz 0 _ rfl
 have g1:=hz 1 _ rfl
 have g2:=hz 2 _ rfl
 have g3:=hz 3 _ rfl
 simp only [List.getElem_toArray,List.getElem_cons_zero,List.getElem_cons_succ,c3,c9,List.drop_zero,List.drop_succ_cons,List.take_succ_cons,List.take_zero,List.getElem?_cons_zero,List.getElem?_cons_succ] at g0 g1 g2 g3
 obtain ⟨k0,r0,_,_⟩:=DataW.trod_int underlying3 g0
 obtain ⟨s1,r1,r1x,_⟩:=DataW.trod_string underlying9 g1
 obtain ⟨s2,r2,r2x,_⟩:=DataW.trod_string underlying9 g2
 obtain ⟨k3,r3,_,_⟩:=DataW.trod_int underlying3 g3
 simp only [DataW.weights,underlying31,List.map_cons,List.map_nil,DataW.weightsEach,List.append_nil,List.mem_append,List.map_toArray] at hw
 obtain ⟨pa,pc,L,q3,hsl⟩:=open_id.slice underlying29 (by kernel_rfl) (by rw [show prog.bytesOf 72=32 by kernel_rfl]; decide) h2 (fun n hn=>hw n (by simp [hn]))
 injection q0 with q0
 injection q1 with q1
 injection q2 with q2
 injection q3 with q3
 injection r0 with r0
 injection r1 with r1
 injection r2 with r2
 injection r3 with r3
 subst q0 q1 q2 q3 r0 r1 r2 r3
 exact ⟨⟨⟨n0,n1⟩,n2,L,⟨k0,s1,s2,k3⟩⟩,(pa,pc),rfl,fun A hA=>by simp only [Cell.facts,List.mem_singleton] at hA; subst hA; exact hsl⟩⟩
end Ab
end Go.Proofs.YtllddbbldmoibaaGreat
namespace Go.Proofs.YtllddbbldmoibaaGreat
open Go Go.ChangeShapes Go.WideShapes Go.ChangeAt Go.RowKit
set_option linter.unusedVariables false
theorem X3h:ownKnob Tryz.prog.godebug=none:=by kernel_rfl
theorem laid:laidOutB Tryz.prog=true:=by kernel_rfl
theorem X28 {P:Program} {H:Type} {enc:TypeId × Value→H} {W:World} {α:Type} [Ab.Cell α] {t e:TypeId} (hO:Ab.OpenT P α e) (ht:P.underlying t=some (.slice e)) (hc:P.cellsOf e=Ab.Cell.sz α) (hb:1≤P.bytesOf e)
    {r:Reach} {base:Nat} {v:Value} {d:DataW H} {p:List MemPlace} (hv:Value.okWide P W r base t v) (h:DataW.Trod enc P W 0 (fun _=>true) true t v d p) (hw:∀ n∈d.weights P t,n≤reachBytes) :
    ∃ (a:Option Addr) (c:Nat) (L:List α),v = .slice a L.length c∧(Ab.sl a c L).holds (fun _=>True) W:=by
  obtain ⟨a,len,cap,rfl⟩:=okWide_slice ht hv
  obtain ⟨fuel,hf⟩:=h
  obtain ⟨a',c',L,hcs,hsl⟩:=hO.slice ht hc hb hf hw
  simp [Value.cells] at hcs
  obtain ⟨rfl,rfl,rfl⟩:=hcs
  exact ⟨_,_,L,rfl,hsl⟩
theorem Xpv:Tryz.prog.bytesOf 31=96:=by kernel_rfl
section
variable {H:Type} {enc:TypeId × Value→H} {W:World} {r:Reach} {base:Nat} {v:Value} {d:DataW H} {p:List MemPlace}
set_option maxRecDepth 100000 in
theorem Xrd (hv:Value.okWide Tryz.prog W r base 22 v) (h:DataW.Trod enc Tryz.prog W 0 (fun _=>true) true 22 v d p) (hw:∀ n∈d.weights Tryz.prog 22,n≤reachBytes) :
    ∃ (a:Option Addr) (c:Nat) (L:List Ab.Commit),v = .slice a L.length c∧(Ab.sl a c L).holds (fun _=>True) W :=
  X28 Ab.open_commit Tryz.underlying22 (by kernel_rfl) (by rw [Xpv]; decide) hv h hw
set_option maxRecDepth 100000 in
theorem Xx0 (hv:Value.okWide Tryz.prog W r base 24 v) (h:DataW.Trod enc Tryz.prog W 0 (fun _=>true) true 24 v d p):∃ e:Ab.Ev_,v = .agg ⟨[.int .i64 e.node, .int .i64 e.seq]⟩:=by
  have c24:Tryz.prog.cellsOf 24=2:=by kernel_rfl
  have c3:Tryz.prog.cellsOf 3=1:=by kernel_rfl
  unfold Value.okWide at hv
  rw [Tryz.underlying24] at hv
  obtain ⟨⟨cs⟩,rfl,_,_⟩:=hv
  obtain ⟨fuel,hf⟩:=h
  obtain ⟨ys,m',_,_,hl,hly,hy⟩:=DataW.trod_struct Tryz.underlying24 hf
  rw [c24] at hl
  match cs,hl,ys,hly with
  | [v0,v1],_,[y0,y1],_ =>
  have e0:=hy 0 _ rfl
  have e1:=hy 1 _ rfl
  simp only [Value.cells,List.getElem_toArray,List.getElem_cons_zero,List.getElem_cons_succ,c3,List.drop_zero,List.drop_succ_cons,List.take_succ_cons,List.take_zero,List.getElem?_cons_zero,List.getElem?_cons_succ] at e0 e1
  obtain ⟨n0,q0,_,_⟩:=DataW.trod_int Tryz.underlying3 e0
  obtain ⟨n1,q1,_,_⟩:=DataW.trod_int Tryz.underlying3 e1
  injection q0 with q0
  injection q1 with q1
  subst q0 q1
  exact ⟨⟨n0,n1⟩,rfl⟩
set_option maxRecDepth 100000 in
theorem X29 (hv:Value.okWide Tryz.prog W r base 26 v) (h:DataW.Trod enc Tryz.prog W 0 (fun _=>true) true 26 v d p):∃ o:Ab.Op_,v=Ab.opV o:=by
  have c27:Tryz.prog.cellsOf 26=4:=by kernel_rfl
  have c3:Tryz.prog.cellsOf 3=1:=by kernel_rfl
  have c9:Tryz.prog.cellsOf 9=1:=by kernel_rfl
  unfold Value.okWide at hv
  rw [Tryz.underlying26] at hv
  obtain ⟨⟨cs⟩,rfl,_,_⟩:=hv
  obtain ⟨fuel,hf⟩:=h
  obtain ⟨ys,m',_,_,hl,hly,hy⟩:=DataW.trod_struct Tryz.underlying26 hf
  rw [c27] at hl
  match cs,hl,ys,hly with
  | [v0,v1,v2,v3],_,[y0,y1,y2,y3],_ =>
  have g0:=hy 0 _ rfl
  have g1:=hy 1 _ rfl
  have g2:=hy 2 _ rfl
  have g3:=hy 3 _ rfl
  simp only [Value.cells,List.getElem_toArray,List.getElem_cons_zero,List.getElem_cons_succ,c3,c9,List.drop_zero,List.drop_succ_cons,List.take_succ_cons,List.take_zero,List.getElem?_cons_zero,List.getElem?_cons_succ] at g0 g1 g2 g3
  obtain ⟨k0,r0,_,_⟩:=DataW.trod_int Tryz.underlying3 g0
  obtain ⟨s1,r1,_,_⟩:=DataW.trod_string Tryz.underlying9 g1
  obtain ⟨s2,r2,_,_⟩:=DataW.trod_string Tryz.underlying9 g2
  obtain ⟨k3,r3,_,_⟩:=DataW.trod_int Tryz.underlying3 g3
  injection r0 with r0
  injection r1 with r1
  injection r2 with r2
  injection r3 with r3
  subst r0 r1 r2 r3
  exact ⟨⟨k0,s1,s2,k3⟩,rfl⟩
end
section
variable {H:Type} {enc:TypeId × Value→H} {P:Program} {w:World} {base:Nat} {spare:Nat→Bool} {held:Bool}
end
end Go.Proofs.YtllddbbldmoibaaGreat
