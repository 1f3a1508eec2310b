/- The statement EvalNextSaid: for every input EvalNext returns true and leaves its arguments as they were. -/
import Derived.Test.YtllddbbldmoibaaGreatBrE6
namespace Go.Proofs.YtllddbbldmoibaaGreat
open Go Go.ChangeShapes Go.WideShapes Go.ChangeAt Go.RowKit
set_option linter.unusedVariables false
set_option maxRecDepth 100000 in
theorem Xie (H:Type) (enc:TypeId × Value→H) (W:World) (base:Nat) (args:Array Value) (ds gs:List (DataW H)) (before:List MemPlace)
    (hval:∀ (j:Nat) t v,Tryz.f3.params[j]? = some t→args[j]? = some v→Value.okWide Tryz.prog W .any base t v)
    (hW:DataW.Whole enc Tryz.prog Tryz.f3.params.toList Rows.evalNextSpec.vars false W args.toList ds gs before)
    (hsz:(DataW.weightsEach Tryz.prog (Tryz.f3.params.toList++Rows.evalNextSpec.plain.varTypes Tryz.prog) (ds++gs)).all (·≤reachBytes)=true) :
    Calls Tryz.prog 3 args W fun e W'=>∃ v,e = .returned v∧Rows.evalNextSpec.post enc Tryz.prog Tryz.f3 false true false false W args v W':=by
  have hW':=hW
  obtain ⟨p,q,hA0,hV,rfl,_,_⟩:=hW
  have hA:DataW.TrodAll enc Tryz.prog W 0 (fun _=>true) true Tryz.f3.params.toList args.toList ds p:=hA0
  rw [Tryz.params3] at hA hval hsz
  obtain ⟨v0,v1,v2,d0,d1,d2,p0,p1,p2,rfl,rfl,rfl,h0,h1,h2⟩:=trodAll_three hA
  obtain ⟨rfl,rfl⟩:=trodVars_none hV
  have hall:=List.all_eq_true.1 hsz
  have w0:∀ n∈d0.weights Tryz.prog 22,n≤reachBytes:=fun n hn=>by simpa using hall n (DataW.weights_mem_each (j:=0) rfl rfl n hn)
  have w1:∀ n∈d1.weights Tryz.prog 24,n≤reachBytes:=fun n hn=>by simpa using hall n (DataW.weights_mem_each (j:=1) rfl rfl n hn)
  have w2:∀ n∈d2.weights Tryz.prog 26,n≤reachBytes:=fun n hn=>by simpa using hall n (DataW.weights_mem_each (j:=2) rfl rfl n hn)
  obtain ⟨a0,k0,x0,rfl,s0⟩:=Xrd (hval 0 _ v0 rfl rfl) h0 w0
  obtain ⟨x1,rfl⟩:=Xx0 (hval 1 _ v1 rfl rfl) h1
  obtain ⟨x2,rfl⟩:=X29 (hval 2 _ v2 rfl rfl) h2
  clear hA0
  simp only [List.append_nil] at hW'
  have hlt:∀ x∈p0++p1++p2,x.block < W.heap.size:=fun x hx=>by simpa using hW'.lt x (by simpa using hx)
  refine Calls.mono (Ab.law_evalnext W (fun _=>True) a0 k0 x0 x1 x2 s0) ?_
  rintro e W' ⟨y,he,hbel,_⟩
  subst he
  have hB:=hbel.below
  refine ⟨_,rfl,_,_,_,[],_,[],hW',?_,trodAll_mk3 (Below.trod laid (by kernel_rfl) (of_decide_eq_true (by kernel_rfl)) h0 hB (fun x hx=>hlt x (List.mem_append_left _ (List.mem_append_left _ hx)))) (Below.trod laid (by kernel_rfl) (of_decide_eq_true (by kernel_rfl)) h1 hB (fun x hx=>hlt x (List.mem_append_left _ (List.mem_append_right _ hx)))) (Below.trod laid (by kernel_rfl) (of_decide_eq_true (by kernel_rfl)) h2 hB (fun x hx=>hlt x (List.mem_append_right _ hx))),rfl,hB.frame _,fun h=>by cases h⟩
  exact trodAll_cons_mk (shut_bool Tryz.underlying4 _) trodAll_mk0
set_option maxRecDepth 100000 in
theorem Xld (os:Os) (started:os.Started) (H:Type) (enc:TypeId × Value→H) :
    ReturnsInHanded {} Tryz.checked os 3 .any (Rows.evalNextSpec.pre6 enc Tryz.prog Tryz.f3 Rows.evalNextRow.domain false) (Rows.evalNextSpec.post enc Tryz.prog Tryz.f3 false true false false):=by
  refine returnsInHanded_of_change_sized (C:=Tryz.checked) X3h started (by kernel_rfl) Tryz.func3
    (ChangeSpec.witness6 (enc:=enc) (C:=Tryz.checked) false ⟨#[],#[.slice none 0 0, .agg #[.int .i64 0, .int .i64 0], .agg #[.int .i64 0, .string .empty, .string .empty, .int .i64 0]],[]⟩ 8 (by kernel_rfl) (by kernel_rfl) (by kernel_rfl) (by kernel_rfl)) ?_
  intro W base args ds gs before hval hW _ hsz _
  exact Xie H enc W base args ds gs before hval hW hsz
theorem Xeg:Tryz.pinned.checked.prog.unfollowed 3=true:=by kernel_rfl
theorem Xi7:Tryz.pinned.checked.prog.inPlace 3=Rows.evalNextRow.inPlace:=by kernel_rfl
theorem Xlv:Tryz.pinned.checked.prog.varsNamed 3=Rows.evalNextRow.named:=by kernel_rfl
theorem Xif:Tryz.pinned.checked.prog.recurses 3=true:=by
  unfold Program.recurses
  rw [Xeg,Bool.true_or]
theorem Xle:joinedFacts Tryz.pinned.checked.prog 3 Tryz.f3 Rows.evalNextSpec Rows.evalNextRow=true:=by
  unfold joinedFacts
  rw [Xi7,Xeg,Xif,Xlv]
  kernel_rfl
theorem evalNext_holds:Rows.EvalNextSaid :=
  OpenClaim.holds_of_wide 3 Tryz.f3 rfl rfl rfl rfl rfl rfl rfl ⟨rfl,rfl,rfl,rfl,rfl⟩ rfl rfl rfl rfl rfl (by kernel_rfl) Tryz.func3 Xle
    (of_decide_eq_true (by kernel_rfl)) (by unfold Func.isWrapper; first | (rw [if_pos (by decide +kernel)]; kernel_rfl) | (rw [if_neg (by decide +kernel)]; exact ⟨rfl,rfl⟩))
    (fun os started H enc _=>Xld os started H enc)
end Go.Proofs.YtllddbbldmoibaaGreat
