/- Lemmas for the walks, part 4 of 6: Def, ComG, WalkV, Dag, WalkW, WalkX, DagC, More12, WalkB2, DagA, DagB, DagE, Cmp, Sort2, Lays3, DagD, DagF, DagG, DagH, WalkY, WalkZ, DagI, DagJ, Few, LawS, LawW, DagK, LawK, LawN, FrP, FrQ, RefA, RefB, RefC, RefD, RefE, RefF, RefG, RefH, RefI, RefJ, RefK, RefL. -/
import Derived.Test.YtdgeffphifgflaaGreatSo3
import Derived.Test.YtdgeffphifgflaaGreatSo2
import Derived.WideLaws
import Derived.Shelf.SlSortCmp.NoneTotal
import Derived.Test.YtdgeffphifgflaaGreatChecked
import Derived.KernelRfl
namespace Go.Proofs.YtdgeffphifgflaaGreat
namespace Ab
open Go Go.RowKit Tryz
set_option linter.unusedVariables false
set_option linter.unusedSimpArgs false
set_option synthInstance.maxSize 4000
set_option synthInstance.maxHeartbeats 400000
set_option maxHeartbeats 16000000
variable (w : World) (F : Nat → Prop)
section
variable {P : Program}
theorem Xoc {ops : Array Oper} {R : Exit → Act → List Frame → World → Prop} {i : Nat} {rest : List Nat} {a : Act} {cs cs' : List Frame} {w : World} {o : Oper} {v : Value} (ho : ops[i]? = some o) (hw : Region.wanted o (yielded ops a.tmps) = true)
  (hr : (execOp a.eval o).run P w = .ok .recover w) (h4 : (match recoverD cs with | some (v, cs') => (v, cs') | none => (Value.nilIface, cs)) = (v, cs')) (h : wpOpsS P ops R rest (a.put o.dst v) cs' w) : wpOpsS P ops R (i :: rest) a cs w := by
 unfold wpOpsS
 rw [ho]
 dsimp only
 rw [if_pos hw, hr]
 dsimp only
 cases hd : recoverD cs with
 | none => rw [hd] at h4; cases h4; exact h
 | some p => rw [hd] at h4; cases h4; exact h
theorem Xr1 {ops : Array Oper} {R : Exit → Act → List Frame → World → Prop} {i : Nat} {rest : List Nat} {a : Act} {cs : List Frame} {w : World} {o : Oper} {v : Value} (ho : ops[i]? = some o) (hw : Region.wanted o (yielded ops a.tmps) = true)
  (hr : (execOp a.eval o).run P w = .ok (.value v) w) (h : wpOpsS P ops R rest (a.put o.dst v) cs w) : wpOpsS P ops R (i :: rest) a cs w := by
 unfold wpOpsS
 rw [ho]
 dsimp only
 rw [if_pos hw, hr]
 exact h
end
section
variable {P : Program} {w0 : World} {F : Nat → Prop} {Q : Cont} {e : E} {Γ Γ' : List Fact} [Dr]
def Xr2 (P : Program) (w0 : World) (F : Nat → Prop) (g : FuncId) (us : List Value) (u u' : FrameMode) (Γ Γ' : List Fact) : Prop :=
 ∀ w, Hold w0 F Γ w → CallsD P g ⟨us⟩ u w fun x u1 w' => x = .returned (.tuple ⟨[]⟩) ∧ u1 = u' ∧ Hold w0 F Γ' w'
abbrev panR (v : Value) : List PanicEntry := [{ v := v, recovered := true }]
def X3y (P : Program) (w0 : World) (F : Nat → Prop) (rs : List ResultVar) {Y : Type} (v : Y → Value) (B : Y → List Fact) (g : FuncId) (us : List Value) : Cont := fun x e Γ =>
 ∃ Γ', (((x = .ret ∨ x = .normal) ∧ Xr2 P w0 F g us .returning .returning Γ Γ') ∨ (∃ v0, x = .panic (pan v0) ∧ Xr2 P w0 F g us (.panicking (pan v0)) (.panicking (panR v0)) Γ Γ')) ∧ Xan P w0 F rs v B .ret e Γ'
theorem Xtv {f : FuncId} {fn : Func} {c : Code} {rs : List ResultVar} {args : List Value} {w : World} {Y : Type} {v : Y → Value} {B : Y → List Fact}
  {m : Nat} (hf : P.funcs[f]? = some fn) (hb : fn.body = some c) (hn : fn.ntmps = m) (hr : fn.results = ⟨rs⟩) (hl : Nat.ble args.length m = true) (Γ : List Fact) (ho : Hold w F Γ w)
  (h : JX P ⟨m, []⟩ w F c (fun n' x e Γ => ∃ g us, Body P g ∧ n' = ⟨m, [⟨.fn (.func g) ⟨us⟩, #[]⟩]⟩ ∧ X3y P w F rs v B g us x e Γ) (enum 0 args) Γ) : Gives P f args w F v B := by
 refine calls_of_wp_defers hf hb ?_
 rw [hn]
 refine wp_mono (h _ w (Fr.start hl) ho) ?_
 rintro x a w' ⟨n', e, Γ, ⟨g, us, hbd, rfl, Γ', hx, _, y, vs, hres, hpk, hB⟩, fr, ho'⟩
 have hi : ∀ w1, (invoke (.fn (.func g) ⟨us⟩) #[]).run P w1 = .ok (.enter g ⟨us⟩) w1 := fun w1 => by
  have e3 : (#[] : Array Value) ++ (⟨us⟩ : Array Value) = ⟨us⟩ := by apply Array.ext'; simp
  simp only [invoke, e3, hbd.ok]
 have hfin : ∀ w1, Hold w F Γ' w1 → Leaves P fn a.tmps (fun x w' => ∃ y, x = .returned (v y) ∧ Bel w.heap.size w w' ∧ Fresh w.heap.size F (B y) w') [] .returning w1 := fun w1 ho1 => by
  have fr' : Fr ⟨m, []⟩ e ⟨a.tmps, []⟩ := ⟨rfl, fr.size, fr.slot⟩
  have hrun := Xeg (P := P) hr hres fr' ho1
  exact ⟨_, hrun, y, by rw [hpk], ho1.below, (hB w1 ho1).fresh⟩
 rcases hx with ⟨hx, hc⟩ | ⟨v0, rfl, hc⟩
 ·have : Leaves P fn a.tmps (fun x w' => ∃ y, x = .returned (v y) ∧ Bel w.heap.size w w' ∧ Fresh w.heap.size F (B y) w') a.defers .returning w' := by
   rw [fr.defers]
   refine leaves_cons (by simp) (hi w') ((hc w' ho').mono ?_)
   rintro x u' w1 ⟨rfl, rfl, ho1⟩
   exact hfin w1 ho1
  rcases hx with rfl | rfl <;> exact this
 ·show Leaves P fn a.tmps _ a.defers (.panicking (pan v0)) w'
  rw [fr.defers]
  refine leaves_cons (by simp) (hi w') ((hc w' ho').mono ?_)
  rintro x u' w1 ⟨rfl, rfl, ho1⟩
  exact hfin w1 ho1
theorem Xr3 {g : FuncId} {fn : Func} {y : Code} {us : List Value} {m id d1 d2 : Nat} {t1 t2 : TypeId} {p1 p2 : String} {f1 f2 : Array Edge} {ats : Array TypeId} {u u' : FrameMode} {v0 : Value}
  (hu : (u = .returning ∧ u' = .returning ∧ v0 = .nilIface) ∨ (u = .panicking (pan v0) ∧ u' = .panicking (panR v0)))
  (hf : P.funcs[g]? = some fn) (hb : fn.body = some (.seq (.region id ⟨[⟨some d1, .call ⟨.builtin .recover, #[], ats⟩, t1, p1, f1, none⟩, ⟨some d2, .assign (.tmp d1), t2, p2, f2, none⟩]⟩ false) y)) (hn : fn.ntmps = m) (hr : fn.results = ⟨[]⟩)
  (hl : Nat.ble us.length m = true) (hd1 : Nat.blt d1 m = true) (hd2 : Nat.blt d2 m = true)
  (h : JC P ⟨m, []⟩ w0 F y (Xan P w0 F [] (fun _ : Unit => .tuple ⟨[]⟩) (fun _ => Γ')) ((d2, v0) :: (d1, v0) :: enum 0 us) Γ) : Xr2 P w0 F g us u u' Γ Γ' := by
 intro w ho
 refine callsD_of_wpS hf hb fun c₀ cs hc => ?_
 rw [hn]
 have fr0 := Fr.start (args := us) hl
 have fr1 := (fr0.put hd1 v0)
 have fr2 := (fr1.put hd2 v0)
 refine wpS_seq (wpS_region ?_)
 have hrg : List.range (Array.size (⟨[⟨some d1, .call ⟨.builtin .recover, #[], ats⟩, t1, p1, f1, none⟩, ⟨some d2, .assign (.tmp d1), t2, p2, f2, none⟩]⟩ : Array Oper)) = [0, 1] := rfl
 rw [hrg]
 have hw : ∀ y (o : Oper), o.guard = none → Region.wanted o y = true := fun y o h => by unfold Region.wanted; rw [h]
 generalize hA : ({ tmps := (⟨us⟩ : Array Value) ++ Array.replicate (m - (⟨us⟩ : Array Value).size) undef, defers := [] } : Act) = a at fr0 fr1 fr2 ⊢
 have h1 : (execOp a.eval ⟨some d1, .call ⟨.builtin .recover, #[], ats⟩, t1, p1, f1, none⟩).run P w = .ok .recover w := by
  simp [execOp, Xas, invoke, builtin]
 have h2 : (execOp (a.put (some d1) v0).eval ⟨some d2, .assign (.tmp d1), t2, p2, f2, none⟩).run P w = .ok (.value v0) w := by
  have h3 : (a.put (some d1) v0).eval (.tmp d1) = v0 := (iI : Ev ((d1, v0) :: enum 0 us) (.tmp d1) v0).ok _ _ fr1
  simp [execOp, h3]
 have h4 : (match recoverD (c₀ :: cs) with | some (v, cs') => (v, cs') | none => (Value.nilIface, c₀ :: cs)) = (v0, { c₀ with mode := u' } :: cs) := by
  unfold recoverD
  rcases hu with ⟨rfl, rfl, rfl⟩ | ⟨rfl, rfl⟩
  ·cases c₀; simp at hc; subst hc; rfl
  ·cases c₀; simp at hc; subst hc; rfl
 refine Xoc rfl (hw _ _ rfl) h1 h4 ?_
 refine Xr1 rfl (hw _ _ rfl) h2 ?_
 unfold wpOpsS
 refine wpS_of_wp (wp_mono (h _ w fr2 ho) ?_)
 rintro x a1 w1 ⟨e1, Γ1, ⟨hx, y1, vs, hres, hpk, hB⟩, fr, ho1⟩
 have hrun := Xeg (P := P) hr hres fr ho1
 rw [hpk] at hrun
 rcases hx with rfl | rfl
 ·exact ⟨fr.defers, u', rfl, _, hrun, rfl, rfl, hB w1 ho1⟩
 ·exact ⟨fr.defers, u', rfl, _, hrun, rfl, rfl, hB w1 ho1⟩
end
section
variable {P : Program} {n : Nn} {w0 : World} {F : Nat → Prop} {d : Option Nat} {t : TypeId} {pos : String} {aft : Array Edge} {g : Option (Nat × Bool)} {e : E} {Γ : List Fact}
theorem Xtw [Dr] {x : Operand} {ty yt : TypeId} [hx : Ev e x .nilIface] (hu : P.underlying ty = some (.interface (P.methodsAt ty))) : OpV P n w0 F ⟨d, .binOp .neq ty x (.const .nilIface) yt, t, pos, aft, g⟩ e Γ (.bool false) :=
 fun a w fr _ => by
  have h2 : (Act.eval a (.const .nilIface)) = .nilIface := rfl
  have h4 : (eqGuard .neq ty x (.const .nilIface) .nilIface .nilIface).run P w = .ok () w := by simp [eqGuard]
  simp only [execOp, hx.ok n a fr, h2, Sem.run_bind, h4, Result.andThen_ok, run_neq_nil_nil w ty hu, Sem.run_pure]
theorem Xtx [Dr] {x : Operand} {ty yt u : TypeId} {v : Value} [hx : Ev e x (.iface u v)] (hu : P.underlying ty = some (.interface (P.methodsAt ty))) : OpV P n w0 F ⟨d, .binOp .neq ty x (.const .nilIface) yt, t, pos, aft, g⟩ e Γ (.bool true) :=
 fun a w fr _ => by
  have h2 : (Act.eval a (.const .nilIface)) = .nilIface := rfl
  have h4 : (eqGuard .neq ty x (.const .nilIface) (.iface u v) .nilIface).run P w = .ok () w := by simp [eqGuard]
  simp only [execOp, hx.ok n a fr, h2, Sem.run_bind, h4, Result.andThen_ok, run_neq_held_nil w ty u v hu, Sem.run_pure]
theorem Xr4 [Dr] {x : Operand} {xt at_ : TypeId} {v : Value} [hx : Ev e x (.iface at_ v)] (hi : ∀ w, (Instr.typeAssert (.iface at_ v) xt at_ true).run P w = .ok (.tuple ⟨[v, .bool true]⟩) w) : OpV P n w0 F ⟨d, .typeAssert x xt at_ true, t, pos, aft, g⟩ e Γ (.tuple ⟨[v, .bool true]⟩) :=
 fun a w fr _ => by simp [execOp, hx.ok n a fr, hi w]
end
section
attribute [local irreducible] JC JO JR JQ andThen inBlock OpV Gives Xan JM JS
section
variable {w0 : World} {F : Nat → Prop} {b2 b3 b4 : Nat} {A B C : List Value} {v2 v3 v4 : List Value}
theorem Xy1 {Γ : List Fact} : Xr2 prog w0 F 182 [.pointer (some ⟨b2, 0, none⟩), .pointer (some ⟨b3, 0, none⟩), .pointer (some ⟨b4, 0, none⟩)] .returning .returning Γ Γ := by
 refine Xr3 (.inl ⟨rfl, rfl, rfl⟩) func182 rfl ntmps182 rfl rfl rfl rfl ?_
 refine wz14 ?_
 refine Wf (Xtw (by kernel_rfl)) rfl ?_
 refine wz7 ?_
 exact Xep () rfl (fun w ho => ho)
theorem Xwo : Xr2 prog w0 F 182 [.pointer (some ⟨b2, 0, none⟩), .pointer (some ⟨b3, 0, none⟩), .pointer (some ⟨b4, 0, none⟩)] (.panicking Xow) (.panicking (panR Xyq))
  [.own b2 29 [.int .i64 0, .int .i64 0, .int .i64 0, .slice none 0 0, .int .i64 0, .string .empty, .string .empty, .int .i64 0], .own b3 22 [.slice none 0 0], .own b4 32 [.int .i64 0]]
  [.own b2 29 [.int .i64 0, .int .i64 0, .int .i64 0, .slice none 0 0, .int .i64 0, .string .empty, .string .empty, .int .i64 0], .own b3 22 [.slice none 0 0], .own b4 32 [.int .i64 2]] := by
 refine Xr3 (.inr ⟨rfl, rfl⟩) func182 rfl ntmps182 rfl rfl rfl rfl ?_
 refine wz14 ?_
 refine Wf (Xtx (by kernel_rfl)) rfl ?_
 refine wz8 ?_
 refine Wf (Xr4 (fun w => by kernel_rfl)) rfl ?_
 (repeat (refine wE ?_; intro _)); refine wA ?_
 refine Wf (OpV.build [.int .i64 0, .int .i64 0, .int .i64 0, .slice none 0 0, .int .i64 0, .string .empty, .string .empty, .int .i64 0] (by kernel_rfl)) rfl ?_
 refine wz9 ?_
 exact Xx2 () rfl
end
def com0 : Commit := ⟨⟨0, 0⟩, 0, [], op0⟩
noncomputable def getT (b : List UInt8) : Commit × List UInt8 × Int := match getC b with | some q => (q.1, q.2, 0) | none => (com0, [], 2)
structure GetY (b : List UInt8) where
 pa : Option Addr
 pc : Nat
 ra : Option Addr
 rc : Nat
theorem Xgn {b : List UInt8} {c : Commit} {r : List UInt8} (h : getC b = some (c, r)) : getT b = (c, r, 0) := by unfold getT; rw [h]
theorem Xfu {b : List UInt8} (h : getC b = none) : getT b = (com0, [], 2) := by unfold getT; rw [h]
theorem Xoz : ∀ (n : Nat) (b : List UInt8) (q), Xcx n b = some q → q.2.length ≤ b.length
 | 0, b, q, h => by cases h; exact Nat.le_refl _
 | n + 1, b, q, h => by
  unfold Xcx at h
  split at h
  ·cases hq : Xcx n (b.drop 32) with
   | none => rw [hq] at h; cases h
   | some q1 =>
    rw [hq] at h; cases h
    have := Xoz n _ q1 hq
    rw [List.length_drop] at this
    show q1.2.length ≤ _
    omega
  ·cases h
theorem X1p {b : List UInt8} {q} (h : numO b = some q) : q.2.length ≤ b.length := by
 unfold numO at h
 split at h <;> cases h
 simp only [List.length_drop]; omega
theorem Xnb {m : Nat} {b : List UInt8} {q} (h : Xg7 m b = some q) : q.2.length ≤ b.length := by
 unfold Xg7 at h
 split at h <;> cases h
 simp only [List.length_drop]; omega
theorem Xu9 {c : Commit} {b : List UInt8} {q} (h : finC c b = some q) : q.2.length ≤ b.length := by
 unfold finC at h
 split at h <;> cases h
 exact Nat.le_refl _
theorem X3z {n0 : Int} {n1 n2 : Nat} {ps : List ID} {b : List UInt8} {q} (h : opC n0 n1 n2 ps b = some q) : q.2.length ≤ b.length := by
 unfold opC at h
 split at h
 ·exact Xu9 h
 ·split at h
  ·exact Nat.le_trans (Xu9 h) (Xna b)
  ·cases h
theorem X1q {b : List UInt8} {c : Commit} {r : List UInt8} (h : getC b = some (c, r)) : r.length ≤ b.length := by
 unfold getC at h
 obtain ⟨q0, h0, h⟩ := Option.bind_eq_some_iff.1 h
 obtain ⟨q1, h1, h⟩ := Option.bind_eq_some_iff.1 h
 obtain ⟨q2, h2, h⟩ := Option.bind_eq_some_iff.1 h
 obtain ⟨q3, h3, h⟩ := Option.bind_eq_some_iff.1 h
 obtain ⟨q4, h4, h⟩ := Option.bind_eq_some_iff.1 h
 have := X1p h0; have := Xnb h1; have := Xnb h2; have := Xnb h3; have := Xoz _ _ _ h4; have := X3z h
 simp only at *
 omega
theorem X30 (a : Option Addr) (c : Nat) (b : List UInt8) (h : (sl a c b).holds F w) (hl : b.length ≤ 34359738368) :
  Gives prog 123 [.slice a b.length c] w F (fun y : GetY b => .tuple ⟨[Xax (getT b).1 y.pa y.pc, .slice y.ra (getT b).2.1.length y.rc, .int .i64 (getT b).2.2]⟩)
   (fun y => [.st (sl y.pa y.pc (getT b).1.parents), .st (sl y.ra y.rc (getT b).2.1)]) := by
 refine Xtv (v := fun y : GetY b => .tuple ⟨[Xax (getT b).1 y.pa y.pc, .slice y.ra (getT b).2.1.length y.rc, .int .i64 (getT b).2.2]⟩) func123 rfl ntmps123 rfl rfl [.st (sl a c b)] (.start1 h) ?_
 refine JX.seq ?_
 (repeat (refine wE ?_; intro _)); refine wA ?_
 rename_i b2 b3 b4
 refine ⟨rfl, JX.defer rfl ?_⟩
 refine wz14 ?_
 refine Wf (OpV.build [.slice a b.length c] (by kernel_rfl)) rfl ?_
 (repeat (refine wE ?_; intro _)); refine wA ?_
 rename_i br
 refine JR.more (Γ' := .own br 207 [.slice a b.length c] :: .st (sl a c b) :: [.own b2 29 [.int .i64 0, .int .i64 0, .int .i64 0, .slice none 0 0, .int .i64 0, .string .empty, .string .empty, .int .i64 0], .own b3 22 [.slice none 0 0], .own b4 32 [.int .i64 0]]) (fun w ho => ho.ent) ?_
 refine X1a rfl (fun w1 hw => Xy0 hl hw) (fun y => ?_) (fun hn => ?_)
 ·obtain ⟨cm, r, hg, pa, pc, ra, rc⟩ := y
  dsimp only
  rw [Xgn hg]
  dsimp only
  refine wz9 ?_
  have hc := X1q hg
  refine JC.drawP mixed ?_
  refine JP.tv 0 [.own b2 29 [.int .i64 cm.ev.node, .int .i64 cm.ev.seq, .int .i64 cm.gen, .slice pa cm.parents.length pc, .int .i64 cm.op.kind, .string cm.op.key, .string cm.op.elem, .int .i64 cm.op.n]] ?_
  refine Xad 1 ?_
  refine Xad 2 ?_
  refine Xad 3 ?_
  refine JP.tv 4 [.own br 207 [.slice ra r.length rc]] ?_
  refine Xar 5 rfl rfl (JR.callBuf rfl (fun w1 hw => Xfs w1 _ ra rc r hw.get (by omega)) fun a5 c5 => Wd (nO ?_))
  refine JP.more (fun w1 ho => ho.pub) ?_
  refine Xar 6 rfl rfl (Wi (Wd (nO ?_)))
  refine Xar 7 rfl rfl (Wi (Wd (nO ?_)))
  refine Xar 8 rfl rfl (Wi (Wd (nO ?_)))
  refine JP.nil (by kernel_rfl) ?_
  refine wz13 ?_
  refine ⟨182, _, iI, rfl, _, .inl ⟨.inl rfl, Xy1⟩, ?_⟩
  exact Xab (⟨pa, pc, a5, c5⟩ : GetY b) rfl
 ·rw [Xfu hn]
  dsimp only
  refine z3z ?_
  refine ⟨182, _, iI, rfl, _, .inr ⟨Xyq, rfl, Xwo⟩, ?_⟩
  exact CT.done (⟨none, 0, none, 0⟩ : GetY b) rfl (fun w ho => ((ho.ent : Hold _ _ [] w).add Xah).add Xah)
section
attribute [local irreducible] sumI Xay
def Xnc (c : Commit) : Option ID := if (Xay c).2 = 0 then some (Xay c).1 else none
def Xb8 (L : List Commit) : List ID := L.filterMap Xnc
def Xav (L : List Commit) : List ID := L.flatMap (·.parents)
def Xhk (L : List Commit) (H : List ID) : List ID := Xbg (Xav L) (H ++ Xb8 L) false
theorem Xg8 (L : List Commit) (k : Nat) (hk : k < L.length) : Xb8 (L.take (k + 1)) = Xb8 (L.take k) ++ (Xnc L[k]).toList := by
 rw [Xb8, Xb8, List.take_succ_eq_append_getElem hk, List.filterMap_append]
 congr 1
theorem Xcb (L : List Commit) (k : Nat) (hk : k < L.length) : Xav (L.take (k + 1)) = Xav (L.take k) ++ L[k].parents := by
 rw [Xav, Xav, List.take_succ_eq_append_getElem hk, List.flatMap_append]
 simp
theorem Xr5 (L : List Commit) : (Xb8 L).length ≤ L.length := List.length_filterMap_le _ _
theorem Xi7 (L : List Commit) (k : Nat) : (Xav (L.take k)).length ≤ (Xav L).length := by
 have h1 := congrArg (fun l => (Xav l).length) (List.take_append_drop k L)
 simp only [Xav, List.flatMap_append, List.length_append] at h1 ⊢
 omega
theorem Xr6 (a b : Option Addr) (k m : Nat) (L : List Commit) (H : List ID) (h : (sl a k L).holds F w) (h' : (sl b m H).holds F w) (hl : L.length + H.length ≤ 34359738360) (hp : (Xav L).length ≤ 34359738360) (hf : ∀ x ∈ L, fine x) :
  GivesBuf prog 146 [.slice a L.length k, .slice b H.length m] w F 81 (Xhk L H) := by
 refine Xaa func146 rfl ntmps146 rfl rfl [.st (sl a k L), .st (sl b m H)] (.start2 h h') ?_
 refine wz10 ?_
 refine JR.callBuf rfl (fun w1 hw => Xg1 w1 _ b m H hw.get (by omega)) ?_
 intro a2 c2
 refine wz4 ?_
 refine JC.buf_nil (α := ID) 81 ?_
 refine Xh7 (fun (i : Nat) p q r s => [(5, .slice p (Xav (L.take i)).length q), (6, .slice r (H ++ Xb8 (L.take i)).length s), (13, .slice a L.length k), (14, .int .i64 (L.length : Int)), (15, .int .i64 (i : Int))])
  (fun i p q r s => [.st (sl a k L), .res (buf p q 81 (Xav (L.take i))), .res (buf r s 81 (H ++ Xb8 (L.take i)))])
  (fun i _ _ _ _ => i ≤ L.length) (fun i _ _ _ _ => L.length - i) 0 none 0 a2 c2 (Nat.zero_le _) (by rw [List.take_zero, show Xav [] = [] from rfl, show Xb8 [] = [] from rfl, List.append_nil]; infer_instance) ?_
 intro i p q r s hi
 refine wz11 ?_
 refine JC.test (fun hlt => ?_) (fun hge => ?_)
 ·have hlt' : i < L.length := by omega
  have hfx := hf _ (List.getElem_mem hlt')
  have h1 := Xr5 (L.take i)
  rw [List.length_take] at h1
  have h2 := Xi7 L (i + 1)
  rw [Xcb L i hlt', List.length_append] at h2
  refine wz14 ?_
  refine Xaf rfl hlt' ?_
  intro b2 o2 p2 q2
  (repeat (refine wE ?_; intro _)); refine wA ?_
  rename_i bc
  refine JR.callV rfl (fun w1 hw => Xfp w1 _ (L[i]) p2 q2 hw.get hfx.1) ?_
  (repeat (refine wE ?_; intro _)); refine wA ?_
  refine JC.test (fun h0 => ?_) (fun h0 => ?_)
  ·have ho : Xnc L[i] = some (Xay L[i]).1 := by simp [Xnc, h0]
   have hnx : H ++ Xb8 (L.take (i + 1)) = H ++ Xb8 (L.take i) ++ [(Xay L[i]).1] := by rw [Xg8 _ _ hlt', ho, List.append_assoc]; rfl
   (repeat (refine wE ?_; intro _)); refine wA ?_
   refine Xai rfl (by exact ⟨rfl, rfl, by decide⟩) (by rw [List.length_append]; omega) ?_
   intro r3 s3
   refine wz9 ?_
   refine Xau rfl (by exact ⟨rfl, rfl, by decide⟩) (by omega) ?_
   intro p3 q3
   refine wz2 ?_
   exact ⟨i + 1, p3, q3, r3, s3, by omega, by omega, by rw [hnx, Xcb _ _ hlt']; infer_instance⟩
  ·have ho : Xnc L[i] = none := by simp [Xnc, h0]
   have hnx : H ++ Xb8 (L.take (i + 1)) = H ++ Xb8 (L.take i) := by rw [Xg8 _ _ hlt', ho]; simp
   obtain ⟨r3, hr3⟩ : ∃ r3, r3 = r := ⟨_, rfl⟩
   obtain ⟨s3, hs3⟩ : ∃ s3, s3 = s := ⟨_, rfl⟩
   subst hr3 hs3
   refine wz1 ?_
   refine Xau rfl (by exact ⟨rfl, rfl, by decide⟩) (by omega) ?_
   intro p3 q3
   refine wz2 ?_
   exact ⟨i + 1, p3, q3, r3, s3, by omega, by omega, by rw [hnx, Xcb _ _ hlt']; infer_instance⟩
 ·obtain rfl : i = L.length := by omega
  rw [List.take_length]
  refine z2z ?_
  refine JC.more (Γ' := [.st (sl r s (H ++ Xb8 L)), .st (sl p q (Xav L))]) (fun w1 ho => ?_) ?_
  ·have h1 : Hold _ _ [.res (buf p q 81 (Xav L)), .res (buf r s 81 (H ++ Xb8 L))] w1 := ho.ent
   have h2 : Hold _ _ [.res (buf r s 81 (H ++ Xb8 L)), .st (sl p q (Xav L))] w1 := (h1.pub).ent
   exact h2.pub
  refine wz14 ?_
  refine JR.callBuf rfl (fun w1 hw => Xfl w1 _ p r q s (Xav L) (H ++ Xb8 L) hw.get hw.get (by omega)) ?_
  intro a5 c5
  refine wz10 ?_
  exact CT.done (a5, c5) rfl (fun w ho => (ho.ent : Hold _ _ [.res (buf a5 c5 81 (Xbg (Xav L) (H ++ Xb8 L) false))] w))
end
def idC (c : Commit) : ID := (Xay c).1
def cids (L : List Commit) : List ID := L.map idC
def par (L : List Commit) (x y : ID) : Prop := ∃ c ∈ L, idC c = x ∧ y ∈ c.parents ∧ y ∈ cids L
def Xdl (L : List Commit) (x y : ID) : Prop := Relation.TransGen (par L) x y
def Xd4 (L : List Commit) (p : ID) : Int := match L.find? (fun c => decide (idC c = p)) with | some c => c.gen | none => 0
def Xeu (L : List Commit) (ps : List ID) : Int := ps.foldl (fun g p => max g (Xd4 L p)) 0
structure Fine (L : List Commit) (c : Commit) : Prop where
 merge : merge c = false
 here : ∀ p ∈ c.parents, p ∈ cids L
 free : ∀ p ∈ c.parents, ∀ q ∈ c.parents, ¬ Xdl L p q
 gen : c.gen = Xeu L c.parents + 1
def evOk (L : List Commit) (c d : Commit) : Prop := idC c ≠ idC d → c.ev.node = d.ev.node → c.ev.seq ≠ d.ev.seq ∧ (d.ev.seq < c.ev.seq → Xdl L (idC c) (idC d))
structure Closed (L : List Commit) : Prop where
 may : ∀ c ∈ L, may c = true
 nodup : (cids L).Nodup
 fine : ∀ c ∈ L, Fine L c
 ev : ∀ c ∈ L, ∀ d ∈ L, evOk L c d
theorem Xbl {L : List Commit} {x : ID} : x ∈ cids L ↔ ∃ c ∈ L, idC c = x := by simp [cids]
theorem Xfv {L M : List Commit} (h : L.Perm M) : (cids L).Perm (cids M) := h.map _
theorem X1r {L M : List Commit} (h : L.Perm M) (x y : ID) : par L x y ↔ par M x y := by
 unfold par
 constructor
 ·rintro ⟨c, h1, h2, h3, h4⟩; exact ⟨c, h.mem_iff.1 h1, h2, h3, (Xfv h).mem_iff.1 h4⟩
 ·rintro ⟨c, h1, h2, h3, h4⟩; exact ⟨c, h.mem_iff.2 h1, h2, h3, (Xfv h).mem_iff.2 h4⟩
theorem Xty {L M : List Commit} (h : L.Perm M) : par L = par M := by
 funext x y; exact propext (X1r h x y)
theorem Xo0 {L M : List Commit} (h : L.Perm M) : Xdl L = Xdl M := by unfold Xdl; rw [Xty h]
theorem Xr7 {L : List Commit} (h : (cids L).Nodup) {c d : Commit} (hc : c ∈ L) (hd : d ∈ L) (e : idC c = idC d) : c = d := by
 induction L with
 | nil => cases hc
 | cons a L ih =>
  simp only [cids, List.map_cons, List.nodup_cons, List.mem_map, not_exists, not_and] at h
  rcases List.mem_cons.1 hc with e1 | hc'
  ·rcases List.mem_cons.1 hd with e2 | hd'
   ·rw [e1, e2]
   ·exact (h.1 d hd' (by rw [← e1, e])).elim
  ·rcases List.mem_cons.1 hd with e2 | hd'
   ·exact (h.1 c hc' (by rw [← e2, e])).elim
   ·exact ih h.2 hc' hd'
theorem Xeq {L : List Commit} (h : (cids L).Nodup) {c : Commit} (hc : c ∈ L) : Xd4 L (idC c) = c.gen := by
 unfold Xd4
 cases hf : L.find? (fun d => decide (idC d = idC c)) with
 | none => exact absurd (List.find?_eq_none.1 hf c hc) (by simp)
 | some d =>
  have h1 := List.find?_some hf
  have h2 := List.mem_of_find?_eq_some hf
  rw [Xr7 h h2 hc (by simpa using h1)]
theorem Xo1 {L : List Commit} {p : ID} (h : p ∉ cids L) : Xd4 L p = 0 := by
 unfold Xd4
 cases hf : L.find? (fun d => decide (idC d = p)) with
 | none => rfl
 | some d =>
  have h1 := List.find?_some hf
  exact (h (Xbl.2 ⟨d, List.mem_of_find?_eq_some hf, by simpa using h1⟩)).elim
theorem Xwp {L M : List Commit} (h : L.Perm M) (hn : (cids L).Nodup) (p : ID) : Xd4 L p = Xd4 M p := by
 by_cases hp : p ∈ cids L
 ·obtain ⟨c, hc, rfl⟩ := Xbl.1 hp
  rw [Xeq hn hc, Xeq ((Xfv h).nodup_iff.1 hn) (h.mem_iff.1 hc)]
 ·rw [Xo1 hp, Xo1 (fun hq => hp ((Xfv h).mem_iff.2 hq))]
theorem Xr8 (f : ID → Int) (ps : List ID) : ∀ g : Int, g ≤ ps.foldl (fun g p => max g (f p)) g := by
 induction ps with
 | nil => intro g; exact Int.le_refl _
 | cons p ps ih => intro g; exact Int.le_trans (Int.le_max_left _ _) (ih _)
theorem Xqa (f : ID → Int) (ps : List ID) : ∀ (g : Int), ∀ p ∈ ps, f p ≤ ps.foldl (fun g p => max g (f p)) g := by
 induction ps with
 | nil => intro g p hp; cases hp
 | cons q ps ih =>
  intro g p hp
  rcases List.mem_cons.1 hp with rfl | hp
  ·exact Int.le_trans (Int.le_max_right _ _) (Xr8 f ps _)
  ·exact ih _ p hp
theorem Xnd (f g : ID → Int) (ps : List ID) (h : ∀ p ∈ ps, f p = g p) : ∀ a : Int, ps.foldl (fun g p => max g (f p)) a = ps.foldl (fun a p => max a (g p)) a := by
 induction ps with
 | nil => intro a; rfl
 | cons q ps ih =>
  intro a
  simp only [List.foldl_cons]
  rw [h q (by simp)]
  exact ih (fun p hp => h p (by simp [hp])) _
theorem Xwq (L : List Commit) (ps : List ID) (p : ID) (h : p ∈ ps) : Xd4 L p ≤ Xeu L ps := Xqa _ _ _ p h
theorem Xev {L M : List Commit} {ps : List ID} (h : ∀ p ∈ ps, Xd4 L p = Xd4 M p) : Xeu L ps = Xeu M ps := Xnd _ _ _ h _
theorem Closed.perm {L M : List Commit} (h : L.Perm M) (hc : Closed L) : Closed M := by
 have hk := Xo0 h
 refine ⟨fun c hm => hc.may c (h.mem_iff.2 hm), (Xfv h).nodup_iff.1 hc.nodup, fun c hm => ?_, fun c hm d hd => ?_⟩
 ·have hf := hc.fine c (h.mem_iff.2 hm)
  refine ⟨hf.merge, fun p hp => (Xfv h).mem_iff.1 (hf.here p hp), ?_, ?_⟩
  ·rw [← hk]; exact hf.free
  ·rw [hf.gen, Xev fun p _ => Xwp h hc.nodup p]
 ·have := hc.ev c (h.mem_iff.2 hm) d (h.mem_iff.2 hd)
  unfold evOk at *
  rw [← hk]; exact this
theorem Xo2 : Closed [] := ⟨by simp, by simp [cids], by simp, by simp⟩
theorem Closed.par_gen {L : List Commit} (h : Closed L) {x y : ID} (hp : par L x y) : Xd4 L y < Xd4 L x := by
 obtain ⟨c, h1, rfl, h3, _⟩ := hp
 rw [Xeq h.nodup h1, (h.fine c h1).gen]
 have := Xwq L c.parents y h3
 omega
theorem Closed.knows_gen {L : List Commit} (h : Closed L) {x y : ID} (hp : Xdl L x y) : Xd4 L y < Xd4 L x := by
 induction hp with
 | single h1 => exact h.par_gen h1
 | tail _ h1 ih => exact Int.lt_trans (h.par_gen h1) ih
theorem Closed.irrefl {L : List Commit} (h : Closed L) (x : ID) : ¬ Xdl L x x := fun hk => Int.lt_irrefl _ (h.knows_gen hk)
theorem Xj2 {L : List Commit} {x y : ID} (h : Xdl L x y) : x ∈ cids L ∧ y ∈ cids L := by
 have hp : ∀ {x y}, par L x y → x ∈ cids L ∧ y ∈ cids L := fun ⟨c, h1, h2, _, h4⟩ => ⟨Xbl.2 ⟨c, h1, h2⟩, h4⟩
 induction h with
 | single h1 => exact hp h1
 | tail _ h1 ih => exact ⟨ih.1, (hp h1).2⟩
theorem Xy2 {L : List Commit} (hn : (cids L).Nodup) {c : Commit} (hc : c ∈ L) (hh : ∀ p ∈ c.parents, p ∈ cids L) (y : ID) :
  Xdl L (idC c) y ↔ ∃ p ∈ c.parents, y = p ∨ Xdl L p y := by
 constructor
 ·intro h
  have key : ∀ {x y}, Relation.TransGen (par L) x y → ∃ z, par L x z ∧ (y = z ∨ Relation.TransGen (par L) z y) := by
   intro x y h
   induction h with
   | single h1 => exact ⟨_, h1, .inl rfl⟩
   | tail _ h1 ih =>
    obtain ⟨z, h2, h3⟩ := ih
    refine ⟨z, h2, .inr ?_⟩
    rcases h3 with rfl | h3
    ·exact .single h1
    ·exact .tail h3 h1
  obtain ⟨z, ⟨d, h1, h2, h3, _⟩, h4⟩ := key h
  have : d = c := Xr7 hn h1 hc h2
  subst this
  exact ⟨z, h3, h4⟩
 ·rintro ⟨p, hp, h⟩
  have h1 : par L (idC c) p := ⟨c, hc, rfl, hp, hh p hp⟩
  rcases h with rfl | h
  ·exact .single h1
  ·exact Relation.TransGen.trans (.single h1) h
theorem Xj3 {L M : List Commit} (hs : ∀ c ∈ M, c ∈ L) (hn : (cids L).Nodup) (hh : ∀ c ∈ M, ∀ p ∈ c.parents, p ∈ cids M) {x : ID} (hx : x ∈ cids M) (y : ID) :
  Xdl M x y ↔ Xdl L x y := by
 have hi : ∀ z, z ∈ cids M → z ∈ cids L := fun z hz => by
  obtain ⟨c, hc, rfl⟩ := Xbl.1 hz; exact Xbl.2 ⟨c, hs c hc, rfl⟩
 constructor
 ·intro h
  refine Relation.TransGen.rec (motive := fun y _ => Xdl L x y) ?_ ?_ h
  ·rintro y ⟨c, h1, h2, h3, h4⟩; exact .single ⟨c, hs c h1, h2, h3, hi _ h4⟩
  ·rintro y z _ ⟨c, h1, h2, h3, h4⟩ ih; exact .tail ih ⟨c, hs c h1, h2, h3, hi _ h4⟩
 ·intro h
  have step : ∀ {x y}, x ∈ cids M → par L x y → par M x y ∧ y ∈ cids M := by
   rintro x y hx ⟨c, h1, h2, h3, _⟩
   obtain ⟨d, hd, he⟩ := Xbl.1 hx
   have : d = c := Xr7 hn (hs d hd) h1 (he.trans h2.symm)
   subst this
   exact ⟨⟨d, hd, he, h3, hh d hd y h3⟩, hh d hd y h3⟩
  have : Xdl M x y ∧ y ∈ cids M := by
   refine Relation.TransGen.rec (motive := fun y _ => Xdl M x y ∧ y ∈ cids M) ?_ ?_ h
   ·intro y h1; exact ⟨.single (step hx h1).1, (step hx h1).2⟩
   ·intro y z _ h1 ih; exact ⟨.tail ih.1 (step ih.2 h1).1, (step ih.2 h1).2⟩
  exact this.1
theorem Xne {L M : List Commit} (hs : ∀ c ∈ M, c ∈ L) (hn : (cids L).Nodup) (hm : (cids M).Nodup) {x : ID} (hx : x ∈ cids M) : Xd4 M x = Xd4 L x := by
 obtain ⟨c, hc, rfl⟩ := Xbl.1 hx
 rw [Xeq hm hc, Xeq hn (hs c hc)]
theorem Xy3 {L M : List Commit} (hn : (cids L).Nodup) (hs : M.Sublist L) : (cids M).Nodup := hn.sublist (hs.map _)
theorem Closed.sub {L M : List Commit} (h : Closed L) (hs : ∀ c ∈ M, c ∈ L) (hm : (cids M).Nodup) (hh : ∀ c ∈ M, ∀ p ∈ c.parents, p ∈ cids M) : Closed M := by
 refine ⟨fun c hc => h.may c (hs c hc), hm, fun c hc => ?_, fun c hc d hd => ?_⟩
 ·have hf := h.fine c (hs c hc)
  refine ⟨hf.merge, hh c hc, fun p hp q hq hk => hf.free p hp q hq ((Xj3 hs h.nodup hh (hh c hc p hp) q).1 hk), ?_⟩
  rw [hf.gen, Xev fun p hp => (Xne hs h.nodup hm (hh c hc p hp))]
 ·have := h.ev c (hs c hc) d (hs d hd)
  intro h1 h2
  obtain ⟨h3, h4⟩ := this h1 h2
  exact ⟨h3, fun h5 => (Xj3 hs h.nodup hh (Xbl.2 ⟨c, hc, rfl⟩) _).2 (h4 h5)⟩
def Xbc (G : List (Commit × List ID)) : List Commit := G.map (·.1)
def Xe3 (G : List (Commit × List ID)) (q : ID) : List ID := match G.find? (fun g => decide (idC g.1 = q)) with | some g => g.2 | none => []
def Xqb (G : List (Commit × List ID)) (c : Commit) : Bool := c.parents.all (fun p => decide (p ∈ cids (Xbc G))) && c.parents.all (fun p => c.parents.all fun q => decide (p ∉ Xe3 G q))
def Xva (G : List (Commit × List ID)) (c : Commit) : Bool := decide (c.gen = Xeu (Xbc G) c.parents + 1)
def Xtz (G : List (Commit × List ID)) (c : Commit) (S : List ID) : Prop := ∀ x, x ∈ S ↔ ∃ p ∈ c.parents, x = p ∨ x ∈ Xe3 G p
inductive Built : List (Commit × List ID) → Prop
 | nil : Built []
 | snoc {G : List (Commit × List ID)} {c : Commit} {S : List ID} : Built G → idC c ∉ cids (Xbc G) → merge c = false → Xqb G c = true → Xva G c = true → Xtz G c S → Built (G ++ [(c, S)])
theorem Xd0 (G : List (Commit × List ID)) (c : Commit) (S : List ID) : Xbc (G ++ [(c, S)]) = Xbc G ++ [c] := by simp [Xbc]
theorem Xnf (L M : List Commit) : cids (L ++ M) = cids L ++ cids M := by simp [cids]
theorem Xr9 (L : List Commit) (c : Commit) : cids (L ++ [c]) = cids L ++ [idC c] := by simp [cids]
theorem Xk3 {G : List (Commit × List ID)} (h : (cids (Xbc G)).Nodup) {g : Commit × List ID} (hg : g ∈ G) : Xe3 G (idC g.1) = g.2 := by
 unfold Xe3
 cases hf : G.find? (fun d => decide (idC d.1 = idC g.1)) with
 | none => exact absurd (List.find?_eq_none.1 hf g hg) (by simp)
 | some d =>
  have h1 := List.find?_some hf
  have h2 := List.mem_of_find?_eq_some hf
  have h3 : idC d.1 = idC g.1 := by simpa using h1
  have : d = g := by
   clear hf h1
   induction G with
   | nil => cases hg
   | cons a G ih =>
    simp only [Xbc, cids, List.map_cons, List.nodup_cons, List.mem_map, not_exists, not_and] at h
    rcases List.mem_cons.1 h2 with e1 | h2'
    ·rcases List.mem_cons.1 hg with e2 | hg'
     ·rw [e1, e2]
     ·exact (h.1 g.1 ⟨g, hg', rfl⟩ (by rw [← e1, h3])).elim
    ·rcases List.mem_cons.1 hg with e2 | hg'
     ·exact (h.1 d.1 ⟨d, h2', rfl⟩ (by rw [← e2, h3])).elim
     ·exact ih h.2 hg' h2'
  rw [this]
theorem Xsa {G : List (Commit × List ID)} {c : Commit} {S : List ID} {q : ID} (h : q ∈ cids (Xbc G)) : Xe3 (G ++ [(c, S)]) q = Xe3 G q := by
 obtain ⟨c', hc', he⟩ := Xbl.1 h
 obtain ⟨g, hg, rfl⟩ := List.mem_map.1 hc'
 unfold Xe3
 rw [List.find?_append]
 cases hf : G.find? (fun d => decide (idC d.1 = q)) with
 | none => exact absurd (List.find?_eq_none.1 hf g hg) (by simpa using he)
 | some d => rfl
theorem Xhz (G : List (Commit × List ID)) (c : Commit) : Xqb G c = true ↔ (∀ p ∈ c.parents, p ∈ cids (Xbc G)) ∧ ∀ p ∈ c.parents, ∀ q ∈ c.parents, p ∉ Xe3 G q := by
 simp only [Xqb, Bool.and_eq_true, List.all_eq_true, decide_eq_true_eq]
structure BuiltR (G : List (Commit × List ID)) : Prop where
 nodup : (cids (Xbc G)).Nodup
 here : ∀ c ∈ Xbc G, ∀ p ∈ c.parents, p ∈ cids (Xbc G)
 known : ∀ q ∈ cids (Xbc G), ∀ x, x ∈ Xe3 G q ↔ Xdl (Xbc G) q x
 fine : ∀ c ∈ Xbc G, Fine (Xbc G) c
theorem Built.right {G : List (Commit × List ID)} (h : Built G) : BuiltR G := by
 induction h with
 | nil => exact ⟨by simp [Xbc, cids], by simp [Xbc], by simp [Xbc, cids], by simp [Xbc]⟩
 | snoc h1 h2 h3 h4 h5 h6 ih =>
  rename_i G c S
  have hn : (cids (Xbc (G ++ [(c, S)]))).Nodup := by
   rw [Xd0, Xr9]
   exact List.nodup_append.2 ⟨ih.nodup, by simp, fun a ha b hb => by simp at hb; subst hb; exact fun e => h2 (e ▸ ha)⟩
  obtain ⟨h7, h8⟩ := (Xhz G c).1 h4
  have hs : ∀ d ∈ Xbc G, d ∈ Xbc (G ++ [(c, S)]) := fun d hd => by rw [Xd0]; exact List.mem_append_left _ hd
  have hi : ∀ x ∈ cids (Xbc G), x ∈ cids (Xbc (G ++ [(c, S)])) := fun x hx => by rw [Xd0, Xnf]; exact List.mem_append_left _ hx
  have hc : c ∈ Xbc (G ++ [(c, S)]) := by rw [Xd0]; simp
  have hsub : ∀ {x}, x ∈ cids (Xbc G) → ∀ y, Xdl (Xbc G) x y ↔ Xdl (Xbc (G ++ [(c, S)])) x y := fun hx y => Xj3 hs hn ih.here hx y
  have hgen : ∀ x ∈ cids (Xbc G), Xd4 (Xbc G) x = Xd4 (Xbc (G ++ [(c, S)])) x := fun x hx => Xne hs hn ih.nodup hx
  have hcc : ∀ x, x ∈ S ↔ Xdl (Xbc (G ++ [(c, S)])) (idC c) x := by
   intro x
   rw [h6 x, Xy2 hn hc (fun p hp => hi p (h7 p hp))]
   constructor
   ·rintro ⟨p, hp, h9⟩
    exact ⟨p, hp, h9.imp id fun h9 => (hsub (h7 p hp) x).1 ((ih.known p (h7 p hp) x).1 h9)⟩
   ·rintro ⟨p, hp, h9⟩
    exact ⟨p, hp, h9.imp id fun h9 => (ih.known p (h7 p hp) x).2 ((hsub (h7 p hp) x).2 h9)⟩
  refine ⟨hn, fun d hd p hp => ?_, fun q hq x => ?_, fun d hd => ?_⟩
  ·rw [Xd0] at hd
   rcases List.mem_append.1 hd with hd | hd
   ·exact hi p (ih.here d hd p hp)
   ·simp at hd; subst hd; exact hi p (h7 p hp)
  ·by_cases hq' : q ∈ cids (Xbc G)
   ·rw [Xsa hq', ih.known q hq', hsub hq']
   ·have : q = idC c := by
     rw [Xd0, Xr9] at hq
     rcases List.mem_append.1 hq with hq | hq
     ·exact (hq' hq).elim
     ·simpa using hq
    subst this
    rw [Xk3 hn (g := (c, S)) (by simp)]
    exact hcc x
  ·rw [Xd0] at hd
   rcases List.mem_append.1 hd with hd | hd
   ·have hf := ih.fine d hd
    refine ⟨hf.merge, fun p hp => hi p (hf.here p hp), fun p hp q hq hk => hf.free p hp q hq ((hsub (hf.here p hp) q).2 hk), ?_⟩
    rw [hf.gen, Xev fun p hp => hgen p (hf.here p hp)]
   ·simp at hd; subst hd
    refine ⟨h3, fun p hp => hi p (h7 p hp), fun p hp q hq hk => h8 q hq p hp ((ih.known p (h7 p hp) q).2 ((hsub (h7 p hp) q).2 hk)), ?_⟩
    have := of_decide_eq_true h5
    rw [this, Xev fun p hp => hgen p (h7 p hp)]
theorem Built.closed {G : List (Commit × List ID)} (h : Built G) (hm : ∀ c ∈ Xbc G, may c = true) (he : ∀ c ∈ Xbc G, ∀ d ∈ Xbc G, evOk (Xbc G) c d) : Closed (Xbc G) :=
 ⟨hm, h.right.nodup, h.right.fine, he⟩
theorem Closed.step {Lo : List Commit} (h : Closed Lo) (hs : Lo.Pairwise (fun c d => c.gen ≤ d.gen)) {G : List (Commit × List ID)} (hb : Built G) {k : Nat} (hk : k < Lo.length) (hG : Xbc G = Lo.take k) :
  idC Lo[k] ∉ cids (Xbc G) ∧ merge Lo[k] = false ∧ Xqb G Lo[k] = true ∧ Xva G Lo[k] = true := by
 have hm := List.getElem_mem hk
 have hf := h.fine _ hm
 have hr := hb.right
 have hsub : ∀ c ∈ Xbc G, c ∈ Lo := fun c hc => by rw [hG] at hc; exact List.mem_of_mem_take hc
 have hpar : ∀ p ∈ Lo[k].parents, p ∈ cids (Xbc G) := by
  intro p hp
  obtain ⟨d, hd, rfl⟩ := Xbl.1 (hf.here p hp)
  have hlt : d.gen < Lo[k].gen := by
   have := h.par_gen (x := idC Lo[k]) (y := idC d) ⟨_, hm, rfl, hp, hf.here _ hp⟩
   rwa [Xeq h.nodup hd, Xeq h.nodup hm] at this
  obtain ⟨j, hj, rfl⟩ := List.getElem_of_mem hd
  have hjk : j < k := by
   apply Classical.byContradiction
   intro hge
   by_cases he : j = k
   ·subst he; omega
   ·have := List.pairwise_iff_getElem.1 hs k j hk hj (by omega)
    omega
  rw [hG]
  refine Xbl.2 ⟨Lo[j], ?_, rfl⟩
  rw [List.mem_take_iff_getElem]
  exact ⟨j, by omega, rfl⟩
 refine ⟨?_, hf.merge, (Xhz G _).2 ⟨hpar, fun p hp q hq hk' => ?_⟩, ?_⟩
 ·intro hc
  obtain ⟨d, hd, he⟩ := Xbl.1 hc
  rw [hG, List.mem_take_iff_getElem] at hd
  obtain ⟨j, hj, rfl⟩ := hd
  have h1 := List.pairwise_iff_getElem.1 (show (cids Lo).Pairwise _ from h.nodup) j k (by simp [cids]; omega) (by simpa [cids] using hk) (by omega)
  simp [cids] at h1
  exact h1 he
 ·exact hf.free q hq p hp ((Xj3 hsub h.nodup hr.here (hpar q hq) p).1 ((hr.known q (hpar q hq) p).1 hk'))
 ·refine decide_eq_true ?_
  rw [hf.gen, Xev fun p hp => (Xne hsub h.nodup hr.nodup (hpar p hp)).symm]
def Xim (L : List Commit) (i j : Nat) : Prop := ∃ h : i < L.length, ∃ p ∈ L[i].parents, (cids L).findIdx? (fun x => decide (x = p)) = some j
def Xdc (L : List Commit) (i j : Nat) : Prop := Relation.TransGen (Xim L) i j
theorem Xqc {I : List ID} {p : ID} {j : Nat} (h : I.findIdx? (fun x => decide (x = p)) = some j) : ∃ hj : j < I.length, I[j] = p := by
 obtain ⟨h1, h2, _⟩ := List.findIdx?_eq_some_iff_getElem.1 h
 exact ⟨h1, by simpa using h2⟩
theorem Xk4 {I : List ID} {p : ID} : I.findIdx? (fun x => decide (x = p)) = none ↔ p ∉ I := by
 rw [List.findIdx?_eq_none_iff]
 constructor
 ·intro h hp; have := h p hp; simp at this
 ·intro h x hx; simp; intro e; exact h (e ▸ hx)
theorem X31 {I : List ID} (hn : I.Nodup) {j : Nat} (hj : j < I.length) : I.findIdx? (fun x => decide (x = I[j])) = some j := by
 rw [List.findIdx?_eq_some_iff_getElem]
 refine ⟨hj, by simp, fun k hk => ?_⟩
 have := List.pairwise_iff_getElem.1 hn k j (by omega) hj hk
 simpa using this
theorem Xa2 (L : List Commit) : (cids L).length = L.length := by simp [cids]
theorem Xbm (L : List Commit) (i : Nat) (h : i < (cids L).length) : (cids L)[i] = idC (L[i]'(by simpa [cids] using h)) := by simp [cids]
theorem Xid {L : List Commit} {i j : Nat} (h : Xim L i j) : i < L.length ∧ j < L.length := by
 obtain ⟨h1, p, _, h3⟩ := h
 obtain ⟨h4, _⟩ := Xqc h3
 exact ⟨h1, by rwa [Xa2] at h4⟩
theorem Xj4 {L : List Commit} (hn : (cids L).Nodup) {i j : Nat} (hi : i < L.length) (hj : j < L.length) : Xim L i j ↔ par L (idC L[i]) (idC L[j]) := by
 constructor
 ·rintro ⟨_, p, h2, h3⟩
  obtain ⟨h4, h5⟩ := Xqc h3
  rw [Xbm] at h5
  subst h5
  exact ⟨_, List.getElem_mem hi, rfl, h2, Xbl.2 ⟨_, List.getElem_mem hj, rfl⟩⟩
 ·rintro ⟨c, h1, h2, h3, _⟩
  have : c = L[i] := Xr7 hn h1 (List.getElem_mem hi) h2
  subst this
  refine ⟨hi, _, h3, ?_⟩
  have := X31 hn (j := j) (by rw [Xa2]; exact hj)
  rwa [Xbm] at this
theorem Xd1 {L : List Commit} (hn : (cids L).Nodup) {i j : Nat} (hi : i < L.length) (hj : j < L.length) : Xdc L i j ↔ Xdl L (idC L[i]) (idC L[j]) := by
 constructor
 ·intro h
  have : ∀ {j}, Relation.TransGen (Xim L) i j → ∀ hj : j < L.length, Xdl L (idC L[i]) (idC L[j]) := by
   intro j h
   induction h with
   | single h1 => exact fun hj => .single ((Xj4 hn hi hj).1 h1)
   | tail h0 h1 ih =>
    intro hj
    have hb := (Xid h1).1
    exact .tail (ih hb) ((Xj4 hn hb hj).1 h1)
  exact this h hj
 ·intro h
  have : ∀ {y}, Relation.TransGen (par L) (idC L[i]) y → ∀ j, ∀ hj : j < L.length, idC L[j] = y → Xdc L i j := by
   intro y h
   induction h with
   | single h1 => intro j hj e; exact .single ((Xj4 hn hi hj).2 (e ▸ h1))
   | tail h0 h1 ih =>
    intro j hj e
    rename_i b c
    have hb : b ∈ cids L := by obtain ⟨c, h2, h3, _⟩ := h1; exact Xbl.2 ⟨c, h2, h3⟩
    obtain ⟨d, hd, he⟩ := Xbl.1 hb
    obtain ⟨k, hk, rfl⟩ := List.getElem_of_mem hd
    exact .tail (ih k hk he) ((Xj4 hn hk hj).2 (by rw [he, e]; exact h1))
  exact this h j hj rfl
theorem Xwr {L : List Commit} {K : Nat → Nat → Prop} (h : ∀ i p, Xim L i p → K i p ∧ ∀ j, K p j → K i j) {i j : Nat} (hk : Xdc L i j) : K i j := by
 have : ∀ {i j}, Relation.TransGen (Xim L) i j → (∀ k, k = i → K k j) := by
  intro i j hk
  induction hk with
  | single h1 => rintro k rfl; exact (h _ _ h1).1
  | tail h0 h1 ih =>
   rintro k rfl
   rename_i b c
   have key : ∀ {a b}, Relation.TransGen (Xim L) a b → ∀ c, K b c → K a c := by
    intro a b hab
    induction hab with
    | single h1 => exact fun c hc => (h _ _ h1).2 c hc
    | tail _ h1 ih => exact fun c hc => ih c ((h _ _ h1).2 c hc)
   exact key h0 c (h _ _ h1).1
 exact this hk i rfl
def oneI (L : List Commit) (i : Nat) : Prop := ∃ h : i < L.length, (∀ p ∈ L[i].parents, p ∈ cids L) ∧
 (∀ a b, Xim L i a → Xim L i b → ¬ Xdc L a b) ∧ L[i].gen = Xeu L L[i].parents + 1
theorem Xsb {L : List Commit} (hn : (cids L).Nodup) {i : Nat} (hi : i < L.length) : (merge L[i] = false ∧ oneI L i) ↔ Fine L L[i] := by
 constructor
 ·rintro ⟨h1, _, h2, h3, h4⟩
  refine ⟨h1, h2, fun p hp q hq hk => ?_, h4⟩
  obtain ⟨c, hc, rfl⟩ := Xbl.1 (h2 p hp)
  obtain ⟨a, ha, rfl⟩ := List.getElem_of_mem hc
  obtain ⟨d, hd, rfl⟩ := Xbl.1 (h2 q hq)
  obtain ⟨b, hb, rfl⟩ := List.getElem_of_mem hd
  have e1 : ∀ a (ha : a < L.length), idC L[a] ∈ L[i].parents → Xim L i a := fun a ha hm => ⟨hi, _, hm, by
   have := X31 hn (j := a) (by rw [Xa2]; exact ha)
   rwa [Xbm] at this⟩
  exact h3 a b (e1 a ha hp) (e1 b hb hq) ((Xd1 hn ha hb).2 hk)
 ·rintro ⟨h1, h2, h3, h4⟩
  refine ⟨h1, hi, h2, ?_, h4⟩
  rintro a b ⟨_, p, hp, ha⟩ ⟨_, q, hq, hb⟩ hk
  obtain ⟨ha1, rfl⟩ := Xqc ha
  obtain ⟨hb1, rfl⟩ := Xqc hb
  rw [Xa2] at ha1 hb1
  rw [Xbm] at hp hq
  exact h3 _ hp _ hq ((Xd1 hn ha1 hb1).1 hk)
def evI (L : List Commit) (i j : Nat) : Prop := ∃ hi : i < L.length, ∃ hj : j < L.length, L[i].ev.node = L[j].ev.node →
 L[i].ev.seq ≠ L[j].ev.seq ∧ (L[j].ev.seq < L[i].ev.seq → Xdc L i j) ∧ (L[i].ev.seq < L[j].ev.seq → Xdc L j i)
theorem Xsc (L : List Commit) : Closed L ↔ (∀ c ∈ L, may c = true) ∧ ∀ i (hi : i < L.length), merge L[i] = false ∧ oneI L i ∧ (cids L).findIdx? (fun x => decide (x = idC L[i])) = some i ∧ ∀ j, j < i → evI L i j := by
 constructor
 ·intro h
  refine ⟨h.may, fun i hi => ?_⟩
  obtain ⟨h1, h2⟩ := (Xsb h.nodup hi).2 (h.fine _ (List.getElem_mem hi))
  have hat := X31 h.nodup (j := i) (by rw [Xa2]; exact hi)
  rw [Xbm] at hat
  refine ⟨h1, h2, hat, fun j hj => ⟨hi, by omega, fun he => ?_⟩⟩
  have hne : idC L[i] ≠ idC L[j] := by
   intro e
   have := List.pairwise_iff_getElem.1 (show (cids L).Pairwise _ from h.nodup) j i (by rw [Xa2]; omega) (by rw [Xa2]; exact hi) hj
   rw [Xbm, Xbm] at this
   exact this e.symm
  obtain ⟨h3, h4⟩ := h.ev _ (List.getElem_mem hi) _ (List.getElem_mem (by omega : j < L.length)) hne he
  obtain ⟨_, h5⟩ := h.ev _ (List.getElem_mem (by omega : j < L.length)) _ (List.getElem_mem hi) hne.symm he.symm
  exact ⟨h3, fun h6 => (Xd1 h.nodup hi (by omega)).2 (h4 h6), fun h6 => (Xd1 h.nodup (by omega) hi).2 (h5 h6)⟩
 ·rintro ⟨hm, h⟩
  have hn : (cids L).Nodup := by
   refine List.pairwise_iff_getElem.2 fun a b ha hb hab e => ?_
   rw [Xa2] at ha hb
   have h1 := (h b hb).2.2.1
   obtain ⟨_, _, h2⟩ := List.findIdx?_eq_some_iff_getElem.1 h1
   have := h2 a hab
   rw [Xbm] at this
   rw [Xbm, Xbm] at e
   simp [e] at this
  refine ⟨hm, hn, fun c hc => ?_, fun c hc d hd hne he => ?_⟩
  ·obtain ⟨i, hi, rfl⟩ := List.getElem_of_mem hc
   exact (Xsb hn hi).1 ⟨(h i hi).1, (h i hi).2.1⟩
  ·obtain ⟨i, hi, rfl⟩ := List.getElem_of_mem hc
   obtain ⟨j, hj, rfl⟩ := List.getElem_of_mem hd
   rcases Nat.lt_trichotomy i j with hij | rfl | hij
   ·obtain ⟨_, _, h1⟩ := (h j hj).2.2.2 i hij
    obtain ⟨h2, h3, h4⟩ := h1 he.symm
    exact ⟨h2.symm, fun h5 => (Xd1 hn hi hj).1 (h4 h5)⟩
   ·exact (hne rfl).elim
   ·obtain ⟨_, _, h1⟩ := (h i hi).2.2.2 j hij
    obtain ⟨h2, h3, h4⟩ := h1 he
    exact ⟨h2, fun h5 => (Xd1 hn hi hj).1 (h3 h5)⟩
theorem Xng (a b : Option Addr) (c k : Nat) (L M : List ID) (h : (sl a c L).holds F w) (h' : (sl b k M).holds F w) :
  GivesV prog 51 [.slice a L.length c, .slice b M.length k] w F (.bool (decide (L = M))) := by
 have hL : L.length < 9223372036854775807 := by have := h.2.2.1; simp only [lim] at this; omega
 refine Xaa func51 rfl ntmps51 rfl rfl [.st (sl a c L), .st (sl b k M)] (.start2 h h') ?_
 refine wA ?_
 refine JC.test (fun hne => ?_) (fun he => ?_)
 ·refine wz9 ?_
  refine Xab () ?_
  have : ¬ L = M := fun h => hne (by rw [h])
  simp [Xae, this]
 ·have hlen : L.length = M.length := by omega
  refine wz7 ?_
  refine Xap (fun k0 : Nat => [(0, .slice a L.length c), (1, .slice b M.length k), (5, .int .i64 (k0 : Int))]) (fun _ => [.st (sl a c L), .st (sl b k M)])
   (fun k0 => k0 ≤ L.length ∧ L.take k0 = M.take k0) (fun k0 => L.length - k0) 0 ⟨Nat.zero_le _, rfl⟩ iI ?_
  intro k0 ⟨hk, heq⟩
  refine wz11 ?_
  refine JC.test (fun hlt => ?_) (fun hge => ?_)
  ·have hlt' : k0 < L.length := by omega
   refine wz14 ?_
   refine Xbq (.slice a L.length c) k0 hlt' ?_
   intro b1 o1
   refine Xbq (.slice b M.length k) k0 (by omega) ?_
   intro b2 o2
   refine Xa6 mixed (by kernel_rfl) ?_
   refine wQ ?_
   refine wz13 ?_
   refine JC.test (fun hne => ?_) (fun heq2 => ?_)
   ·refine wz5 ?_
    refine Xab () ?_
    have : ¬ L = M := fun h => by subst h; exact hne rfl
    simp [Xae, this]
   ·refine wz2 ?_
    refine ⟨k0 + 1, ⟨by omega, ?_⟩, by omega, iI⟩
    have heq2 : L[k0] = M[k0] := by simpa using heq2
    rw [List.take_succ_eq_append_getElem hlt', List.take_succ_eq_append_getElem (by omega), heq, heq2]
  ·have hk0 : k0 = L.length := by omega
   refine wz3 ?_
   refine Xab () ?_
   have : L = M := by
    rw [List.take_of_length_le (by omega), List.take_of_length_le (by omega)] at heq
    exact heq
   simp [Xae, this]
theorem X5y (a b : Op_) : (decide (a.kind = b.kind) && (decide (a.key = b.key) && (decide (a.elem = b.elem) && decide (a.n = b.n)))) = decide (a = b) := by
 obtain ⟨a1, a2, a3, a4⟩ := a
 obtain ⟨b1, b2, b3, b4⟩ := b
 rw [Bool.eq_iff_iff]
 simp
theorem Xvb (c d : Commit) (a b : Option Addr) (k m : Nat) (h : (sl a k c.parents).holds F w) (h' : (sl b m d.parents).holds F w) :
  GivesV prog 66 [Xax c a k, Xax d b m] w F (.bool (decide (c = d))) := by
 have key : ∀ (c d : Commit), c = d ↔ c.ev = d.ev ∧ c.gen = d.gen ∧ c.op = d.op ∧ c.parents = d.parents := by
  intro c d
  cases c; cases d
  simp only [Commit.mk.injEq]
  constructor
  ·rintro ⟨h1, h2, h3, h4⟩; exact ⟨h1, h2, h4, h3⟩
  ·rintro ⟨h1, h2, h3, h4⟩; exact ⟨h1, h2, h4, h3⟩
 refine Xaa func66 rfl ntmps66 rfl rfl [.st (sl a k c.parents), .st (sl b m d.parents)] (.start2 h h') ?_
 (repeat (refine wE ?_; intro _)); refine wA ?_
 refine JR.callV rfl (fun w1 hw => Xng w1 _ a b k m _ _ hw.get hw.get) ?_
 refine wz10 ?_
 refine JO.test 12 (fun h1 => ?_) (fun h1 => ?_)
 ·refine wA ?_
  refine JO.test 19 (fun h2 => ?_) (fun h2 => ?_)
  ·refine wz6 ?_
   refine JO.test 26 (fun h3 => ?_) (fun h3 => ?_)
   ·refine wA ?_
    refine Xab () ?_
    have h1 : c.parents = d.parents := by simpa using h1
    have h2 : c.ev = d.ev := h2
    simp [Xae, key, h1, h2, h3]
    exact X5y _ _
   ·refine wz8 ?_
    refine Xab () ?_
    simp [Xae, key, h3]
  ·refine wz8 ?_
   refine Xab () ?_
   have h2 : ¬ c.ev = d.ev := h2
   simp [Xae, key, h2]
 ·refine wz8 ?_
  refine Xab () ?_
  have h1 : ¬ c.parents = d.parents := by simpa using h1
  simp [Xae, key, h1]
theorem Xl5 (a b : Option Addr) (c k : Nat) (L M : List Commit) (h : (sl a c L).holds F w) (h' : (sl b k M).holds F w) :
  GivesV prog 19 [.slice a L.length c, .slice b M.length k] w F (.bool (decide (L = M))) := by
 have hL : L.length < 9223372036854775807 := by have := h.2.2.1; simp only [lim] at this; omega
 refine Xaa func19 rfl ntmps19 rfl rfl [.st (sl a c L), .st (sl b k M)] (.start2 h h') ?_
 refine wA ?_
 refine JC.test (fun hne => ?_) (fun he => ?_)
 ·refine wz9 ?_
  refine Xab () ?_
  have : ¬ L = M := fun h => hne (by rw [h])
  simp [Xae, this]
 ·have hlen : L.length = M.length := by omega
  refine wz7 ?_
  refine Xap (fun k0 : Nat => [(0, .slice a L.length c), (1, .slice b M.length k), (5, .int .i64 (k0 : Int))]) (fun _ => [.st (sl a c L), .st (sl b k M)])
   (fun k0 => k0 ≤ L.length ∧ L.take k0 = M.take k0) (fun k0 => L.length - k0) 0 ⟨Nat.zero_le _, rfl⟩ iI ?_
  intro k0 ⟨hk, heq⟩
  refine wz11 ?_
  refine JC.test (fun hlt => ?_) (fun hge => ?_)
  ·have hlt' : k0 < L.length := by omega
   refine wz14 ?_
   refine Xa7 (.slice a L.length c) k0 hlt' ?_
   intro b1 o1 p1 q1
   refine Xa7 (.slice b M.length k) k0 (by omega) ?_
   intro b2 o2 p2 q2
   refine Xa6 mixed (by kernel_rfl) ?_
   refine wQ ?_
   refine JQ.call rfl rfl (fun w1 hw => Xvb w1 _ L[k0] (M[k0]'(by omega)) p1 p2 q1 q2 hw.get hw.get) ?_
   refine wQ ?_
   refine wz7 ?_
   refine JC.test (fun hne => ?_) (fun heq2 => ?_)
   ·refine wz5 ?_
    refine Xab () ?_
    have : ¬ L = M := fun h => by subst h; simp at hne
    simp [Xae, this]
   ·refine wz2 ?_
    refine ⟨k0 + 1, ⟨by omega, ?_⟩, by omega, iI⟩
    have heq2 : L[k0] = M[k0] := by simpa using heq2
    rw [List.take_succ_eq_append_getElem hlt', List.take_succ_eq_append_getElem (by omega), heq, heq2]
  ·have hk0 : k0 = L.length := by omega
   refine wz3 ?_
   refine Xab () ?_
   have : L = M := by
    rw [List.take_of_length_le (by omega), List.take_of_length_le (by omega)] at heq
    exact heq
   simp [Xae, this]
def fewC (c : Commit) : Bool := decide (c.parents.length ≤ 20) && decide (c.op.key.size ≤ 100) && decide (c.op.elem.size ≤ 100)
theorem X32 (c : Commit) (a : Option Addr) (k : Nat) : GivesV prog 14 [Xax c a k] w F (.bool (fewC c)) := by
 refine Xaa func14 rfl ntmps14 rfl rfl [] (.start w F) ?_
 (repeat (refine wE ?_; intro _)); refine wA ?_
 refine JO.test 7 (fun h1 => ?_) (fun h1 => ?_)
 ·refine wA ?_
  refine JO.test 14 (fun h2 => ?_) (fun h2 => ?_)
  ·refine wA ?_
   refine Xab () ?_
   have h1 : c.parents.length ≤ 20 := by omega
   have h2 : c.op.key.size ≤ 100 := by omega
   have h3 : ((c.op.elem.size : Int) ≤ 100) ↔ c.op.elem.size ≤ 100 := by omega
   simp [Xae, fewC, h1, h2, h3]
  ·refine wz8 ?_
   refine Xab () ?_
   have h2 : ¬ c.op.key.size ≤ 100 := by omega
   simp [Xae, fewC, h2]
 ·refine wz8 ?_
  refine Xab () ?_
  have h1 : ¬ c.parents.length ≤ 20 := by omega
  simp [Xae, fewC, h1]
def fewL (L : List Commit) (m : Nat) : Bool := decide (L.length ≤ m) && L.all fewC
theorem Xt0 (a : Option Addr) (c : Nat) (L : List Commit) (m : Nat) (h : (sl a c L).holds F w) :
  GivesV prog 24 [.slice a L.length c, .int .i64 (m : Int)] w F (.bool (fewL L m)) := by
 have hL : L.length < 9223372036854775807 := by have := h.2.2.1; simp only [lim] at this; omega
 refine Xaa func24 rfl ntmps24 rfl rfl [.st (sl a c L)] (.start1 h) ?_
 refine wz5 ?_
 refine JC.test (fun h1 => ?_) (fun h1 => ?_)
 ·refine wz9 ?_
  refine Xab () ?_
  have h1 : ¬ L.length ≤ m := by omega
  simp [Xae, fewL, h1]
 ·have h1 : L.length ≤ m := by omega
  refine wz7 ?_
  refine Xap (fun k0 : Nat => [(0, .slice a L.length c), (5, .int .i64 (k0 : Int))]) (fun _ => [.st (sl a c L)])
   (fun k0 => k0 ≤ L.length ∧ (L.take k0).all fewC = true) (fun k0 => L.length - k0) 0 ⟨Nat.zero_le _, rfl⟩ iI ?_
  intro k0 ⟨hk, heq⟩
  refine wz11 ?_
  refine JC.test (fun hlt => ?_) (fun hge => ?_)
  ·have hlt' : k0 < L.length := by omega
   refine wz14 ?_
   refine Xaf rfl hlt' ?_
   intro b1 o1 p1 q1
   refine wz6 ?_
   refine JR.callV rfl (fun w1 hw => X32 w1 _ L[k0] p1 q1) ?_
   refine wz7 ?_
   refine JC.test (fun hne => ?_) (fun heq2 => ?_)
   ·refine wz5 ?_
    refine Xab () ?_
    have h3 : L.all fewC = false := by
     rw [← Bool.not_eq_true]
     intro h4
     exact hne (List.all_eq_true.1 h4 _ (List.getElem_mem hlt'))
    simp only [Xae, fewL, h3, Bool.and_false]
   ·refine wz2 ?_
    refine ⟨k0 + 1, ⟨by omega, ?_⟩, by omega, iI⟩
    have heq2 : fewC L[k0] = true := by simpa using heq2
    rw [List.take_succ_eq_append_getElem hlt', List.all_append, heq]
    simp [heq2]
  ·have hk0 : k0 = L.length := by omega
   subst hk0
   rw [List.take_length] at heq
   refine wz3 ?_
   refine Xab () ?_
   simp only [Xae, fewL, heq, h1, decide_true, Bool.and_self]
section
attribute [local irreducible] Xay
theorem Xc0 (c : Commit) : ((Xay c).2 = 0) ↔ may c = true := by
 unfold Xay; cases may c <;> simp
def idsP (L : List Commit) : List ID := if L.all may then cids L else []
theorem Xea {L : List Commit} (h : ∀ c ∈ L, may c = true) : idsP L = cids L := by
 rw [idsP, if_pos (List.all_eq_true.2 h)]
theorem Xj5 {L : List Commit} {c : Commit} (hc : c ∈ L) (h : may c = false) : idsP L = [] := by
 rw [idsP, if_neg]
 intro h'
 have := List.all_eq_true.1 h' c hc
 rw [h] at this; cases this
theorem Xgd {L : List Commit} {i : Nat} (h : i < L.length) : cids (L.take (i + 1)) = cids (L.take i) ++ [idC L[i]] := by
 rw [List.take_succ_eq_append_getElem h, Xnf]; rfl
theorem Xy4 (a : Option Addr) (k : Nat) (L : List Commit) (h : (sl a k L).holds F w) (hl : L.length < 34359738368) (hf : ∀ x ∈ L, fine x) :
  Xbw prog 43 [.slice a L.length k] w F (idsP L) := by
 refine Xaa func43 rfl ntmps43 rfl rfl [.st (sl a k L)] (.start1 h) ?_
 refine wz4 ?_
 refine JC.buf_nil (α := ID) 81 ?_
 refine Xby (fun (i : Nat) p q => [(3, .slice p (cids (L.take i)).length q), (8, .slice a L.length k), (9, .int .i64 (L.length : Int)), (10, .int .i64 (i : Int))])
  (fun i p q => [.res (buf p q 81 (cids (L.take i))), .st (sl a k L)])
  (fun i _ _ => i ≤ L.length ∧ ∀ c ∈ L.take i, may c = true) (fun i _ _ => L.length - i) 0 none 0 ⟨Nat.zero_le _, by simp⟩ (by rw [List.take_zero, show cids [] = [] from rfl]; infer_instance) ?_
 intro i p q ⟨hi, hm⟩
 refine wz11 ?_
 refine JC.test (fun hlt => ?_) (fun hge => ?_)
 ·have hlt' : i < L.length := by omega
  have hfx := hf _ (List.getElem_mem hlt')
  refine wz14 ?_
  refine Xaf rfl hlt' ?_
  intro b1 o1 p1 q1
  (repeat (refine wE ?_; intro _)); refine wA ?_
  refine JR.callV rfl (fun w1 hw => Xfp w1 _ (L[i]) p1 q1 hw.get hfx.1) ?_
  (repeat (refine wE ?_; intro _)); refine wA ?_
  refine JC.test (fun h0 => ?_) (fun h0 => ?_)
  ·have hmay : may L[i] = false := by
    rw [← Bool.not_eq_true, ← Xc0]; exact h0
   refine wz5 ?_
   rw [Xj5 (List.getElem_mem hlt') hmay]
   exact CT.done (none, 0) rfl (fun w ho => (ho.ent : Hold _ _ [.st (sl a k L)] w).tail.add Xah)
  ·have hmay : may L[i] = true := (Xc0 _).1 (by simpa using h0)
   have h1 : (cids (L.take i)).length ≤ i := by simp [cids]; omega
   (repeat (refine wE ?_; intro _)); refine wA ?_
   refine Xai (u := idC L[i]) rfl (by exact ⟨rfl, rfl, by decide⟩) (by omega) ?_
   intro r s
   refine wz2 ?_
   refine ⟨i + 1, r, s, ⟨by omega, fun c hc => ?_⟩, by omega, by rw [Xgd hlt']; infer_instance⟩
   rw [List.take_succ_eq_append_getElem hlt', List.mem_append, List.mem_singleton] at hc
   rcases hc with hc | rfl
   ·exact hm c hc
   ·exact hmay
 ·obtain rfl : i = L.length := by omega
  rw [List.take_length] at hm ⊢
  refine JC.more (fun w1 ho => ho.pub) ?_
  refine wz3 ?_
  rw [Xea hm]
  exact CT.done (p, q) rfl (fun w ho => (ho.ent : Hold _ _ [.st (sl p q (cids L))] w))
theorem Xy5 (c : Commit) (a : Option Addr) (k : Nat) (h : (sl a k c.parents).holds F w) (hp : c.parents.length ≤ 34359738368) :
  Gives prog 74 [Xax c a k] w F (fun y : Option Addr × Nat => Xax c y.1 y.2) (fun y => [.st (sl y.1 y.2 c.parents)]) := by
 refine Xaa func74 rfl ntmps74 rfl rfl [.st (sl a k c.parents)] (.start1 h) ?_
 (repeat (refine wE ?_; intro _)); refine wA ?_
 refine JR.callBuf rfl (fun w1 hw => Xg1 w1 _ a k c.parents hw.get hp) ?_
 intro p q
 refine JO.more (fun w1 ho => ho.pub) ?_
 refine wz9 ?_
 exact Xab (p, q) rfl
def X5z (L : List Commit) (x : ID) : Option Commit := L.find? (fun c => decide (Xnc c = some x))
def X50 (L : List Commit) (x : ID) : Commit × Bool := match X5z L x with | some c => (c, true) | none => (Xdt, false)
end
end
theorem X1s [Dr] {P : Program} {n : Nn} {w0 : World} {F : Nat → Prop} {t : TypeId} {pos : String} {aft : Array Edge} {g : Option (Nat × Bool)} {e : E} {Γ : List Fact} {α : Type} {f : α → Value} {x : Operand} {ty : TypeId} {td : TypeDesc} {sz by_ b o p : Nat} {z : Value} {L : List α} {vs : List Value} {d : Option Nat} (k : Nat)
  [hx : Ev e x (.pointer (some ⟨b, o, none⟩))] [hA : At Γ b p vs] [hT : Ty P ty td sz by_ z] (hvs : vs = L.map f) (h : k < L.length) (ho' : o = p + k) (hsz : sz = 1) [hv : Val td [f (L[k]'h)] (f (L[k]'h))] :
  OpV P n w0 F ⟨d, .load ty x, t, pos, aft, g⟩ e Γ (f (L[k]'h)) :=
 fun a w fr ho => by
  have hr0 := hA.ok w0 F w ho
  have hr : w.rangeAt b o [f (L[k]'h)] := by
   intro j v hj
   cases j with
   | zero =>
    simp only [List.getElem?_cons_zero, Option.some.injEq] at hj
    subst hj
    have := hr0 k (f (L[k]'h)) (by rw [hvs]; simp [h])
    rw [ho']
    exact this
   | succ j => simp at hj
  have hload := Xdq (P := P) (t := ty) (v := f (L[k]'h)) hr (by simp [hsz])
  simp [execOp, hx.ok n a fr, hload]
section
attribute [local irreducible] JC JO JR JQ andThen inBlock OpV Gives Xan JM JS
theorem X1t (a : Option Addr) (c : Nat) (L : List ID) (h : (sl a c L).holds F w) (hl : L.length ≤ 34359738368) :
  GivesBuf prog 52 [.slice a L.length c] w F 81 (Xcm (Xc2 L)) := by
 refine Xaa func52 rfl ntmps52 rfl rfl [.st (sl a c L)] (.start1 h) ?_
 refine wz10 ?_
 refine JR.call1 rfl (fun w1 hw => X21 w1 _ a c L hw.get) ?_
 intro m
 refine JO.more (fun w ho => ho.pubMap) ?_
 refine wz13 ?_
 refine JR.callBuf rfl (fun w1 hw => Xuy w1 _ m _ (Xcs L) (Nat.le_trans (Xf5 L) hl) hw.get) ?_
 intro a2 c2
 refine wz10 ?_
 exact Xab (a2, c2) rfl
section
attribute [local irreducible] ents Xay
abbrev Row := (Commit × List ID) × (Option Addr × Nat × Nat)
def ofM (R : List Row) : List (ID × Value) := R.map fun r => (idC r.1.1, Xax r.1.1 r.2.1 r.2.2.1)
def knM (R : List Row) : List (ID × Value) := R.map fun r => (idC r.1.1, .map (some r.2.2.2))
def grOf (R : List Row) : List (Commit × List ID) := R.map (·.1)
def rowA (r : Row) : List Asn := [sl r.2.1 r.2.2.1 r.1.1.parents, rmap r.2.2.2 (ents idV (sety r.1.2)) r.1.2.length]
def Xbs (R : List Row) : Asn where
 holds F w := ∀ r ∈ R, ∀ A ∈ rowA r, A.holds F w
 mono F G w h hh := fun r hr A hA => A.mono F G w h (hh r hr A hA)
 frame F w w' hk h := fun r hr A hA => A.frame F w w' hk (h r hr A hA)
 within F w h := fun r hr A hA => A.within F w (h r hr A hA)
theorem Xj6 (R : List Row) : Xbc (grOf R) = R.map (·.1.1) := by simp [Xbc, grOf]
theorem Xo3 (R : List Row) : cids (Xbc (grOf R)) = R.map (fun r => idC r.1.1) := by simp [Xj6, cids]
theorem Xl6 (R : List Row) : (ofM R).map (·.1) = cids (Xbc (grOf R)) := by simp [Xo3, ofM]
theorem Xl7 (R : List Row) : (knM R).map (·.1) = cids (Xbc (grOf R)) := by simp [Xo3, knM]
theorem Xvc {R : List Row} {p : ID} (hn : (cids (Xbc (grOf R))).Nodup) (hp : p ∈ cids (Xbc (grOf R))) :
  ∃ r ∈ R, idC r.1.1 = p ∧ Xb1 (ofM R) p = some (Xax r.1.1 r.2.1 r.2.2.1) ∧ Xb1 (knM R) p = some (.map (some r.2.2.2)) ∧ Xe3 (grOf R) p = r.1.2 := by
 rw [Xo3] at hp
 obtain ⟨r, hr, he⟩ := List.mem_map.1 hp
 cases hf : R.find? (fun r => decide (idC r.1.1 = p)) with
 | none => exact absurd (List.find?_eq_none.1 hf r hr) (by simpa using he)
 | some q =>
  have h1 := List.find?_some hf
  have h1' : idC q.1.1 = p := by simpa using h1
  have h2 := List.mem_of_find?_eq_some hf
  refine ⟨q, h2, h1', ?_, ?_, ?_⟩
  ·simp only [Xb1, ofM, List.find?_map, Function.comp_def]
   rw [hf]; rfl
  ·simp only [Xb1, knM, List.find?_map, Function.comp_def]
   rw [hf]; rfl
  ·have := Xk3 (G := grOf R) hn (g := q.1) (List.mem_map.2 ⟨q, h2, rfl⟩)
   rw [← h1']; exact this
theorem Xqd {R : List Row} {p : ID} (hp : p ∉ cids (Xbc (grOf R))) : Xb1 (ofM R) p = none ∧ Xb1 (knM R) p = none := by
 rw [Xo3] at hp
 have hf : R.find? (fun r => decide (idC r.1.1 = p)) = none := by
  rw [List.find?_eq_none]
  intro r hr h
  exact hp (List.mem_map.2 ⟨r, hr, by simpa using h⟩)
 constructor
 ·simp only [Xb1, ofM, List.find?_map, Function.comp_def]
  rw [hf]; rfl
 ·simp only [Xb1, knM, List.find?_map, Function.comp_def]
  rw [hf]; rfl
theorem Xy6 {K : Type} [DecidableEq K] {M : List (K × Value)} {k : K} (v : Value) (h : k ∉ M.map (·.1)) : upd M k v = M ++ [(k, v)] := by
 have : plc M k = none := by
  simp only [plc, List.findIdx?_eq_none_iff, decide_eq_false_iff_not]
  intro p hp e
  exact h (List.mem_map.2 ⟨p, hp, e⟩)
 simp [upd, this]
theorem Xa0 {α : Type} {L : List α} {i : Nat} (h : i < L.length) {x : α} : x ∈ L.take (i + 1) ↔ x ∈ L.take i ∨ x = L[i] := by
 rw [List.take_succ_eq_append_getElem h, List.mem_append, List.mem_singleton]
theorem Xi8 (L : List Commit) (ps : List ID) (p : ID) : Xeu L (ps ++ [p]) = max (Xeu L ps) (Xd4 L p) := by simp [Xeu]
theorem Xod {G : List (Commit × List ID)} {c : Commit} {p : ID} (hp : p ∈ c.parents) (h : p ∉ cids (Xbc G)) : Xqb G c = false := by
 rw [← Bool.not_eq_true, Xhz]; exact fun h' => h (h'.1 p hp)
theorem Xh0 {G : List (Commit × List ID)} {c : Commit} {p q : ID} (hp : p ∈ c.parents) (hq : q ∈ c.parents) (h : p ∈ Xe3 G q) : Xqb G c = false := by
 rw [← Bool.not_eq_true, Xhz]; exact fun h' => h'.2 p hp q hq h
theorem Xgo {R : List Row} {F : Nat → Prop} {w : World} (h : (Xbs R).holds F w) {r : Row} (hr : r ∈ R) : (sl r.2.1 r.2.2.1 r.1.1.parents).holds F w ∧ (rmap r.2.2.2 (ents idV (sety r.1.2)) r.1.2.length).holds F w :=
 ⟨h r hr _ (by simp [rowA]), h r hr _ (by simp [rowA])⟩
theorem Xws {R : List Row} {F : Nat → Prop} {w : World} (h : (Xbs R).holds F w) {c : Commit} {S : List ID} {a : Option Addr} {k b : Nat} (h1 : (sl a k c.parents).holds F w) (h2 : (rmap b (ents idV (sety S)) S.length).holds F w) :
  (Xbs (R ++ [((c, S), (a, k, b))])).holds F w := by
 intro r hr A hA
 rcases List.mem_append.1 hr with hr | hr
 ·exact h r hr A hA
 ·simp only [List.mem_singleton] at hr
  subst hr
  simp only [rowA, List.mem_cons, List.not_mem_nil, or_false] at hA
  rcases hA with rfl | rfl
  ·exact h1
  ·exact h2
theorem Xy7 {F : Nat → Prop} {w : World} : (Xbs []).holds F w := fun r hr => by cases hr
theorem X1u (R : List Row) (c : Commit) (S : List ID) (a : Option Addr) (k b : Nat) : ofM (R ++ [((c, S), (a, k, b))]) = ofM R ++ [(idC c, Xax c a k)] := by simp [ofM]
theorem X1v (R : List Row) (c : Commit) (S : List ID) (a : Option Addr) (k b : Nat) : knM (R ++ [((c, S), (a, k, b))]) = knM R ++ [(idC c, .map (some b))] := by simp [knM]
theorem Xsd (R : List Row) (c : Commit) (S : List ID) (a : Option Addr) (k b : Nat) : grOf (R ++ [((c, S), (a, k, b))]) = grOf R ++ [(c, S)] := by simp [grOf]
end
section
attribute [local irreducible] JN
section
attribute [local irreducible] ents Xay Xbs
abbrev AddY (R : List Row) (c : Commit) := { y : List ID × Nat × Bool // y.2.2 = (Xqb (grOf R) c && Xva (grOf R) c) ∧ (y.2.2 = true → y.1.Nodup ∧ Xtz (grOf R) c y.1) }
abbrev addB (bo bk : Nat) (R : List Row) (c : Commit) (a : Option Addr) (k : Nat) (Γ : List Fact) (S : List ID) (ba : Nat) : List Fact :=
 .omap bo (ents idV (ofM (R ++ [((c, S), (a, k, ba))]))) (ofM (R ++ [((c, S), (a, k, ba))])).length :: .omap bk (ents idV (knM (R ++ [((c, S), (a, k, ba))]))) (knM (R ++ [((c, S), (a, k, ba))])).length :: .st (Xbs (R ++ [((c, S), (a, k, ba))])) :: Γ
theorem Xy8 {w0 w : World} {F : Nat → Prop} {Γ : List Fact} {bo bk : Nat} {R : List Row} {c : Commit} {a : Option Addr} {k : Nat}
  (hn : (cids (Xbc (grOf R))).Nodup) (hS : ∀ r ∈ R, r.1.2.Nodup) (hnew : idC c ∉ cids (Xbc (grOf R))) (hg : ∀ r ∈ R, 0 ≤ r.1.1.gen ∧ r.1.1.gen ≤ 1048576)
  (ho : Hold w0 F (.omap bo (ents idV (ofM R)) (ofM R).length :: .omap bk (ents idV (knM R)) (knM R).length :: .st (Xbs R) :: .st (sl a k c.parents) :: Γ) w) :
  Calls prog 135 ⟨[.agg ⟨[.map (some bo), .map (some bk)]⟩, .agg ⟨idc (idC c)⟩, Xax c a k]⟩ w fun x w' =>
   ∃ y : AddY R c, x = .returned (.bool y.1.2.2) ∧ Hold w0 F (if y.1.2.2 = true then addB bo bk R c a k Γ y.1.1 y.1.2.1 else Γ) w' := by
 have hpl : c.parents.length < 9223372036854775807 := by
  have h1 : (sl a k c.parents).holds _ w := ho.sat (.st (sl a k c.parents)) (by simp)
  have := h1.2.2.1; simp only [lim] at this; omega
 have hkO : ((ofM R).map (·.1)).Nodup := by rw [Xl6]; exact hn
 have hkK : ((knM R).map (·.1)).Nodup := by rw [Xl7]; exact hn
 refine Xb6 (v := fun y : AddY R c => .bool y.1.2.2) (B := fun y => if y.1.2.2 = true then addB bo bk R c a k Γ y.1.1 y.1.2.1 else Γ) func135 rfl ntmps135 rfl rfl _ ho ?_
 (repeat (refine wE ?_; intro _)); refine wA ?_
 rename_i b3 b4 b5
 refine Xkr idV rfl ?_
 intro ba
 refine wA ?_
 refine Xby (fun (i : Nat) (A : List ID) (g : Int) => [(3, .pointer (some ⟨b3, 0, none⟩)), (4, .pointer (some ⟨b4, 0, none⟩)), (5, .pointer (some ⟨b5, 0, none⟩)), (7, .int .i64 g), (8, .map (some ba)), (20, .slice a c.parents.length k), (21, .int .i64 (c.parents.length : Int)), (22, .int .i64 (i : Int))])
  (fun i A g => .omap bo (ents idV (ofM R)) (ofM R).length :: .omap bk (ents idV (knM R)) (knM R).length :: .own b3 101 [.map (some bo), .map (some bk)] :: .own b4 81 (idc (idC c)) :: .own b5 29 [.int .i64 c.ev.node, .int .i64 c.ev.seq, .int .i64 c.gen, .slice a c.parents.length k, .int .i64 c.op.kind, .string c.op.key, .string c.op.elem, .int .i64 c.op.n] :: .omap ba (ents idV (sety A)) A.length :: .st (Xbs R) :: .st (sl a k c.parents) :: Γ)
  (fun i A g => i ≤ c.parents.length ∧ A.Nodup ∧ (∀ p ∈ c.parents.take i, p ∈ cids (Xbc (grOf R))) ∧ (∀ x, x ∈ A ↔ ∃ p ∈ c.parents.take i, x ∈ Xe3 (grOf R) p) ∧ g = Xeu (Xbc (grOf R)) (c.parents.take i) ∧ 0 ≤ g ∧ g ≤ 1048576)
  (fun i _ _ => c.parents.length - i) 0 [] 0 ⟨Nat.zero_le _, List.nodup_nil, by simp, by simp, by simp [Xeu], by decide, by decide⟩ iI ?_
 intro i A g ⟨hi, hA, hin, hmem, hmax, hg0, hg1⟩
 refine wz11 ?_
 refine JC.test (fun hlt => ?_) (fun hge => ?_)
 ·have hlt' : i < c.parents.length := by omega
  refine wz14 ?_
  refine Xa9 rfl hlt' ?_
  intro bp op
  (repeat (refine wE ?_; intro _)); refine wA ?_
  have hpm : c.parents[i] ∈ c.parents := List.getElem_mem hlt'
  by_cases hin' : c.parents[i] ∈ cids (Xbc (grOf R))
  ·obtain ⟨r, hr, hre, hgo, hgk, hkn⟩ := Xvc hn hin'
   have hga : Xd4 (Xbc (grOf R)) c.parents[i] = r.1.1.gen := by
    rw [← hre]; exact Xeq hn (by rw [Xj6]; exact List.mem_map.2 ⟨r, hr, rfl⟩)
   obtain ⟨hr0, hr1⟩ := hg r hr
   refine Wf (Xc5 (M := ofM R) (v := Xax r.1.1 r.2.1 r.2.2.1) (is := true) c.parents[i] hkO (by rw [hgo]; rfl) (by rw [hgo]; rfl)) rfl ?_
   (repeat (refine wE ?_; intro _)); refine wA ?_
   refine Wf (Xh8 (L := A) c.parents[i] hA) rfl ?_
   refine wz7 ?_
   refine JC.test (fun hy => ?_) (fun hno => ?_)
   ·obtain ⟨q, hq, hqk⟩ := (hmem _).1 (by simpa using hy)
    refine wz5 ?_
    exact CT.done ⟨([], 0, false), by rw [Xh0 hpm (List.mem_of_mem_take hq) hqk]; rfl, by simp⟩ rfl (fun w ho => (ho.ent : Hold w0 F Γ w))
   ·refine wz1 ?_
    refine Wf OpV.max rfl ?_
    refine wz9 ?_
    refine Wf (Xcp (M := knM R) (v := .map (some r.2.2.2)) c.parents[i] hkK (by rw [hgk]; rfl)) rfl ?_
    refine JO.more (fun w1 ho => ho.add (A := rmap r.2.2.2 (ents idV (sety r.1.2)) r.1.2.length) (Xgo (ho.get (A := Xbs R)) hr).2) ?_
    refine We rfl ?_
    refine Xmp rfl ?_
    intro ri
    refine wz4 ?_
    refine Xcz (fun (S : List Nat) (A' : List ID) => [(3, .pointer (some ⟨b3, 0, none⟩)), (4, .pointer (some ⟨b4, 0, none⟩)), (5, .pointer (some ⟨b5, 0, none⟩)), (7, .int .i64 (max g r.1.1.gen)), (8, .map (some ba)), (20, .slice a c.parents.length k), (21, .int .i64 (c.parents.length : Int)), (22, .int .i64 (i : Int)), (48, .pointer (some ⟨ri, 0, none⟩))])
     (fun S A' => .omap bo (ents idV (ofM R)) (ofM R).length :: .omap bk (ents idV (knM R)) (knM R).length :: .own b3 101 [.map (some bo), .map (some bk)] :: .own b4 81 (idc (idC c)) :: .own b5 29 [.int .i64 c.ev.node, .int .i64 c.ev.seq, .int .i64 c.gen, .slice a c.parents.length k, .int .i64 c.op.kind, .string c.op.key, .string c.op.elem, .int .i64 c.op.n] :: .omap ba (ents idV (sety A')) A'.length :: .obj ri (.mapIter (some r.2.2.2) r.1.2.length S.toArray r.1.2.length) :: .st (rmap r.2.2.2 (ents idV (sety r.1.2)) r.1.2.length) :: .st (Xbs R) :: .st (sl a k c.parents) :: Γ)
     (fun S A' => S.Nodup ∧ (∀ j ∈ S, j < r.1.2.length) ∧ A'.Nodup ∧ ∀ x, x ∈ A' ↔ x ∈ A ∨ ∃ j ∈ S, r.1.2[j]? = some x)
     (fun S _ => r.1.2.length - S.length) [] A ⟨List.nodup_nil, by simp, hA, by simp⟩ iI ?_
    intro S A' ⟨hS1, hS2, hA', hmem'⟩
    have hSl : S.length ≤ r.1.2.length := Xf6 hS1 hS2
    refine wz14 ?_
    refine Xpu rfl hS2 (fun hall => ?_) (fun j hj hjS => ?_)
    ·refine wA ?_
     refine ⟨i + 1, A', max g r.1.1.gen, ⟨by omega, hA', fun p hp => ?_, fun x => ?_, ?_, by omega, by omega⟩, by omega, iI⟩
     ·rcases (Xa0 hlt').1 hp with hp | rfl
      ·exact hin p hp
      ·exact hin'
     ·rw [hmem', hmem]
      constructor
      ·rintro (⟨q, hq, hx⟩ | ⟨j, hj, hx⟩)
       ·exact ⟨q, (Xa0 hlt').2 (.inl hq), hx⟩
       ·exact ⟨c.parents[i], (Xa0 hlt').2 (.inr rfl), by rw [hkn]; exact List.mem_of_getElem? hx⟩
      ·rintro ⟨q, hq, hx⟩
       rcases (Xa0 hlt').1 hq with hq | rfl
       ·exact .inl ⟨q, hq, hx⟩
       ·rw [hkn] at hx
        obtain ⟨j, hj, rfl⟩ := List.getElem_of_mem hx
        exact .inr ⟨j, hall j hj, List.getElem?_eq_getElem hj⟩
     ·rw [List.take_succ_eq_append_getElem hlt', Xi8, ← hmax, hga]
    ·refine wA ?_
     refine Wf (Xkt hj) rfl ?_
     (repeat (refine wE ?_; intro _)); refine wA ?_
     refine Xjn r.1.2[j] hA' ?_
     have hS3 : (S ++ [j]).Nodup := List.nodup_append.2 ⟨hS1, by simp, fun x hx y hy => by simp at hy; subst hy; exact fun e => hjS (e ▸ hx)⟩
     have hS4 : ∀ i ∈ S ++ [j], i < r.1.2.length := fun i hi => by
      rcases List.mem_append.1 hi with hi | hi
      ·exact hS2 i hi
      ·simp at hi; subst hi; exact hj
     have hlt2 := Xf6 hS3 hS4
     refine wz2 ?_
     refine ⟨S ++ [j], addK A' r.1.2[j], ⟨hS3, hS4, Xks hA' _, fun x => ?_⟩, by simp at hlt2 ⊢; omega, iI⟩
     rw [Xpt, hmem']
     constructor
     ·rintro ((h | ⟨q, hq, hx⟩) | rfl)
      ·exact .inl h
      ·exact .inr ⟨q, by simp [hq], hx⟩
      ·exact .inr ⟨j, by simp, List.getElem?_eq_getElem hj⟩
     ·rintro (h | ⟨q, hq, hx⟩)
      ·exact .inl (.inl h)
      ·rcases List.mem_append.1 hq with hq | hq
       ·exact .inl (.inr ⟨q, hq, hx⟩)
       ·simp at hq; subst hq
        rw [List.getElem?_eq_getElem hj] at hx
        injection hx with hx
        exact .inr hx.symm
  ·obtain ⟨hgo, hgk⟩ := Xqd hin'
   refine Wf (Xc5 (M := ofM R) (v := .agg ⟨[.int .i64 0, .int .i64 0, .int .i64 0, .slice none 0 0, .int .i64 0, .string .empty, .string .empty, .int .i64 0]⟩) (is := false) c.parents[i] hkO (by rw [hgo]; rfl) (by rw [hgo]; rfl)) rfl ?_
   (repeat (refine wF ?_; intro _)); refine wX ?_
   exact CT.done ⟨([], 0, false), by rw [Xod hpm hin']; rfl, by simp⟩ rfl (fun w ho => (ho.ent : Hold w0 F Γ w))
 ·obtain rfl : i = c.parents.length := by omega
  rw [List.take_length] at hin hmem hmax
  refine wA ?_
  refine Xap (fun (i : Nat) => [(3, .pointer (some ⟨b3, 0, none⟩)), (4, .pointer (some ⟨b4, 0, none⟩)), (5, .pointer (some ⟨b5, 0, none⟩)), (7, .int .i64 g), (8, .map (some ba)), (57, .slice a c.parents.length k), (58, .int .i64 (c.parents.length : Int)), (59, .int .i64 (i : Int))])
   (fun i => .omap bo (ents idV (ofM R)) (ofM R).length :: .omap bk (ents idV (knM R)) (knM R).length :: .own b3 101 [.map (some bo), .map (some bk)] :: .own b4 81 (idc (idC c)) :: .own b5 29 [.int .i64 c.ev.node, .int .i64 c.ev.seq, .int .i64 c.gen, .slice a c.parents.length k, .int .i64 c.op.kind, .string c.op.key, .string c.op.elem, .int .i64 c.op.n] :: .omap ba (ents idV (sety A)) A.length :: .st (Xbs R) :: .st (sl a k c.parents) :: Γ)
   (fun i => i ≤ c.parents.length ∧ ∀ p ∈ c.parents.take i, p ∉ A) (fun i => c.parents.length - i) 0 ⟨Nat.zero_le _, by simp⟩ iI ?_
  intro i ⟨hi, hfree⟩
  refine wz11 ?_
  refine JC.test (fun hlt => ?_) (fun hge => ?_)
  ·have hlt' : i < c.parents.length := by omega
   refine wz14 ?_
   refine Xa9 rfl hlt' ?_
   intro bp op
   (repeat (refine wE ?_; intro _)); refine wA ?_
   refine Wf (Xh8 (L := A) c.parents[i] hA) rfl ?_
   refine wz10 ?_
   refine JC.test (fun hy => ?_) (fun hno => ?_)
   ·obtain ⟨q, hq, hqk⟩ := (hmem _).1 (by simpa using hy)
    refine wz5 ?_
    exact CT.done ⟨([], 0, false), by rw [Xh0 (List.getElem_mem hlt') hq hqk]; rfl, by simp⟩ rfl (fun w ho => (ho.ent : Hold w0 F Γ w))
   ·refine wz2 ?_
    refine ⟨i + 1, ⟨by omega, fun p hp => ?_⟩, by omega, iI⟩
    rcases (Xa0 hlt').1 hp with hp | rfl
    ·exact hfree p hp
    ·simpa using hno
  ·obtain rfl : i = c.parents.length := by omega
   rw [List.take_length] at hfree
   have hok : Xqb (grOf R) c = true := (Xhz _ _).2 ⟨hin, fun p hp q hq hk => hfree p hp ((hmem p).2 ⟨q, hq, hk⟩)⟩
   refine wA ?_
   refine Xcz (fun (i : Nat) (A' : List ID) => [(3, .pointer (some ⟨b3, 0, none⟩)), (4, .pointer (some ⟨b4, 0, none⟩)), (5, .pointer (some ⟨b5, 0, none⟩)), (7, .int .i64 g), (8, .map (some ba)), (68, .slice a c.parents.length k), (69, .int .i64 (c.parents.length : Int)), (70, .int .i64 (i : Int))])
    (fun i A' => .omap bo (ents idV (ofM R)) (ofM R).length :: .omap bk (ents idV (knM R)) (knM R).length :: .own b3 101 [.map (some bo), .map (some bk)] :: .own b4 81 (idc (idC c)) :: .own b5 29 [.int .i64 c.ev.node, .int .i64 c.ev.seq, .int .i64 c.gen, .slice a c.parents.length k, .int .i64 c.op.kind, .string c.op.key, .string c.op.elem, .int .i64 c.op.n] :: .omap ba (ents idV (sety A')) A'.length :: .st (Xbs R) :: .st (sl a k c.parents) :: Γ)
    (fun i A' => i ≤ c.parents.length ∧ A'.Nodup ∧ ∀ x, x ∈ A' ↔ x ∈ A ∨ x ∈ c.parents.take i) (fun i _ => c.parents.length - i) 0 A ⟨Nat.zero_le _, hA, by simp⟩ iI ?_
   intro i A' ⟨hi, hA', hmem'⟩
   refine wz11 ?_
   refine JC.test (fun hlt => ?_) (fun hge => ?_)
   ·have hlt' : i < c.parents.length := by omega
    refine wz14 ?_
    refine Xa9 rfl hlt' ?_
    intro bp op
    (repeat (refine wE ?_; intro _)); refine wA ?_
    refine Xjn c.parents[i] hA' ?_
    refine wz2 ?_
    refine ⟨i + 1, addK A' c.parents[i], ⟨by omega, Xks hA' _, fun x => ?_⟩, by omega, iI⟩
    rw [Xpt, hmem', Xa0 hlt', or_assoc]
   ·obtain rfl : i = c.parents.length := by omega
    rw [List.take_length] at hmem'
    refine wz3 ?_
    have hkn : Xtz (grOf R) c A' := fun x => by
     rw [hmem', hmem]
     constructor
     ·rintro (⟨q, hq, hx⟩ | h)
      ·exact ⟨q, hq, .inr hx⟩
      ·exact ⟨x, h, .inl rfl⟩
     ·rintro ⟨q, hq, (rfl | hx)⟩
      ·exact .inr hq
      ·exact .inl ⟨q, hq, hx⟩
    have eO : upd (ofM R) (idC c) (.agg ⟨[.int .i64 c.ev.node, .int .i64 c.ev.seq, .int .i64 c.gen, .slice a c.parents.length k, .int .i64 c.op.kind, .string c.op.key, .string c.op.elem, .int .i64 c.op.n]⟩) = ofM (R ++ [((c, A'), (a, k, ba))]) := by
     rw [Xy6 _ (by rw [Xl6]; exact hnew), X1u]
    have eK : upd (knM R) (idC c) (.map (some ba)) = knM (R ++ [((c, A'), (a, k, ba))]) := by
     rw [Xy6 _ (by rw [Xl7]; exact hnew), X1v]
    refine Xjp [.own b3 101 [.map (some bo), .map (some bk)], .own b4 81 (idc (idC c)), .own b5 29 [.int .i64 c.ev.node, .int .i64 c.ev.seq, .int .i64 c.gen, .slice a c.parents.length k, .int .i64 c.op.kind, .string c.op.key, .string c.op.elem, .int .i64 c.op.n]] mixed ?_
    refine JN.take 0 rfl (by kernel_rfl) rfl Vd rfl rfl ?_
    refine JN.take 1 rfl (by kernel_rfl) rfl Vc rfl rfl ?_
    refine JN.take 2 rfl (by kernel_rfl) rfl Vc rfl rfl ?_
    refine JN.take 3 rfl (by kernel_rfl) rfl Vd rfl rfl ?_
    refine JN.take 4 rfl (by kernel_rfl) rfl Vc rfl rfl ?_
    refine JN.take 5 rfl (by kernel_rfl) rfl Vc rfl rfl ?_
    refine JN.take 6 rfl (by kernel_rfl) rfl Vc rfl rfl ?_
    refine JN.take 7 rfl (by kernel_rfl) rfl Va rfl rfl ?_
    refine JN.op 8 (by kernel_rfl) rfl rfl (Xe8 (M := ofM R) (k := idC c) (.inl rfl) hkO (Wd ⟨rfl, iI, ?_⟩))
    refine JN.op 9 (by kernel_rfl) rfl rfl (Xe8 (M := knM R) (k := idC c) (.inl rfl) hkK (Wd ⟨rfl, iI, ?_⟩))
    refine JN.nil (by kernel_rfl) ?_
    rw [eO, eK]
    refine wA ?_
    refine CT.done ⟨(A', ba, decide (c.gen = g + 1)), by rw [hok, hmax]; rfl, fun _ => ⟨hA', hkn⟩⟩ rfl (fun w ho => ?_)
    have h1 : Hold _ _ (.omap ba (ents idV (sety A')) A'.length :: .omap bo (ents idV (ofM (R ++ [((c, A'), (a, k, ba))]))) (ofM (R ++ [((c, A'), (a, k, ba))])).length :: .omap bk (ents idV (knM (R ++ [((c, A'), (a, k, ba))]))) (knM (R ++ [((c, A'), (a, k, ba))])).length :: .st (Xbs R) :: .st (sl a k c.parents) :: Γ) w := ho.ent
    have h2 := h1.pubMap
    have h3 := h2.add (Xws (S := A') (h2.get (A := Xbs R)) (h2.get (A := sl a k c.parents)) (h2.get (A := rmap ba (ents idV (sety A')) A'.length)))
    by_cases hb : c.gen = g + 1
    ·rw [if_pos (by simpa using hb)]; exact h3.ent
    ·rw [if_neg (by simpa using hb)]; exact h3.ent
end
end
section
attribute [local irreducible] ents Xay Xbs
def Xgp (r s : Row) : Bool := decide (idC r.1.1 ≠ idC s.1.1) && decide (r.1.1.ev.node = s.1.1.ev.node) && (decide (r.1.1.ev.seq = s.1.1.ev.seq) || (decide (s.1.1.ev.seq < r.1.1.ev.seq) && decide (idC s.1.1 ∉ r.1.2)))
def evG (R : List Row) : Bool := R.all fun r => R.all fun s => !Xgp r s
theorem Xy9 (R : List Row) (j : Nat) (h : j < (ofM R).length) : (ofM R)[j] = (idC (R[j]'(by simpa [ofM] using h)).1.1, Xax (R[j]'(by simpa [ofM] using h)).1.1 (R[j]'(by simpa [ofM] using h)).2.1 (R[j]'(by simpa [ofM] using h)).2.2.1) := by simp [ofM]
theorem Xie (R : List Row) : (ofM R).length = R.length := by simp [ofM]
theorem Xse {R : List Row} {r s : Row} (hr : r ∈ R) (hs : s ∈ R) (h : Xgp r s = true) : evG R = false := by
 rw [← Bool.not_eq_true]
 intro he
 have := List.all_eq_true.1 (List.all_eq_true.1 he r hr) s hs
 rw [h] at this; cases this
theorem Xsf (bo bk : Nat) (R : List Row) (hn : (cids (Xbc (grOf R))).Nodup) (hS : ∀ r ∈ R, r.1.2.Nodup)
  (h1 : (rmap bo (ents idV (ofM R)) (ofM R).length).holds F w) (h2 : (rmap bk (ents idV (knM R)) (knM R).length).holds F w) (h3 : (Xbs R).holds F w) :
  GivesV prog 136 [.agg ⟨[.map (some bo), .map (some bk)]⟩] w F (.bool (evG R)) := by
 have hkK : ((knM R).map (·.1)).Nodup := by rw [Xl7]; exact hn
 refine Xaa func136 rfl ntmps136 rfl rfl [.st (rmap bo (ents idV (ofM R)) (ofM R).length), .st (rmap bk (ents idV (knM R)) (knM R).length), .st (Xbs R)] (.start3 h1 h2 h3) ?_
 (repeat (refine wE ?_; intro _)); refine wA ?_
 rename_i bg
 refine JR.range (M := ofM R) rfl ?_
 intro r1
 refine wz4 ?_
 refine Xap (fun (S : List Nat) => [(1, .pointer (some ⟨bg, 0, none⟩)), (9, .pointer (some ⟨r1, 0, none⟩))])
  (fun S => [.obj r1 (.mapIter (some bo) (ofM R).length S.toArray (ofM R).length), .own bg 101 [.map (some bo), .map (some bk)], .st (rmap bo (ents idV (ofM R)) (ofM R).length), .st (rmap bk (ents idV (knM R)) (knM R).length), .st (Xbs R)])
  (fun S => S.Nodup ∧ (∀ j ∈ S, j < (ofM R).length) ∧ ∀ j ∈ S, ∀ hj : j < R.length, ∀ s ∈ R, Xgp R[j] s = false) (fun S => (ofM R).length - S.length) [] ⟨List.nodup_nil, by simp, by simp⟩ iI ?_
 intro S ⟨hS1, hS2, hok⟩
 refine wz14 ?_
 refine JR.next (M := ofM R) rfl hS2 (fun hall => ?_) (fun j hj hjS => ?_)
 ·have e1 : evG R = true := by
   refine List.all_eq_true.2 fun r hr => List.all_eq_true.2 fun s hs => ?_
   obtain ⟨j, hj, rfl⟩ := List.getElem_of_mem hr
   rw [hok j (hall j (by rw [Xie]; exact hj)) hj s hs]; rfl
  rw [e1]
  refine wA ?_
  exact Xab () rfl
 ·have hjR : j < R.length := by rw [Xie] at hj; exact hj
  obtain ⟨r, hr⟩ : ∃ r, r = R[j] := ⟨_, rfl⟩
  have hrm : r ∈ R := by rw [hr]; exact List.getElem_mem hjR
  have eg := Xy9 R j hj
  rw [← hr] at eg
  have hS3 : (S ++ [j]).Nodup := List.nodup_append.2 ⟨hS1, by simp, fun x hx y hy => by simp at hy; subst hy; exact fun e => hjS (e ▸ hx)⟩
  have hS4 : ∀ i ∈ S ++ [j], i < (ofM R).length := fun i hi => by
   rcases List.mem_append.1 hi with hi | hi
   ·exact hS2 i hi
   ·simp at hi; subst hi; exact hj
  have hlt2 := Xf6 hS3 hS4
  refine wA ?_
  refine Wf (OpV.entry (M := ofM R) hj) rfl ?_
  refine JO.reslot 12 (.tuple ⟨[idV (idC r.1.1), Xax r.1.1 r.2.1 r.2.2.1]⟩) (by rw [eg]) ?_
  refine JO.more (fun w1 ho => (ho.add (A := sl r.2.1 r.2.2.1 r.1.1.parents) (Xgo (ho.get (A := Xbs R)) hrm).1).add (A := rmap r.2.2.2 (ents idV (sety r.1.2)) r.1.2.length) (Xgo (ho.add (A := sl r.2.1 r.2.2.1 r.1.1.parents) (Xgo (ho.get (A := Xbs R)) hrm).1 |>.get (A := Xbs R)) hrm).2) ?_
  (repeat (refine wE ?_; intro _)); refine wA ?_
  rename_i b3 b4
  refine JR.range (M := ofM R) rfl ?_
  intro r2
  refine wz4 ?_
  refine Xap (fun (S2 : List Nat) => [(1, .pointer (some ⟨bg, 0, none⟩)), (9, .pointer (some ⟨r1, 0, none⟩)), (3, .pointer (some ⟨b3, 0, none⟩)), (4, .pointer (some ⟨b4, 0, none⟩)), (17, .pointer (some ⟨r2, 0, none⟩))])
   (fun S2 => [.obj r2 (.mapIter (some bo) (ofM R).length S2.toArray (ofM R).length), .own b3 81 (idc (idC r.1.1)), .own b4 29 [.int .i64 r.1.1.ev.node, .int .i64 r.1.1.ev.seq, .int .i64 r.1.1.gen, .slice r.2.1 r.1.1.parents.length r.2.2.1, .int .i64 r.1.1.op.kind, .string r.1.1.op.key, .string r.1.1.op.elem, .int .i64 r.1.1.op.n],
    .obj r1 (.mapIter (some bo) (ofM R).length (S ++ [j]).toArray (ofM R).length), .own bg 101 [.map (some bo), .map (some bk)], .st (rmap r.2.2.2 (ents idV (sety r.1.2)) r.1.2.length), .st (rmap bo (ents idV (ofM R)) (ofM R).length), .st (rmap bk (ents idV (knM R)) (knM R).length), .st (Xbs R)])
   (fun S2 => S2.Nodup ∧ (∀ j ∈ S2, j < (ofM R).length) ∧ ∀ j ∈ S2, ∀ hj : j < R.length, Xgp r R[j] = false) (fun S2 => (ofM R).length - S2.length) [] ⟨List.nodup_nil, by simp, by simp⟩ iI ?_
  intro S2 ⟨hT1, hT2, hok2⟩
  refine wz14 ?_
  refine JR.next (M := ofM R) rfl hT2 (fun hall => ?_) (fun i hi hiS => ?_)
  ·refine wA ?_
   refine ⟨S ++ [j], ⟨hS3, hS4, fun x hx hxR s hs => ?_⟩, by simp at hlt2 ⊢; omega, iI⟩
   rcases List.mem_append.1 hx with hx | hx
   ·exact hok x hx hxR s hs
   ·simp only [List.mem_singleton] at hx
    subst hx
    obtain ⟨y, hy, rfl⟩ := List.getElem_of_mem hs
    rw [← hr]
    exact hok2 y (hall y (by rw [Xie]; exact hy)) hy
  ·have hiR : i < R.length := by rw [Xie] at hi; exact hi
   obtain ⟨s, hs⟩ : ∃ s, s = R[i] := ⟨_, rfl⟩
   have hsm : s ∈ R := by rw [hs]; exact List.getElem_mem hiR
   have eg2 := Xy9 R i hi
   rw [← hs] at eg2
   have hT3 : (S2 ++ [i]).Nodup := List.nodup_append.2 ⟨hT1, by simp, fun x hx y hy => by simp at hy; subst hy; exact fun e => hiS (e ▸ hx)⟩
   have hT4 : ∀ x ∈ S2 ++ [i], x < (ofM R).length := fun x hx => by
    rcases List.mem_append.1 hx with hx | hx
    ·exact hT2 x hx
    ·simp at hx; subst hx; exact hi
   have hlt3 := Xf6 hT3 hT4
   have next : Xgp r s = false → ∀ x ∈ S2 ++ [i], ∀ hx : x < R.length, Xgp r R[x] = false := fun hb x hx hxR => by
    rcases List.mem_append.1 hx with hx | hx
    ·exact hok2 x hx hxR
    ·simp only [List.mem_singleton] at hx; subst hx; rw [← hs]; exact hb
   refine wA ?_
   refine Wf (OpV.entry (M := ofM R) hi) rfl ?_
   refine JO.reslot 20 (.tuple ⟨[idV (idC s.1.1), Xax s.1.1 s.2.1 s.2.2.1]⟩) (by rw [eg2]) ?_
   refine JO.more (fun w1 ho => ho.add (A := sl s.2.1 s.2.2.1 s.1.1.parents) (Xgo (ho.get (A := Xbs R)) hsm).1) ?_
   (repeat (refine wE ?_; intro _)); refine wA ?_
   refine JO.test 26 (fun he => ?_) (fun he => ?_)
   ·have hb : Xgp r s = false := by simp [Xgp, he]
    refine wz12 ?_
    exact ⟨S2 ++ [i], ⟨hT3, hT4, next hb⟩, by simp at hlt3 ⊢; omega, iI⟩
   refine wX ?_
   refine JC.test (fun hnd => ?_) (fun hnd => ?_)
   ·have hb : Xgp r s = false := by simp only [ne_eq] at hnd; simp [Xgp, hnd]
    refine wz3 ?_
    exact ⟨S2 ++ [i], ⟨hT3, hT4, next hb⟩, by simp at hlt3 ⊢; omega, iI⟩
   have hnd' : r.1.1.ev.node = s.1.1.ev.node := by simpa using hnd
   refine wz14 ?_
   have hgk : Xb1 (knM R) (idC r.1.1) = some (.map (some r.2.2.2)) := by
    obtain ⟨q, hq, hqe, _, hqk, _⟩ := Xvc hn (p := idC r.1.1) (by rw [Xo3]; exact List.mem_map.2 ⟨r, hrm, rfl⟩)
    have : q = r := by
     obtain ⟨x, hx, hxq⟩ := List.getElem_of_mem hq
     obtain ⟨y, hy, hyr⟩ := List.getElem_of_mem hrm
     rw [Xo3] at hn
     rcases Nat.lt_trichotomy x y with h | h | h
     ·have := List.pairwise_iff_getElem.1 hn x y (by simpa using hx) (by simpa using hy) h
      simp [hxq, hyr, hqe] at this
     ·subst h; rw [← hxq, ← hyr]
     ·have := List.pairwise_iff_getElem.1 hn y x (by simpa using hy) (by simpa using hx) h
      simp [hxq, hyr, hqe] at this
    rw [← this]; rw [this] at hqk ⊢; exact hqk
   refine Xa6 mixed (by kernel_rfl) ?_
   refine wY ?_
   by_cases hsq : r.1.1.ev.seq = s.1.1.ev.seq
   ·have hb : Xgp r s = true := by simp [Xgp, he, hnd', hsq]
    refine JQ.reslot 42 (.bool true) (by simp [hsq]) ?_
    refine wY ?_
    refine wz8 ?_
    rw [Xse hrm hsm hb]
    exact Xab () rfl
   refine JQ.reslot 42 (.bool false) (by simp [hsq]) ?_
   refine wY ?_
   by_cases hlt : s.1.1.ev.seq < r.1.1.ev.seq
   ·refine JQ.reslot 50 (.bool true) (by simp [hlt]) ?_
    refine wY ?_
    refine Wy rfl (Xcp (M := knM R) (v := .map (some r.2.2.2)) (idC r.1.1) hkK (by rw [hgk]; rfl)) rfl ?_
    refine wY ?_
    refine Wy rfl (Xh8 (L := r.1.2) (idC s.1.1) (hS r hrm)) rfl ?_
    refine wY ?_
    refine wz13 ?_
    refine JC.test (fun hk => ?_) (fun hk => ?_)
    ·have hb : Xgp r s = true := by
      have hk' : idC s.1.1 ∉ r.1.2 := by simpa using hk
      simp [Xgp, he, hnd', hlt, hk']
     refine wz5 ?_
     rw [Xse hrm hsm hb]
     exact Xab () rfl
    ·have hb : Xgp r s = false := by
      have hk' : idC s.1.1 ∈ r.1.2 := by simpa using hk
      simp [Xgp, hsq, hk']
     refine wz2 ?_
     exact ⟨S2 ++ [i], ⟨hT3, hT4, next hb⟩, by simp at hlt3 ⊢; omega, iI⟩
   ·have hb : Xgp r s = false := by simp [Xgp, hsq, hlt]
    refine JQ.reslot 50 (.bool false) (by simp [hlt]) ?_
    refine wY ?_
    refine wz2 ?_
    exact ⟨S2 ++ [i], ⟨hT3, hT4, next hb⟩, by simp at hlt3 ⊢; omega, iI⟩
end
def cmpI (a b : Int) : Int := if a < b then -1 else if b < a then 1 else 0
theorem Xza [Dr] (a : Int) : GivesV prog 139 [.int .i64 a] w F (.bool false) := by
 refine Xaa func139 rfl ntmps139 rfl rfl [] (.start w F) ?_
 refine wA ?_
 exact Xab () (by simp [Xae])
theorem Xnh [Dr] (a b : Int) : GivesV prog 72 [.int .i64 a, .int .i64 b] w F (.int .i64 (cmpI a b)) := by
 refine Xaa func72 rfl ntmps72 rfl rfl [] (.start w F) ?_
 refine wz10 ?_
 refine JR.callV rfl (fun w1 hw => Xza w1 _ a) ?_
 refine wz10 ?_
 refine JR.callV rfl (fun w1 hw => Xza w1 _ b) ?_
 refine wz2 ?_
 refine JC.test (fun h => ?_) (fun h => ?_)
 ·have e1 : cmpI a b = -1 := by simp [cmpI, h]
  rw [e1]
  refine wz9 ?_
  exact Xab () rfl
 refine wA ?_
 refine JC.test (fun h' => ?_) (fun h' => ?_)
 ·have e1 : cmpI a b = 1 := by simp [cmpI, h, h']
  rw [e1]
  refine wz9 ?_
  exact Xab () rfl
 ·have e1 : cmpI a b = 0 := by simp [cmpI, h, h']
  rw [e1]
  refine wz1 ?_
  exact Xab () rfl
def orL : List Int → Int
 | [] => 0
 | x :: l => if x ≠ 0 then x else orL l
theorem Xvd (L : List Int) (k : Nat) (hk : k ≤ L.length) (h : ∀ j (hj : j < L.length), j < k → L[j] = 0) : orL L = orL (L.drop k) := by
 induction k generalizing L with
 | zero => rfl
 | succ k ih =>
  cases L with
  | nil => simp at hk
  | cons x L =>
   have h0 : x = 0 := h 0 (by simp) (by omega)
   have := ih L (by simpa using hk) (fun j hj hjk => h (j + 1) (by simpa using hj) (by omega))
   simp [orL, h0, this]
theorem X5b [Dr] (a : Option Addr) (k : Nat) (L : List Int) (h : (sl a k L).holds F w) : GivesV prog 71 [.slice a L.length k] w F (.int .i64 (orL L)) := by
 have hL : L.length < 9223372036854775807 := by have := h.2.2.1; simp only [lim] at this; omega
 refine Xaa func71 rfl ntmps71 rfl rfl [.st (sl a k L)] (.start1 h) ?_
 refine wz4 ?_
 refine Xap (fun i : Nat => [(3, .int .i64 0), (6, .slice a L.length k), (7, .int .i64 (L.length : Int)), (8, .int .i64 (i : Int))]) (fun i => [.st (sl a k L)])
  (fun i => i ≤ L.length ∧ ∀ j (hj : j < L.length), j < i → L[j] = 0) (fun i => L.length - i) 0 ⟨Nat.zero_le _, fun j hj h => by omega⟩ iI ?_
 intro i ⟨hi, hz⟩
 refine wz11 ?_
 refine JC.test (fun hlt => ?_) (fun hge => ?_)
 ·have hlt' : i < L.length := by omega
  refine wz14 ?_
  refine Xi3 rfl hlt' ?_
  intro b o
  refine wA ?_
  refine JC.test (fun h0 => ?_) (fun h0 => ?_)
  ·have e1 : orL L = L[i] := by
    rw [Xvd L i hi hz, List.drop_eq_getElem_cons hlt']
    simp [orL, h0]
   rw [e1]
   refine wz5 ?_
   exact Xab () rfl
  ·refine wz2 ?_
   refine ⟨i + 1, ⟨by omega, fun j hj hji => ?_⟩, by omega, iI⟩
   by_cases hj' : j = i
   ·subst hj'; simpa using h0
   ·exact hz j hj (by omega)
 ·have e1 : orL L = 0 := by rw [Xvd L i hi hz, List.drop_of_length_le (by omega)]; rfl
  rw [e1]
  refine wz3 ?_
  exact Xab () rfl
theorem X33 [Dr] (w : World) (F : Nat → Prop) (a : Option Addr) (k bl : Nat) (L : List Commit) (i j : Nat) (hi : i < L.length) (hj : j < L.length) (h : (sl a k L).holds F w) (hb : (ro bl 0 [.slice a L.length k]).holds F w) :
  GivesV prog 134 [.int .i64 (i : Int), .int .i64 (j : Int), .pointer (some ⟨bl, 0, none⟩)] w F (.int .i64 (cmpI L[i].gen L[j].gen)) := by
 refine Xaa func134 rfl ntmps134 rfl rfl [.st (sl a k L), .st (ro bl 0 [.slice a L.length k])] (.start2 h hb) ?_
 refine wz10 ?_
 refine Xa7 (L := L) (.slice a L.length k) i hi ?_
 intro b1 o1 p1 q1
 refine Xa7 (L := L) (.slice a L.length k) j hj ?_
 intro b2 o2 p2 q2
 refine Xa6 mixed (by kernel_rfl) ?_
 refine wQ ?_
 refine JQ.call rfl rfl (fun w1 hw => Xnh w1 _ (L[i]).gen (L[j]).gen) ?_
 refine wQ ?_
 refine wz13 ?_
 exact Xab () rfl
theorem Hold.start4 [Dr] {A B C D : Asn} {w : World} {F : Nat → Prop} (h : A.holds F w) (h2 : B.holds F w) (h3 : C.holds F w) (h4 : D.holds F w) : Hold w F [.st A, .st B, .st C, .st D] w :=
 (Hold.start3 h2 h3 h4).add (Asn.mono _ _ _ _ (fun k hk => ⟨.inl hk, by simp [free, Fact.owns]⟩) h)
theorem X34 {w : World} {b : Nat} {L : List Int} {t : TypeId} (h : w.heap[b]? = some (.cells (L.map (fun n => Value.int .i64 n)).toArray t (0, 0))) (hmax : L.length ≤ 4096) : (sl (some ⟨b, 0, none⟩) L.length L).holds (fun _ => True) w := by
 refine ⟨by omega, by simp [maxLen]; omega, by simp only [lim]; omega, fun hne => ⟨b, 0, rfl, trivial, (Array.getElem?_eq_some_iff.1 h).1, fun i hi => ⟨(), ?_, by simp [Cell.facts]⟩⟩⟩
 intro j v hj
 simp only [Cell.cells, List.getElem?_singleton] at hj
 split at hj
 ·rename_i h0; subst h0
  injection hj with hj
  subst hj
  rw [cell_of_row w b _ _ _ _ h]
  simp [Cell.sz, hi]
 ·cases hj
theorem Xt1 [Dr] (w : World) (F : Nat → Prop) (a c : Option Addr) (k m bl ba : Nat) (L : List Commit) (I : List ID) (i j : Nat) (hi : i < L.length) (hj : j < L.length) (hi' : i < I.length) (hj' : j < I.length)
  (h : (sl a k L).holds F w) (hb : (ro bl 0 [.slice a L.length k]).holds F w) (h' : (sl c m I).holds F w) (hb' : (ro ba 0 [.slice c I.length m]).holds F w) :
  GivesV prog 70 [.int .i64 (i : Int), .int .i64 (j : Int), .pointer (some ⟨bl, 0, none⟩), .pointer (some ⟨ba, 0, none⟩)] w F (.int .i64 (orL [cmpI L[i].gen L[j].gen, Xgz I[i] I[j]])) := by
 refine Xaa func70 rfl ntmps70 rfl rfl [.st (sl a k L), .st (ro bl 0 [.slice a L.length k]), .st (sl c m I), .st (ro ba 0 [.slice c I.length m])] (.start4 h hb h' hb') ?_
 refine wz10 ?_
 refine Xa7 (L := L) (.slice a L.length k) i hi ?_
 intro b1 o1 p1 q1
 refine Xa7 (L := L) (.slice a L.length k) j hj ?_
 intro b2 o2 p2 q2
 refine Xbq (L := I) (.slice c I.length m) i hi' ?_
 intro b3 o3
 refine Xbq (L := I) (.slice c I.length m) j hj' ?_
 intro b4 o4
 refine Xck 20 mixed ?_
 refine JM.tv 0 ?_
 refine JM.tv 1 ?_
 refine JM.tv 2 ?_
 refine JM.tv 3 ?_
 refine JM.tv 4 ?_
 refine JM.tv 5 ?_
 refine JM.tv 6 ?_
 refine JM.tv 7 ?_
 refine JM.tv 8 ?_
 refine JM.tv 9 ?_
 refine JM.takeCall 10 rfl (by kernel_rfl) rfl (fun w1 hw => Xnh w1 _ (L[i]).gen (L[j]).gen) rfl rfl ?_
 refine JM.tv 11 ?_
 refine JM.tv 12 ?_
 refine JM.tv 13 ?_
 refine JM.take 14 rfl (by kernel_rfl) rfl (Xc3 (by decide)) rfl rfl ?_
 refine JM.tv 15 ?_
 refine JM.tv 16 ?_
 refine JM.tv 17 ?_
 refine JM.take 18 rfl (by kernel_rfl) rfl (Xc3 (by decide)) rfl rfl ?_
 refine JM.takeCall (v := .int .i64 (Xgz I[i] I[j])) 19 rfl (by kernel_rfl) rfl (fun w1 hw => ?_) rfl rfl ?_
 ·have e1 := At.sl_bytes (Γ := [.st (ro b3 o3 (idc I[i]))]) (b := b3) iI rfl hw.ent (I[i]).2 (by decide)
  have e2 := At.sl_bytes (Γ := [.st (ro b4 o4 (idc I[j]))]) (b := b4) iI rfl hw.ent (I[j]).2 (by decide)
  have := (Xjv w1 (fun _ => True) (some ⟨b3, o3, none⟩) (some ⟨b4, o4, none⟩) 32 32 (I[i]).1 (I[j]).1 e1 e2)
  rw [(I[i]).2, (I[j]).2] at this
  exact this.any
 refine Xa4 20 (by kernel_rfl) rfl rfl rfl (Ww rfl ⟨rfl, by decide, by decide, by decide⟩ fun lb => Wd ⟨rfl, ?_⟩)
 refine Xa4 21 (by kernel_rfl) rfl rfl rfl (JR.callV (v := .int .i64 (orL [cmpI L[i].gen L[j].gen, Xgz I[i] I[j]])) rfl (fun w1 hw => ?_) (Wd ⟨rfl, ?_⟩))
 ·have hb := hw.sat (.own lb 3 [.int .i64 (cmpI L[i].gen L[j].gen), .int .i64 (Xgz I[i] I[j])]) (by simp)
  exact (X5b w1 (fun _ => True) _ 2 [cmpI L[i].gen L[j].gen, Xgz I[i] I[j]] (X34 (L := [cmpI L[i].gen L[j].gen, Xgz I[i] I[j]]) hb (by simp))).any
 refine Xa4 22 (by kernel_rfl) rfl rfl rfl (Wf Vb rfl (Wd ⟨rfl, ?_⟩))
 refine JM.nil (by kernel_rfl) ?_
 refine wz13 ?_
 exact Xab () rfl
end
section
open Go Go.RowKit Go.Sort Go.Shelf
theorem Xt2 [dr : Dr] (hdr : Dr.on) {w w' : World} (h : Bel w.heap.size w w') : ∃ q os, w' = grow (w.drewN q) os := by
 refine ⟨w'.drawn - w.drawn, w'.heap.extract w.heap.size, ?_⟩
 have h1 := h.drawn hdr
 have h2 := h.os; have h3 := h.tape; have h4 := h.output
 have hh : w.heap ++ w'.heap.extract w.heap.size = w'.heap := by
  apply Array.ext_getElem?
  intro i
  by_cases hi : i < w.heap.size
  ·rw [Array.getElem?_append_left hi]; exact (h.block i hi).symm
  ·rw [Array.getElem?_append_right (by omega), Array.getElem?_extract]
   have := h.size
   by_cases hi' : i < w'.heap.size
   ·rw [if_pos (by omega)]; congr 1; omega
   ·rw [if_neg (by omega), Array.getElem?_eq_none (by omega)]
 cases w; cases w'
 simp only [World.drewN, grow] at *
 subst h2 h3 h4
 simp only [hh]
 congr 1
 omega
abbrev X35 {m : Nat} (cf : Fin (m + 1) → Fin (m + 1) → Int) := { O : List (Fin (m + 1)) // O.Perm (List.finRange (m + 1)) ∧ O.Pairwise (fun i j => Go.Proofs.ltOf cf j i = false) }
theorem Xt3 [Dr] {P : Program} {ρ : Ren} (Ly : Go.Proofs.SlLaysF.n6 P ρ) {m : Nat} (cf : Fin (m + 1) → Fin (m + 1) → Int) (hO : SWO (Go.Proofs.ltOf cf)) (g : FuncId) (caps : List Value) [eg : Body P g] {w0 w : World} {F : Nat → Prop} {Γ : List Fact} {b c : Nat} {el : TypeId}
  (hm : m < 1000000) (ho : Hold w0 F (.own b el ((List.range (m + 1)).map natV) :: Γ) w)
  (hc : ∀ W : World, (∀ A : Asn, A.holds (fp w0 F (.own b el ((List.range (m + 1)).map natV) :: Γ)) w → A.holds (fp w0 F (.own b el ((List.range (m + 1)).map natV) :: Γ)) W) →
   ∀ x y : Fin (m + 1), @GivesV ⟨True⟩ P g ([natV x.1, natV y.1] ++ caps) W (fp w0 F (.own b el ((List.range (m + 1)).map natV) :: Γ)) (.int .i64 (cf x y))) :
  Calls P (ρ.f 6) ⟨[.slice (some ⟨b, 0, none⟩) (m + 1) c, .func (.func g) ⟨[]⟩ ⟨caps⟩]⟩ w fun x w' => ∃ O : X35 cf, x = .returned (.tuple ⟨[]⟩) ∧ Hold w0 F (.own b el (O.1.map fun i => natV i.1) :: Γ) w' := by
 have hw : w.heap[b]? = some (.cells ((List.range (m + 1)).map natV).toArray el (0, 0)) := ho.sat (.own b el _) (by simp)
 have hlt : b < w.heap.size := (Array.getElem?_eq_some_iff.1 hw).1
 obtain ⟨enc, henc⟩ : ∃ enc : Fin (m + 1) → Value, enc = fun i => natV i.1 := ⟨_, rfl⟩
 obtain ⟨d, hd⟩ : ∃ d : Array (Fin (m + 1)), d = (List.finRange (m + 1)).toArray := ⟨_, rfl⟩
 have hds : d.size = m + 1 := by rw [hd]; simp
 have hdg : ∀ j, j < m + 1 → enc d[j]! = natV j := by
  intro j hj
  rw [henc, hd]
  simp [hj]
 have hH : Holds enc w b 0 d := by
  intro j hj
  rw [hds] at hj
  rw [hdg j hj]
  constructor
  ·rw [Nat.zero_add, cell_of_row w b j _ el _ hw]
   simp [hj]
  ·simp [World.frozen?, hw]
 have h1 : Go.Proofs.OneCell enc := fun x => by rw [henc]; rfl
 have hcmp : Go.Proofs.CmpLays1 P g ⟨caps⟩ enc cf b 0 d.size w := by
  intro q os dk hdk x y
  have hold : ∀ k, k < w.heap.size → k ≠ b → (Go.Proofs.sortWorld enc w b 0 q dk os).heap[k]? = w.heap[k]? := by
   intro k hk hkb
   unfold Go.Proofs.sortWorld
   rw [heap_grow_old]
   ·simp [Go.Sort.putRow, Go.Sort.mapBlock, Array.getElem?_modify, Ne.symm hkb, Go.Sort.ahead]
   ·simp [Go.Sort.putRow, Go.Sort.mapBlock, Go.Sort.ahead]; exact hk
  have hx := hc (Go.Proofs.sortWorld enc w b 0 q dk os) (fun A hA => by
   have hA2 := A.within _ _ hA
   refine A.mono _ _ _ (fun k hk => hk.1) (A.frame _ _ _ (fun k hk => ?_) hA2)
   exact hold k hk.2 (fun e => hk.1.2 (.own b el ((List.range (m + 1)).map natV)) (by simp) e)) x y
  have e1 : (#[enc x, enc y] ++ (⟨caps⟩ : Array Value)) = ⟨[natV x.1, natV y.1] ++ caps⟩ := by rw [henc]; apply Array.ext'; simp
  rw [e1]
  refine Calls.mono hx ?_
  rintro e w' ⟨_, he, hb, _⟩
  exact ⟨he, Xt2 (dr := ⟨True⟩) trivial hb⟩
 have hs := Go.Proofs.Any.slices_SortFunc Ly enc h1 cf hO g ⟨caps⟩ b 0 c d w eg.ok hcmp hH hlt (by rw [hds]; omega)
 rw [hds] at hs
 refine Calls.mono hs ?_
 rintro x w' ⟨hx, d', q, os, hp, hsrt, rfl⟩
 obtain ⟨hp1, _, hp3⟩ := hp
 have hd's : d'.size = m + 1 := by rw [hp1, hds]
 have hperm : d'.toList.Perm (List.finRange (m + 1)) := by
  have e1 : (d'.extract 0 (m + 1)).toList = d'.toList := by rw [Array.extract_eq_self_of_le (by omega)]
  have e2 : (d.extract 0 (m + 1)).toList = d.toList := by rw [Array.extract_eq_self_of_le (by omega)]
  rw [e1, e2] at hp3
  rw [hd] at hp3
  exact hp3
 have hpair : d'.toList.Pairwise (fun i j => Go.Proofs.ltOf cf j i = false) := by
  rw [List.pairwise_iff_getElem]
  intro i j hi hj hij
  have hi' : i < d'.size := by simpa using hi
  have hj' : j < d'.size := by simpa using hj
  have := hsrt i j (Nat.zero_le _) hij (by omega)
  rw [getElem!_pos d' j hj', getElem!_pos d' i hi'] at this
  simpa using this
 refine ⟨⟨d'.toList, hperm, hpair⟩, hx, ?_⟩
 have hrow : (Go.Sort.putRow enc (Go.Sort.ahead w q) b 0 d').heap[b]? = some (.cells (d'.toList.map fun i => natV i.1).toArray el (0, 0)) := by
  have : (Go.Sort.ahead w q).heap[b]? = some (.cells ((List.range (m + 1)).map natV).toArray el (0, 0)) := hw
  simp only [Go.Sort.putRow, Go.Sort.mapBlock, Array.getElem?_modify, this]
  simp only [if_true, Option.map_some, Go.Sort.onCells]
  congr 2
  apply Array.ext_getElem?
  intro k
  simp only [Go.Sort.putCells, Array.getElem?_mapIdx]
  by_cases hk : k < m + 1
  ·have hk' : k < d'.size := by omega
   simp [hk, hk', henc]
  ·have hk' : ¬ k < d'.size := by omega
   simp [hk, hk']
 have h2 : Hold w0 F (.own b el (d'.toList.map fun i => natV i.1) :: Γ) (Go.Sort.putRow enc (Go.Sort.ahead w q) b 0 d') :=
  ho.swap (b := b) (fun _ => Iff.rfl) (fun _ => Iff.rfl) rfl rfl rfl (by simp [Go.Sort.putRow, Go.Sort.mapBlock, Go.Sort.ahead])
   (fun k hk => by simp [Go.Sort.putRow, Go.Sort.mapBlock, Array.getElem?_modify, Ne.symm hk, Go.Sort.ahead]) hrow (hdr := Nat.le_add_right _ _)
 exact h2.of_below ⟨rfl, rfl, rfl, by simp [Go.Proofs.sortWorld, grow, Go.Sort.putRow, Go.Sort.mapBlock, Go.Sort.ahead], fun k hk => heap_grow_old _ _ hk, fun _ => Nat.le_refl _⟩
abbrev Xzb (cf : Nat → Nat → Int) (n : Nat) := { O : List Nat // O.Perm (List.range n) ∧ O.Pairwise (fun i j => ¬ cf j i < 0) }
theorem Xo4 [Dr] {P : Program} {ρ : Ren} (Ly : Go.Proofs.SlLaysF.n6 P ρ) (cf : Nat → Nat → Int) (hO : SWO (Go.Proofs.ltOf cf)) (g : FuncId) (caps : List Value) [eg : Body P g] {w0 w : World} {F : Nat → Prop} {Γ : List Fact} {b c n : Nat} {el : TypeId}
  (hm : n ≤ 1000000) (ho : Hold w0 F (.own b el ((List.range n).map natV) :: Γ) w)
  (hc : ∀ W : World, (∀ A : Asn, A.holds (fp w0 F (.own b el ((List.range n).map natV) :: Γ)) w → A.holds (fp w0 F (.own b el ((List.range n).map natV) :: Γ)) W) →
   ∀ x y : Nat, x < n → y < n → @GivesV ⟨True⟩ P g ([natV x, natV y] ++ caps) W (fp w0 F (.own b el ((List.range n).map natV) :: Γ)) (.int .i64 (cf x y))) :
  Calls P (ρ.f 6) ⟨[.slice (some ⟨b, 0, none⟩) n c, .func (.func g) ⟨[]⟩ ⟨caps⟩]⟩ w fun x w' => ∃ O : Xzb cf n, x = .returned (.tuple ⟨[]⟩) ∧ Hold w0 F (.own b el (O.1.map natV) :: Γ) w' := by
 cases n with
 | zero =>
  refine Calls.mono (Go.Proofs.AnyF.slices_SortFunc_none (P := P) (ρ := ρ) { Ly with } (some ⟨b, 0, none⟩) c _ w) ?_
  rintro x w' ⟨hx, rfl⟩
  exact ⟨⟨[], by simp, by simp⟩, hx, ho⟩
 | succ m =>
  have := Xt3 Ly (m := m) (c := c) (fun x y => cf x.1 y.1) ⟨fun x => hO.irrefl x.1, fun x y z h1 h2 => hO.trans x.1 y.1 z.1 h1 h2, fun x y z h1 h2 => hO.ntrans x.1 y.1 z.1 h1 h2⟩ g caps (by omega) ho (fun W hW x y => hc W hW x.1 y.1 x.2 y.2)
  refine Calls.mono this ?_
  rintro x w' ⟨O, hx, hO'⟩
  refine ⟨⟨O.1.map (·.1), ?_, ?_⟩, hx, by rw [List.map_map]; exact hO'⟩
  ·have := O.2.1.map (·.1)
   have e : (List.finRange (m + 1)).map (fun x => x.1) = List.range (m + 1) := by
    apply List.ext_getElem
    ·simp
    ·intro i h1 h2; simp
   rwa [e] at this
  ·rw [List.pairwise_map]
   refine O.2.2.imp ?_
   intro i j h
   simpa [Go.Proofs.ltOf] using h
end
def Xt4 : Go.Shelf.Ren := ⟨fun | 6 => 69 | 14 => 137 | 15 => 138 | 20 => 189 | 21 => 190 | 22 => 191 | 23 => 192 | 24 => 193 | 25 => 194 | 26 => 195 | 27 => 196 | 28 => 197 | 29 => 198 | 46 => 238 | 47 => 239 | 48 => 240 | 49 => 241 | 50 => 242 | 57 => 258 | n => n, fun | 22 => 45 | 24 => 3 | 25 => 106 | 39 => 166 | 45 => 211 | 46 => 212 | 50 => 119 | 53 => 62 | 55 => 144 | 66 => 237 | 70 => 240 | 76 => 253 | 77 => 254 | n => n, fun | n => n⟩
open Go.Shelf Go.Proofs in
theorem Xzc : SlLaysF.n6 prog Xt4 where
 mixed := by kernel_rfl
 f6 := ⟨ "slices.SortFunc[[]int,int]", by decide, func69.trans (congrArg some (by kernel_rfl))⟩
 f14 := ⟨ "slices.pdqsortCmpFunc[int]", by decide, func137.trans (congrArg some (by kernel_rfl))⟩
 f15 := func138.trans (congrArg some (by kernel_rfl))
 f20 := ⟨ "slices.insertionSortCmpFunc[int]", by decide, func189.trans (congrArg some (by kernel_rfl))⟩
 f21 := ⟨ "slices.heapSortCmpFunc[int]", by decide, func190.trans (congrArg some (by kernel_rfl))⟩
 f22 := ⟨ "slices.breakPatternsCmpFunc[int]", by decide, func191.trans (congrArg some (by kernel_rfl))⟩
 f23 := ⟨ "slices.choosePivotCmpFunc[int]", by decide, func192.trans (congrArg some (by kernel_rfl))⟩
 f24 := ⟨ "slices.reverseRangeCmpFunc[int]", by decide, func193.trans (congrArg some (by kernel_rfl))⟩
 f25 := ⟨ "slices.partialInsertionSortCmpFunc[int]", by decide, func194.trans (congrArg some (by kernel_rfl))⟩
 f26 := ⟨ "slices.partitionEqualCmpFunc[int]", by decide, func195.trans (congrArg some (by kernel_rfl))⟩
 f27 := ⟨ "slices.partitionCmpFunc[int]", by decide, func196.trans (congrArg some (by kernel_rfl))⟩
 f28 := func197.trans (congrArg some (by kernel_rfl))
 f29 := func198.trans (congrArg some (by kernel_rfl))
 f46 := ⟨ "slices.siftDownCmpFunc[int]", by decide, func238.trans (congrArg some (by kernel_rfl))⟩
 f47 := func239.trans (congrArg some (by kernel_rfl))
 f48 := func240.trans (congrArg some (by kernel_rfl))
 f49 := ⟨ "slices.medianAdjacentCmpFunc[int]", by decide, func241.trans (congrArg some (by kernel_rfl))⟩
 f50 := ⟨ "slices.medianCmpFunc[int]", by decide, func242.trans (congrArg some (by kernel_rfl))⟩
 f57 := ⟨ "slices.order2CmpFunc[int]", by decide, func258.trans (congrArg some (by kernel_rfl))⟩
 t0 := underlying0
 a0 := Tryz.isAgg0
 z0 := Tryz.sizeOf0
 v0 := Tryz.zeroValue0
 t3 := underlying3
 a3 := Tryz.isAgg3
 z3 := Tryz.sizeOf3
 v3 := Tryz.zeroValue3
 t4 := underlying4
 a4 := Tryz.isAgg4
 z4 := Tryz.sizeOf4
 v4 := Tryz.zeroValue4
 t5 := underlying5
 a5 := Tryz.isAgg5
 z5 := Tryz.sizeOf5
 v5 := Tryz.zeroValue5
 t9 := underlying9
 a9 := Tryz.isAgg9
 z9 := Tryz.sizeOf9
 v9 := Tryz.zeroValue9
 t22 := underlying45
 a22 := Tryz.isAgg45
 z22 := Tryz.sizeOf45
 v22 := Tryz.zeroValue45
 a24 := Tryz.isAgg3
 z24 := Tryz.sizeOf3
 t25 := underlying106
 a25 := Tryz.isAgg106
 z25 := Tryz.sizeOf106
 v25 := Tryz.zeroValue106
 t39 := underlying166
 a39 := Tryz.isAgg166
 z39 := Tryz.sizeOf166
 v39 := Tryz.zeroValue166
 t45 := underlying211
 a45 := Tryz.isAgg211
 z45 := Tryz.sizeOf211
 v45 := Tryz.zeroValue211
 t46 := underlying212
 a46 := Tryz.isAgg212
 z46 := Tryz.sizeOf212
 v46 := Tryz.zeroValue212
 t50 := underlying119
 a50 := Tryz.isAgg119
 z50 := Tryz.sizeOf119
 v50 := Tryz.zeroValue119
 t53 := underlying62
 a53 := Tryz.isAgg62
 z53 := Tryz.sizeOf62
 v53 := Tryz.zeroValue62
 t55 := underlying144
 a55 := Tryz.isAgg144
 z55 := Tryz.sizeOf144
 v55 := Tryz.zeroValue144
 t66 := underlying237
 a66 := Tryz.isAgg237
 z66 := Tryz.sizeOf237
 v66 := Tryz.zeroValue237
 t70 := underlying240
 a70 := Tryz.isAgg240
 z70 := Tryz.sizeOf240
 v70 := Tryz.zeroValue240
 t76 := underlying253
 a76 := Tryz.isAgg253
 z76 := Tryz.sizeOf253
 v76 := Tryz.zeroValue253
 t77 := underlying254
 a77 := Tryz.isAgg254
 z77 := Tryz.sizeOf254
 v77 := Tryz.zeroValue254
section
attribute [local irreducible] JC JO JR JQ andThen inBlock OpV Gives Xan JM JS
section
attribute [local irreducible] ents Xay Xbs
theorem X36 {R : List Row} (hb : BuiltR (grOf R)) : evG R = true ↔ ∀ c ∈ Xbc (grOf R), ∀ d ∈ Xbc (grOf R), evOk (Xbc (grOf R)) c d := by
 have hk : ∀ r ∈ R, ∀ x, x ∈ r.1.2 ↔ Xdl (Xbc (grOf R)) (idC r.1.1) x := by
  intro r hr x
  have hg : r.1 ∈ grOf R := List.mem_map.2 ⟨r, hr, rfl⟩
  have h1 := Xk3 hb.nodup hg
  rw [← h1]
  exact hb.known _ (Xbl.2 ⟨r.1.1, by rw [Xj6]; exact List.mem_map.2 ⟨r, hr, rfl⟩, rfl⟩) x
 have hn : ∀ c, c ∈ Xbc (grOf R) ↔ ∃ r ∈ R, r.1.1 = c := fun c => by rw [Xj6]; exact List.mem_map
 have key : ∀ r ∈ R, ∀ s ∈ R, Xgp r s = false ↔ evOk (Xbc (grOf R)) r.1.1 s.1.1 := by
  intro r hr s hs
  unfold Xgp evOk
  have := hk r hr (idC s.1.1)
  rw [← this]
  by_cases h1 : idC r.1.1 = idC s.1.1
  ·simp [h1]
  by_cases h2 : r.1.1.ev.node = s.1.1.ev.node
  ·simp [h1, h2]
  ·simp [h2]
 rw [evG, List.all_eq_true]
 simp only [List.all_eq_true, Bool.not_eq_true']
 constructor
 ·intro h c hc d hd
  obtain ⟨r, hr, rfl⟩ := (hn c).1 hc
  obtain ⟨s, hs, rfl⟩ := (hn d).1 hd
  exact (key r hr s hs).1 (h r hr s hs)
 ·intro h r hr s hs
  exact (key r hr s hs).2 (h _ ((hn _).2 ⟨r, hr, rfl⟩) _ ((hn _).2 ⟨s, hs, rfl⟩))
structure OfR where
 bo : Nat
 bk : Nat
 R : List Row
 I : List ID
 p : Option Addr
 q : Nat
 b : Bool
structure OfOk (L : List Commit) (y : OfR) : Prop where
 iff : y.b = true ↔ Closed L
 len : y.I.length ≤ L.length
 ids : y.b = true → y.I = cids L
 built : y.b = true → Built (grOf y.R)
 perm : y.b = true → (Xbc (grOf y.R)).Perm L
 nodup : y.b = true → ∀ r ∈ y.R, r.1.2.Nodup
abbrev OfY (L : List Commit) := { y : OfR // OfOk L y }
abbrev ofV {L : List Commit} (y : OfY L) : Value := .tuple ⟨[.agg ⟨[.map (some y.1.bo), .map (some y.1.bk)]⟩, .slice y.1.p y.1.I.length y.1.q, .bool y.1.b]⟩
abbrev ofB {L : List Commit} (y : OfY L) : List Fact := if y.1.b = true then [.st (rmap y.1.bo (ents idV (ofM y.1.R)) (ofM y.1.R).length), .st (rmap y.1.bk (ents idV (knM y.1.R)) (knM y.1.R).length), .st (Xbs y.1.R), .st (sl y.1.p y.1.q y.1.I)] else [.st (sl y.1.p y.1.q y.1.I)]
theorem Xqe {L : List Commit} {bo bk q : Nat} {R : List Row} {I : List ID} {p : Option Addr} (h : ¬ Closed L) (hl : I.length ≤ L.length) : OfOk L ⟨bo, bk, R, I, p, q, false⟩ :=
 ⟨⟨fun h => Bool.noConfusion h, fun h' => (h h').elim⟩, hl, fun h => Bool.noConfusion h, fun h => Bool.noConfusion h, fun h => Bool.noConfusion h, fun h => Bool.noConfusion h⟩
def genC (L : List Commit) (i : Nat) : Int := (L.getD i Xdt).gen
def byO (L : List Commit) (O : List Nat) : List Commit := O.map fun i => L.getD i Xdt
theorem Xqf {L : List Commit} {O : List Nat} (h : O.Perm (List.range L.length)) : (byO L O).Perm L := by
 have h1 := h.map (fun i => L.getD i Xdt)
 have e : (List.range L.length).map (fun i => L.getD i Xdt) = L := by
  apply List.ext_getElem
  ·simp
  ·intro i h1 h2; simp [List.getD_eq_getElem?_getD, h2]
 rwa [e] at h1
theorem Xt5 (a b : Int) : cmpI a b < 0 ↔ a < b := by
 unfold cmpI
 split
 ·simp [*]
 ·split <;> simp [*]
theorem X37 (L : List Commit) : Go.Sort.SWO (Go.Proofs.ltOf fun i j => cmpI (genC L i) (genC L j)) := by
 have h : ∀ i j, Go.Proofs.ltOf (fun i j => cmpI (genC L i) (genC L j)) i j = decide (genC L i < genC L j) := fun i j => by
  simp only [Go.Proofs.ltOf, Xt5]
 refine ⟨fun x => ?_, fun x y z => ?_, fun x y z => ?_⟩
 ·rw [h]; simp
 ·rw [h, h, h]; simp only [decide_eq_true_eq]; omega
 ·rw [h, h, h]; simp only [decide_eq_false_iff_not]; omega
theorem Xsg {w0 w : World} {F : Nat → Prop} {Γ : List Fact} {b c el bl k : Nat} {a : Option Addr} {L : List Commit} (hl : L.length ≤ 1000000)
  (ho : Hold w0 F (.own b el ((List.range L.length).map natV) :: .st (ro bl 0 [.slice a L.length k]) :: .st (sl a k L) :: Γ) w) :
  Calls prog 69 ⟨[.slice (some ⟨b, 0, none⟩) L.length c, .func (.func 134) ⟨[]⟩ ⟨[.pointer (some ⟨bl, 0, none⟩)]⟩]⟩ w fun x w' =>
   ∃ O : Xzb (fun i j => cmpI (genC L i) (genC L j)) L.length, x = .returned (.tuple ⟨[]⟩) ∧ Hold w0 F (.own b el (O.1.map natV) :: .st (ro bl 0 [.slice a L.length k]) :: .st (sl a k L) :: Γ) w' := by
 refine Xo4 Xzc _ (X37 L) _ _ hl ho (fun W hW x y hx hy => ?_)
 have h1 := hW (sl a k L) (ho.get (A := sl a k L))
 have h2 := hW (ro bl 0 [.slice a L.length k]) (ho.get (A := ro bl 0 [.slice a L.length k]))
 have := @X33 ⟨True⟩ W _ a k bl L x y hx hy h1 h2
 simpa [genC, List.getD_eq_getElem?_getD, hx, hy] using this
theorem Xqg {c : Commit} (h : may c = true) : 1 ≤ c.gen ∧ c.gen ≤ 1048576 := by
 unfold may at h
 split at h
 ·cases h
 ·rename_i hn
  simp only [Bool.or_eq_true, Bool.not_eq_true', not_or, Bool.not_eq_false, inB, Bool.and_eq_true, decide_eq_true_eq] at hn
  exact hn.1.1.1
end
section
attribute [local irreducible] JN
section
attribute [local irreducible] ents Xay Xbs
theorem Xve (a : Option Addr) (k : Nat) (L : List Commit) (h : (sl a k L).holds F w) (hl : L.length ≤ 1000000) (hf : ∀ x ∈ L, fine x) :
  Gives prog 68 [.slice a L.length k] w F (fun y : OfY L => ofV y) (fun y => ofB y) := by
 refine Xaa func68 rfl ntmps68 rfl rfl [.st (sl a k L)] (.start1 h) ?_
 (repeat (refine wE ?_; intro _)); refine wA ?_
 rename_i b1 b2
 refine JR.makeMap idV rfl ?_
 intro bo
 refine We rfl ?_
 refine JR.makeMap idV rfl ?_
 intro bk
 refine We rfl ?_
 refine Wf (OpV.build [.map (some bo), .map (some bk)] (by kernel_rfl)) rfl ?_
 (repeat (refine wE ?_; intro _)); refine wA ?_
 rename_i b5
 refine JR.pubOwn b1 ?_
 refine JR.callSl rfl (fun w1 hw => Xy4 w1 _ a k L hw.get (by omega) hf) ?_
 intro p q
 refine wA ?_
 refine JC.test (fun hne => ?_) (fun heq => ?_)
 ·have hno : ¬ Closed L := fun hc => hne (by rw [Xea hc.may]; simp [cids])
  refine wz9 ?_
  exact CT.done (Y := OfY L) ⟨⟨bo, bk, [], [], none, 0, false⟩, Xqe hno (Nat.zero_le _)⟩ rfl (fun w ho => (Hold.add (A := sl (α := ID) none 0 []) (ho.ent : Hold _ _ [] w) Xah))
 ·have hmay : ∀ c ∈ L, may c = true := by
   intro c hc
   rw [← Bool.not_eq_false]
   intro hn
   have h1 : (idsP L).length = L.length := by omega
   rw [Xj5 hc hn, List.length_nil] at h1
   have := List.length_pos_of_mem hc
   omega
  have hids := Xea hmay
  have hcl : (cids L).length = L.length := Xa2 L
  refine wA ?_
  refine Xmw rfl rfl (by omega) ?_
  intro bO
  refine wz4 ?_
  rw [hids]
  refine JC.more (Γ' := .own bO 3 ((List.replicate L.length 0).map natV) :: .own b2 101 [.map none, .map none] :: .own b5 101 [.map (some bo), .map (some bk)] :: .omap bo (ents idV ([] : List (ID × Value))) ([] : List (ID × Value)).length :: .omap bk (ents idV ([] : List (ID × Value))) ([] : List (ID × Value)).length :: .st (Xbs []) :: .st (ro b1 0 [.slice a L.length k]) :: .st (sl a k L) :: .st (sl p q (cids L)) :: []) (fun w1 ho => (ho.add (A := Xbs []) Xy7).ent) ?_
  refine Xap (fun (i : Nat) => [(1, .pointer (some ⟨b1, 0, none⟩)), (2, .pointer (some ⟨b2, 0, none⟩)), (5, .pointer (some ⟨b5, 0, none⟩)), (6, .slice p (cids L).length q), (7, .slice (some ⟨bO, 0, none⟩) L.length L.length), (28, .int .i64 (L.length : Int)), (29, .int .i64 (i : Int))])
   (fun i => .own bO 3 ((List.range i ++ List.replicate (L.length - i) 0).map natV) :: .own b2 101 [.map none, .map none] :: .own b5 101 [.map (some bo), .map (some bk)] :: .omap bo (ents idV ([] : List (ID × Value))) ([] : List (ID × Value)).length :: .omap bk (ents idV ([] : List (ID × Value))) ([] : List (ID × Value)).length :: .st (Xbs []) :: .st (ro b1 0 [.slice a L.length k]) :: .st (sl a k L) :: .st (sl p q (cids L)) :: [])
   (fun i => i ≤ L.length) (fun i => L.length - i) 0 (Nat.zero_le _) (by rw [List.range_zero, List.nil_append, Nat.sub_zero]; infer_instance) ?_
  intro i hi
  refine wz11 ?_
  refine JC.test (fun hlt => ?_) (fun hge => ?_)
  ·have hlt' : i < L.length := by omega
   have e : (List.range i ++ List.replicate (L.length - i) 0).set i i = List.range (i + 1) ++ List.replicate (L.length - (i + 1)) 0 := by
    obtain ⟨m, hm⟩ : ∃ m, L.length - i = m + 1 := ⟨L.length - i - 1, by omega⟩
    rw [hm, List.replicate_succ, List.set_append_right _ _ (by simp), List.length_range, Nat.sub_self, List.set_cons_zero, List.range_succ, List.append_assoc, show L.length - (i + 1) = m by omega]
    rfl
   refine wz7 ?_
   refine Wf (Xbr (k := i) hlt') rfl ?_
   refine We rfl ?_
   refine Xdr (f := natV) i i (by simp; omega) (by omega) rfl ?_
   rw [e]
   refine wz2 ?_
   exact ⟨i + 1, by omega, by omega, iI⟩
  obtain rfl : i = L.length := by omega
  rw [show List.range L.length ++ List.replicate (L.length - L.length) 0 = List.range L.length by simp]
  refine wA ?_
  refine Xbk (v := fun _ : Xzb (fun i j => cmpI (genC L i) (genC L j)) L.length => .tuple ⟨[]⟩) rfl (fun w1 hw => Xsg (el := 3) (a := a) (k := k) (bl := b1) (Γ := .own b2 101 [.map none, .map none] :: .own b5 101 [.map (some bo), .map (some bk)] :: .omap bo (ents idV ([] : List (ID × Value))) ([] : List (ID × Value)).length :: .omap bk (ents idV ([] : List (ID × Value))) ([] : List (ID × Value)).length :: .st (Xbs []) :: .st (sl p q (cids L)) :: []) hl hw.ent) ?_
  rintro ⟨O, hO1, hO2⟩
  dsimp only
  have hOl : O.length = L.length := by rw [hO1.length_eq, List.length_range]
  obtain ⟨Lo, hLo⟩ : ∃ Lo, Lo = byO L O := ⟨_, rfl⟩
  have hLp : Lo.Perm L := hLo ▸ Xqf hO1
  have hLl : Lo.length = L.length := hLp.length_eq
  have hLs : Lo.Pairwise (fun c d => c.gen ≤ d.gen) := by
   rw [hLo, byO, List.pairwise_map]
   refine hO2.imp ?_
   intro i j hij
   rw [Xt5] at hij
   simp only [genC] at hij
   omega
  refine wz4 ?_
  refine Xcz (fun (i : Nat) (R : List Row) => [(1, .pointer (some ⟨b1, 0, none⟩)), (2, .pointer (some ⟨b2, 0, none⟩)), (5, .pointer (some ⟨b5, 0, none⟩)), (6, .slice p (cids L).length q), (40, .slice (some ⟨bO, 0, none⟩) L.length L.length), (41, .int .i64 (L.length : Int)), (42, .int .i64 (i : Int))])
   (fun i R => .own bO 3 (O.map natV) :: .own b2 101 [.map none, .map none] :: .own b5 101 [.map (some bo), .map (some bk)] :: .omap bo (ents idV (ofM R)) (ofM R).length :: .omap bk (ents idV (knM R)) (knM R).length :: .st (Xbs R) :: .st (ro b1 0 [.slice a L.length k]) :: .st (sl a k L) :: .st (sl p q (cids L)) :: [])
   (fun i R => i ≤ L.length ∧ Built (grOf R) ∧ Xbc (grOf R) = Lo.take i ∧ ∀ r ∈ R, r.1.2.Nodup) (fun i _ => L.length - i) 0 [] ⟨Nat.zero_le _, .nil, rfl, by simp⟩ (by rw [show ofM [] = [] from rfl, show knM [] = [] from rfl]; infer_instance) ?_
  intro i R ⟨hi, hB, hnd, hS⟩
  have hR := hB.right
  have hgen : ∀ r ∈ R, 0 ≤ r.1.1.gen ∧ r.1.1.gen ≤ 1048576 := fun r hr => by
   have h1 : r.1.1 ∈ Xbc (grOf R) := by rw [Xj6]; exact List.mem_map.2 ⟨r, hr, rfl⟩
   rw [hnd] at h1
   have h2 := Xqg (hmay _ (hLp.mem_iff.1 (List.mem_of_mem_take h1)))
   omega
  refine wz11 ?_
  refine JC.test (fun hlt => ?_) (fun hge => ?_)
  ·have hlt' : i < L.length := by omega
   have hiO : i < O.length := by omega
   obtain ⟨j, hj⟩ : ∃ j, j = O[i] := ⟨_, rfl⟩
   have hjn : j < L.length := by rw [hj]; exact List.mem_range.1 (hO1.mem_iff.1 (List.getElem_mem hiO))
   have hLi : i < Lo.length := by omega
   have hLoi : Lo[i] = L[j] := by
    subst hLo
    simp [byO, ← hj, List.getD_eq_getElem?_getD, hjn]
   have hjm : L[j] ∈ L := List.getElem_mem hjn
   have hxe : (cids L)[j]'(by omega) = idC L[j] := Xbm L j (by omega)
   have hstep : Closed L → idC L[j] ∉ cids (Xbc (grOf R)) ∧ merge L[j] = false ∧ Xqb (grOf R) L[j] = true ∧ Xva (grOf R) L[j] = true := fun hc => by
    have := (Closed.perm hLp.symm hc).step hLs hB hLi hnd
    rwa [hLoi] at this
   have hkO : ((ofM R).map (·.1)).Nodup := by rw [Xl6]; exact hR.nodup
   refine wz14 ?_
   refine Wf (Xbr (k := i) (by omega)) rfl ?_
   refine We rfl ?_
   refine Wf (Xam (f := natV) i (by omega) (by omega) rfl) rfl ?_
   refine JO.reslot 45 (natV j) (by rw [hj]) ?_
   refine wz10 ?_
   refine Xbq (L := cids L) (.slice p (cids L).length q) j (by omega) ?_
   intro bi oi
   rw [hxe]
   by_cases hd : idC L[j] ∈ cids (Xbc (grOf R))
   ·have hno : ¬ Closed L := fun hc => (hstep hc).1 hd
    obtain ⟨r, hr, hre, hgo, hgk, hkn⟩ := Xvc hR.nodup hd
    refine Xjp [.own b5 101 [.map (some bo), .map (some bk)], .omap bo (ents idV (ofM R)) (ofM R).length, .st (elA (.slice p (cids L).length q) j 32 bi oi), .st (ro bi oi (idc (idC L[j])))] mixed ?_
    refine JN.take 0 rfl (by kernel_rfl) rfl Vd rfl rfl ?_
    refine JN.take 1 rfl (by kernel_rfl) rfl Vc rfl rfl ?_
    refine JN.take 2 rfl (by kernel_rfl) rfl Va rfl rfl ?_
    refine JN.take 3 rfl (by kernel_rfl) rfl Va rfl rfl ?_
    refine JN.take 4 rfl (by kernel_rfl) rfl Ve rfl rfl ?_
    refine JN.take 5 rfl (by kernel_rfl) rfl Vc rfl rfl ?_
    refine JN.take 6 rfl (by kernel_rfl) rfl (Xc5 (M := ofM R) (v := Xax r.1.1 r.2.1 r.2.2.1) (is := true) (idC L[j]) hkO (by rw [hgo]; rfl) (by rw [hgo]; rfl)) rfl rfl ?_
    refine JN.take 7 rfl (by kernel_rfl) rfl Va rfl rfl ?_
    refine JN.take 8 rfl (by kernel_rfl) rfl Vq rfl rfl ?_
    refine JN.take 9 rfl (by kernel_rfl) rfl Vq rfl rfl ?_
    refine JN.op 10 (by kernel_rfl) rfl rfl (Wg rfl (fun b11 => Wd ⟨rfl, iI, ?_⟩))
    refine JN.op 11 (by kernel_rfl) rfl rfl (Wi (Wd ⟨rfl, iI, ?_⟩))
    refine JN.op 12 (by kernel_rfl) rfl rfl (Wf Vb rfl (Wd ⟨rfl, iI, ?_⟩))
    refine JN.nil (by kernel_rfl) ?_
    refine wz14 ?_
    refine Xa6 mixed (by kernel_rfl) ?_
    refine wY ?_
    refine wA ?_
    exact CT.done (Y := OfY L) ⟨⟨bo, bk, [], [], none, 0, false⟩, Xqe hno (Nat.zero_le _)⟩ rfl (fun w ho => (Hold.add (A := sl (α := ID) none 0 []) (ho.ent : Hold _ _ [] w) Xah))
   ·obtain ⟨hgo, hgk⟩ := Xqd hd
    refine Xjp [.own b5 101 [.map (some bo), .map (some bk)], .omap bo (ents idV (ofM R)) (ofM R).length, .st (elA (.slice p (cids L).length q) j 32 bi oi), .st (ro bi oi (idc (idC L[j])))] mixed ?_
    refine JN.take 0 rfl (by kernel_rfl) rfl Vd rfl rfl ?_
    refine JN.take 1 rfl (by kernel_rfl) rfl Vc rfl rfl ?_
    refine JN.take 2 rfl (by kernel_rfl) rfl Va rfl rfl ?_
    refine JN.take 3 rfl (by kernel_rfl) rfl Va rfl rfl ?_
    refine JN.take 4 rfl (by kernel_rfl) rfl Ve rfl rfl ?_
    refine JN.take 5 rfl (by kernel_rfl) rfl Vc rfl rfl ?_
    refine JN.take 6 rfl (by kernel_rfl) rfl (Xc5 (M := ofM R) (v := .agg ⟨[.int .i64 0, .int .i64 0, .int .i64 0, .slice none 0 0, .int .i64 0, .string .empty, .string .empty, .int .i64 0]⟩) (is := false) (idC L[j]) hkO (by rw [hgo]; rfl) (by rw [hgo]; rfl)) rfl rfl ?_
    refine JN.take 7 rfl (by kernel_rfl) rfl Va rfl rfl ?_
    refine JN.take 8 rfl (by kernel_rfl) rfl Vq rfl rfl ?_
    refine JN.take 9 rfl (by kernel_rfl) rfl Vq rfl rfl ?_
    refine JN.op 10 (by kernel_rfl) rfl rfl (Wg rfl (fun b11 => Wd ⟨rfl, iI, ?_⟩))
    refine JN.op 11 (by kernel_rfl) rfl rfl (Wi (Wd ⟨rfl, iI, ?_⟩))
    refine JN.op 12 (by kernel_rfl) rfl rfl (Wf Vb rfl (Wd ⟨rfl, iI, ?_⟩))
    refine JN.nil (by kernel_rfl) ?_
    refine wz14 ?_
    refine Xa7 (L := L) (.slice a L.length k) j hjn ?_
    intro bc oc pc qc
    have hfx := hf _ hjm
    cases hmer : merge L[j] with
    | true =>
     have hno : ¬ Closed L := fun hc => by have := (hstep hc).2.1; rw [hmer] at this; cases this
     refine Xa6 mixed (by kernel_rfl) ?_
     refine wQ ?_
     refine JQ.call rfl rfl (fun w1 hw => Xdy w1 _ (L[j]) pc qc hw.get hfx.1) ?_
     refine JQ.reslot 62 (.bool true) (by rw [hmer]) ?_
     refine wY ?_
     refine wA ?_
     exact CT.done (Y := OfY L) ⟨⟨bo, bk, [], [], none, 0, false⟩, Xqe hno (Nat.zero_le _)⟩ rfl (fun w ho => (Hold.add (A := sl (α := ID) none 0 []) (ho.ent : Hold _ _ [] w) Xah))
    | false =>
     refine Xck 18 mixed ?_
     refine JM.tv 0 ?_
     refine JM.tv 1 ?_
     refine JM.tv 2 ?_
     refine JM.tv 3 ?_
     refine JM.tv 4 ?_
     refine JM.tv 5 ?_
     refine JM.takeCall 6 rfl (by kernel_rfl) rfl (fun w1 hw => Xdy w1 _ (L[j]) pc qc hw.get hfx.1) rfl rfl ?_
     refine JM.reslot 62 (.bool false) (by rw [hmer]) ?_
     refine JM.tv 7 ?_
     refine JM.tv 8 ?_
     refine JM.tv 9 ?_
     refine JM.tv 10 ?_
     refine JM.tv 11 ?_
     refine JM.tv 12 ?_
     refine JM.tv 13 ?_
     refine JM.tv 14 ?_
     refine JM.tv 15 ?_
     refine JM.tv 16 ?_
     refine JM.tv 17 ?_
     refine Xa4 18 (by kernel_rfl) rfl rfl rfl (Xbk (v := fun y : AddY R L[j] => .bool y.1.2.2) rfl (fun w1 hw => Xy8 (a := pc) (k := qc) (Γ := .own bO 3 (O.map natV) :: .own b2 101 [.map none, .map none] :: .own b5 101 [.map (some bo), .map (some bk)] :: .st (ro b1 0 [.slice a L.length k]) :: .st (sl a k L) :: .st (sl p q (cids L)) :: []) hR.nodup hS hd hgen hw.ent) (fun y => ?_))
     rcases y with ⟨⟨S, ba, ok⟩, hy1, hy2⟩
     dsimp only at hy1 hy2 ⊢
     cases ok with
     | false =>
      have hno : ¬ Closed L := fun hc => by
       have := hstep hc
       rw [this.2.2.1, this.2.2.2] at hy1; cases hy1
      rw [if_neg (by simp)]
      refine Wd ⟨rfl, ?_⟩
      refine Xa4 19 (by kernel_rfl) rfl rfl rfl (Wf Vh rfl (Wd ⟨rfl, ?_⟩))
      refine Xa4 20 (by kernel_rfl) rfl rfl rfl (Wf Vj rfl (Wd ⟨rfl, ?_⟩))
      refine JM.nil (by kernel_rfl) ?_
      refine wA ?_
      exact CT.done (Y := OfY L) ⟨⟨bo, bk, [], [], none, 0, false⟩, Xqe hno (Nat.zero_le _)⟩ rfl (fun w ho => (Hold.add (A := sl (α := ID) none 0 []) (ho.ent : Hold _ _ [] w) Xah))
     | true =>
      obtain ⟨hSn, hSk⟩ := hy2 rfl
      have hy1' := hy1.symm
      rw [Bool.and_eq_true] at hy1'
      rw [if_pos rfl]
      refine Wd ⟨rfl, ?_⟩
      refine Xa4 19 (by kernel_rfl) rfl rfl rfl (Wf Vh rfl (Wd ⟨rfl, ?_⟩))
      refine Xa4 20 (by kernel_rfl) rfl rfl rfl (Wf Vj rfl (Wd ⟨rfl, ?_⟩))
      refine JM.nil (by kernel_rfl) ?_
      refine wz2 ?_
      refine ⟨i + 1, R ++ [((L[j], S), (pc, qc, ba))], ⟨by omega, ?_, ?_, fun r hr => ?_⟩, by omega, iI⟩
      ·rw [Xsd]; exact .snoc hB hd hmer hy1'.1 hy1'.2 hSk
      ·rw [Xsd, Xd0, hnd, List.take_succ_eq_append_getElem hLi, hLoi]
      ·rcases List.mem_append.1 hr with hr | hr
       ·exact hS r hr
       ·simp only [List.mem_singleton] at hr; subst hr; exact hSn
  ·obtain rfl : i = L.length := by omega
   rw [List.take_of_length_le (by omega)] at hnd
   have hfin : Closed L ↔ evG R = true := by
    rw [X36 hR]
    constructor
    ·intro hc c hcm d hdm
     rw [hnd] at hcm hdm ⊢
     exact (Closed.perm hLp.symm hc).ev c hcm d hdm
    ·intro he
     have := hB.closed (fun c hc => hmay c (by rw [hnd] at hc; exact hLp.mem_iff.1 hc)) he
     rw [hnd] at this
     exact Closed.perm hLp this
   refine JC.more (Γ' := .st (rmap bo (ents idV (ofM R)) (ofM R).length) :: .st (rmap bk (ents idV (knM R)) (knM R).length) :: .st (Xbs R) :: .own b2 101 [.map none, .map none] :: .own b5 101 [.map (some bo), .map (some bk)] :: .st (ro b1 0 [.slice a L.length k]) :: .st (sl a k L) :: .st (sl p q (cids L)) :: []) (fun w1 ho => ?_) ?_
   ·have h1 : Hold _ _ (.omap bo (ents idV (ofM R)) (ofM R).length :: .omap bk (ents idV (knM R)) (knM R).length :: .st (Xbs R) :: .own b2 101 [.map none, .map none] :: .own b5 101 [.map (some bo), .map (some bk)] :: .st (ro b1 0 [.slice a L.length k]) :: .st (sl a k L) :: .st (sl p q (cids L)) :: []) w1 := ho.ent
    have h2 : Hold _ _ (.omap bk (ents idV (knM R)) (knM R).length :: .st (rmap bo (ents idV (ofM R)) (ofM R).length) :: .st (Xbs R) :: .own b2 101 [.map none, .map none] :: .own b5 101 [.map (some bo), .map (some bk)] :: .st (ro b1 0 [.slice a L.length k]) :: .st (sl a k L) :: .st (sl p q (cids L)) :: []) w1 := (h1.pubMap).ent
    exact (h2.pubMap).ent
   refine wz3 ?_
   refine Xjp [.own b5 101 [.map (some bo), .map (some bk)]] mixed ?_
   refine JN.take 0 rfl (by kernel_rfl) rfl Vc rfl rfl ?_
   refine JN.take 1 rfl (by kernel_rfl) rfl Va rfl rfl ?_
   refine JN.take 2 rfl (by kernel_rfl) rfl Vc rfl rfl ?_
   refine JN.op 3 (by kernel_rfl) rfl rfl (JR.callV rfl (fun w1 hw => Xsf w1 _ bo bk R hR.nodup hS hw.get hw.get hw.get) (Wd ⟨rfl, iI, ?_⟩))
   refine JN.op 4 (by kernel_rfl) rfl rfl (Wi (Wd ⟨rfl, iI, ?_⟩))
   refine JN.op 5 (by kernel_rfl) rfl rfl (Wf Vb rfl (Wd ⟨rfl, iI, ?_⟩))
   refine JN.op 6 (by kernel_rfl) rfl rfl (Wf Vb rfl (Wd ⟨rfl, iI, ?_⟩))
   refine JN.nil (by kernel_rfl) ?_
   refine wz13 ?_
   refine CT.done (Y := OfY L) ⟨⟨bo, bk, R, cids L, p, q, evG R⟩, ⟨hfin.symm, by show (cids L).length ≤ _; omega, fun _ => rfl, fun _ => hB, fun _ => by rw [hnd]; exact hLp, fun _ => hS⟩⟩ rfl (fun w ho => ?_)
   by_cases hev : evG R = true
   ·rw [ofB, if_pos hev]; exact ho.ent
   ·rw [ofB, if_neg hev]; exact ho.ent
end
end
section
attribute [local irreducible] ents Xay Xbs
theorem Xt6 {L : List Commit} {bo bk q : Nat} {R : List Row} {I : List ID} {p : Option Addr} (hy : OfOk L ⟨bo, bk, R, I, p, q, true⟩) :
  ofB (L := L) ⟨⟨bo, bk, R, I, p, q, true⟩, hy⟩ = [.st (rmap bo (ents idV (ofM R)) (ofM R).length), .st (rmap bk (ents idV (knM R)) (knM R).length), .st (Xbs R), .st (sl p q I)] := if_pos rfl
theorem Xvf {L : List Commit} {bo bk q : Nat} {R : List Row} {I : List ID} {p : Option Addr} (hy : OfOk L ⟨bo, bk, R, I, p, q, false⟩) :
  ofB (L := L) ⟨⟨bo, bk, R, I, p, q, false⟩, hy⟩ = [.st (sl p q I)] := if_neg (by simp)
abbrev Xc9 (L : List Commit) := { b : Bool // b = true ↔ Closed L }
theorem Xk5 (a : Option Addr) (k : Nat) (L : List Commit) (h : (sl a k L).holds F w) (hl : L.length ≤ 1000000) (hf : ∀ x ∈ L, fine x) :
  Gives prog 25 [.slice a L.length k] w F (fun y : Xc9 L => .bool y.1) (fun _ => []) := by
 refine Xaa func25 rfl ntmps25 rfl rfl [.st (sl a k L)] (.start1 h) ?_
 refine wz10 ?_
 refine JR.call (v := fun y : OfY L => ofV y) rfl (fun w1 hw => Xve w1 _ a k L hw.get hl hf) ?_
 rintro ⟨⟨bo, bk, R, I, p, q, b⟩, hy⟩
 dsimp only [ofV]
 refine JO.more (Γ' := []) (fun w1 ho => ho.ent) ?_
 (repeat (refine wE ?_; intro _)); refine wA ?_
 exact Xab (Y := Xc9 L) ⟨b, hy.iff⟩ rfl
theorem Xsh {α : Type} [DecidableEq α] : ∀ (S L : List α), S.Nodup → (∀ x ∈ S, x ∈ L) → S.length ≤ L.length
 | [], _, _, _ => Nat.zero_le _
 | x :: S, L, h, hs => by
  have h1 := List.nodup_cons.1 h
  have := Xsh S (L.erase x) h1.2 (fun y hy => (List.mem_erase_of_ne (by intro e; subst e; exact h1.1 hy)).2 (hs y (by simp [hy])))
  have h2 := List.length_erase_of_mem (hs x (by simp))
  have h3 := List.length_pos_of_mem (hs x (by simp))
  simp only [List.length_cons]; omega
def Xqh (L : List Commit) (A : List ID) (x : ID) : Prop := x ∈ cids L ∧ (x ∈ A ∨ ∃ y ∈ A, Xdl L y x)
structure AncR (L : List Commit) (A M : List ID) : Prop where
 sorted : M.Pairwise (fun x y => idLt y x = false)
 nodup : M.Nodup
 mem : Closed L → ∀ x, x ∈ M ↔ Xqh L A x
 not : ¬ Closed L → M = []
theorem AncR.unique {L : List Commit} {A M N : List ID} (h : AncR L A M) (k : AncR L A N) : M = N := by
 by_cases hc : Closed L
 ·exact Xfa ((List.perm_ext_iff_of_nodup h.nodup k.nodup).2 fun x => (h.mem hc x).trans (k.mem hc x).symm) h.sorted k.sorted
 ·rw [h.not hc, k.not hc]
abbrev AncY (L : List Commit) (A : List ID) := { y : List ID × Option Addr × Nat // AncR L A y.1 }
theorem X38 (a d : Option Addr) (k m : Nat) (L : List Commit) (A : List ID) (h : (sl a k L).holds F w) (h' : (sl d m A).holds F w) (hl : L.length ≤ 1000) (hA : A.length ≤ 1000) (hf : ∀ x ∈ L, fine x) :
  Gives prog 45 [.slice a L.length k, .slice d A.length m] w F (fun y : AncY L A => .slice y.1.2.1 y.1.1.length y.1.2.2) (fun y => [.st (sl y.1.2.1 y.1.2.2 y.1.1)]) := by
 refine Xaa func45 rfl ntmps45 rfl rfl [.st (sl a k L), .st (sl d m A)] (.start2 h h') ?_
 refine wz10 ?_
 refine JR.call (v := fun y : OfY L => ofV y) rfl (fun w1 hw => Xve w1 _ a k L hw.get (by omega) hf) ?_
 rintro ⟨⟨bo, bk, R, I, p, q, b⟩, hy⟩
 dsimp only [ofV]
 cases b with
 | false =>
  have hno : ¬ Closed L := fun hc => by have := hy.iff.2 hc; cases this
  refine JO.more (Γ' := []) (fun w1 ho => ho.ent) ?_
  (repeat (refine wE ?_; intro _)); refine wA ?_
  exact CT.done (Y := AncY L A) ⟨([], none, 0), ⟨List.Pairwise.nil, List.nodup_nil, fun hc => (hno hc).elim, fun _ => rfl⟩⟩ rfl (fun w ho => (Hold.add (A := sl (α := ID) none 0 []) (ho.ent : Hold _ _ [] w) Xah))
 | true =>
  have hc := hy.iff.1 rfl
  have hI := hy.ids rfl
  have hB := hy.built rfl
  have hP := hy.perm rfl
  have hS := hy.nodup rfl
  dsimp only at hI hB hP hS
  have hR := hB.right
  have hkO : ((ofM R).map (·.1)).Nodup := by rw [Xl6]; exact hR.nodup
  have hkK : ((knM R).map (·.1)).Nodup := by rw [Xl7]; exact hR.nodup
  have hmem : ∀ x, x ∈ cids (Xbc (grOf R)) ↔ x ∈ cids L := fun x => (Xfv hP).mem_iff
  have hknow : Xdl (Xbc (grOf R)) = Xdl L := Xo0 hP
  refine JO.more (Γ' := [.st (rmap bo (ents idV (ofM R)) (ofM R).length), .st (rmap bk (ents idV (knM R)) (knM R).length), .st (Xbs R), .st (sl a k L), .st (sl d m A)]) (fun w1 ho => by rw [Xt6 hy] at ho; simp only [List.cons_append, List.nil_append] at ho; exact ho.ent) ?_
  (repeat (refine wE ?_; intro _)); refine wA ?_
  rename_i b5
  refine JC.buf_nil (α := ID) 81 ?_
  refine Xb7 (fun (i : Nat) (out : List ID) r s => [(5, .pointer (some ⟨b5, 0, none⟩)), (8, .slice r out.length s), (22, .slice d A.length m), (23, .int .i64 (A.length : Int)), (24, .int .i64 (i : Int))])
   (fun i out r s => [.res (buf r s 81 out), .own b5 101 [.map (some bo), .map (some bk)], .st (rmap bo (ents idV (ofM R)) (ofM R).length), .st (rmap bk (ents idV (knM R)) (knM R).length), .st (Xbs R), .st (sl a k L), .st (sl d m A)])
   (fun i out r s => i ≤ A.length ∧ out.length ≤ i * 1001 ∧ ∀ x, x ∈ out ↔ ∃ y ∈ A.take i, y ∈ cids L ∧ (x = y ∨ Xdl L y x)) (fun i _ _ _ => A.length - i) 0 [] none 0 ⟨Nat.zero_le _, by simp, by simp⟩ iI ?_
  intro i out r s ⟨hi, hol, hom⟩
  refine wz11 ?_
  refine JC.test (fun hlt => ?_) (fun hge => ?_)
  ·have hlt' : i < A.length := by omega
   refine wz14 ?_
   refine Xa9 rfl hlt' ?_
   intro bi oi
   (repeat (refine wE ?_; intro _)); refine wA ?_
   by_cases hd : A[i] ∈ cids (Xbc (grOf R))
   ·obtain ⟨rw_, hr, hre, hgo, hgk, hkn⟩ := Xvc hR.nodup hd
    have hSm : ∀ x, x ∈ rw_.1.2 ↔ Xdl L A[i] x := fun x => by rw [← hkn, hR.known _ hd, hknow]
    have hSl : rw_.1.2.length ≤ 1000 := by
     have := Xsh rw_.1.2 (cids L) (hS rw_ hr) (fun x hx => (Xj2 ((hSm x).1 hx)).2)
     rw [Xa2] at this; omega
    refine Wf (Xc5 (M := ofM R) (v := Xax rw_.1.1 rw_.2.1 rw_.2.2.1) (is := true) A[i] hkO (by rw [hgo]; rfl) (by rw [hgo]; rfl)) rfl ?_
    (repeat (refine wE ?_; intro _)); refine wA ?_
    refine Xai (u := A[i]) rfl (by exact ⟨rfl, rfl, by decide⟩) (by omega) ?_
    intro r2 s2
    refine wz9 ?_
    refine Wf (Xcp (M := knM R) (v := .map (some rw_.2.2.2)) A[i] hkK (by rw [hgk]; rfl)) rfl ?_
    refine JO.more (fun w1 ho => ho.add (A := rmap rw_.2.2.2 (ents idV (sety rw_.1.2)) rw_.1.2.length) (Xgo (ho.get (A := Xbs R)) hr).2) ?_
    refine We rfl ?_
    refine Xmp rfl ?_
    intro ri
    refine wz4 ?_
    refine Xb7 (fun (S : List Nat) (o2 : List ID) r3 s3 => [(5, .pointer (some ⟨b5, 0, none⟩)), (8, .slice r3 o2.length s3), (22, .slice d A.length m), (23, .int .i64 (A.length : Int)), (24, .int .i64 (i : Int)), (45, .pointer (some ⟨ri, 0, none⟩))])
     (fun S o2 r3 s3 => [.res (buf r3 s3 81 o2), .obj ri (.mapIter (some rw_.2.2.2) rw_.1.2.length S.toArray rw_.1.2.length), .own b5 101 [.map (some bo), .map (some bk)], .st (rmap rw_.2.2.2 (ents idV (sety rw_.1.2)) rw_.1.2.length), .st (rmap bo (ents idV (ofM R)) (ofM R).length), .st (rmap bk (ents idV (knM R)) (knM R).length), .st (Xbs R), .st (sl a k L), .st (sl d m A)])
     (fun S o2 _ _ => S.Nodup ∧ (∀ j ∈ S, j < rw_.1.2.length) ∧ o2.length = out.length + 1 + S.length ∧ ∀ x, x ∈ o2 ↔ x ∈ out ∨ x = A[i] ∨ ∃ j ∈ S, rw_.1.2[j]? = some x)
     (fun S _ _ _ => rw_.1.2.length - S.length) [] (out ++ [A[i]]) r2 s2 ⟨List.nodup_nil, by simp, by simp, by simp⟩ iI ?_
    intro S o2 r3 s3 ⟨hS1, hS2, hlen, hmem2⟩
    have hSl2 : S.length ≤ rw_.1.2.length := Xf6 hS1 hS2
    refine wz14 ?_
    refine Xpu rfl hS2 (fun hall => ?_) (fun j hj hjS => ?_)
    ·refine wA ?_
     refine ⟨i + 1, o2, r3, s3, ⟨by omega, by omega, fun x => ?_⟩, by omega, iI⟩
     rw [hmem2, hom]
     constructor
     ·rintro (⟨y, hy, hx⟩ | rfl | ⟨j, hj, hx⟩)
      ·exact ⟨y, (Xa0 hlt').2 (.inl hy), hx⟩
      ·exact ⟨A[i], (Xa0 hlt').2 (.inr rfl), (hmem _).1 hd, .inl rfl⟩
      ·exact ⟨A[i], (Xa0 hlt').2 (.inr rfl), (hmem _).1 hd, .inr ((hSm x).1 (List.mem_of_getElem? hx))⟩
     ·rintro ⟨y, hy, hyc, hx⟩
      rcases (Xa0 hlt').1 hy with hy | rfl
      ·exact .inl ⟨y, hy, hyc, hx⟩
      ·rcases hx with rfl | hx
       ·exact .inr (.inl rfl)
       ·obtain ⟨j, hj, hjx⟩ := List.getElem_of_mem ((hSm x).2 hx)
        exact .inr (.inr ⟨j, hall j hj, by rw [List.getElem?_eq_getElem hj, hjx]⟩)
    ·refine wA ?_
     refine Wf (Xkt hj) rfl ?_
     (repeat (refine wE ?_; intro _)); refine wA ?_
     have hS3 : (S ++ [j]).Nodup := List.nodup_append.2 ⟨hS1, by simp, fun x hx y hy => by simp at hy; subst hy; exact fun e => hjS (e ▸ hx)⟩
     have hS4 : ∀ i ∈ S ++ [j], i < rw_.1.2.length := fun i hi => by
      rcases List.mem_append.1 hi with hi | hi
      ·exact hS2 i hi
      ·simp at hi; subst hi; exact hj
     have hlt2 := Xf6 hS3 hS4
     refine Xai (u := rw_.1.2[j]) rfl (by exact ⟨rfl, rfl, by decide⟩) (by omega) ?_
     intro r4 s4
     refine wz2 ?_
     refine ⟨S ++ [j], o2 ++ [rw_.1.2[j]], r4, s4, ⟨hS3, hS4, by simp; omega, fun x => ?_⟩, by simp at hlt2 ⊢; omega, iI⟩
     rw [List.mem_append, hmem2, List.mem_singleton]
     constructor
     ·rintro ((h | h | ⟨y, hy, hx⟩) | rfl)
      ·exact .inl h
      ·exact .inr (.inl h)
      ·exact .inr (.inr ⟨y, by simp [hy], hx⟩)
      ·exact .inr (.inr ⟨j, by simp, List.getElem?_eq_getElem hj⟩)
     ·rintro (h | h | ⟨y, hy, hx⟩)
      ·exact .inl (.inl h)
      ·exact .inl (.inr (.inl h))
      ·rcases List.mem_append.1 hy with hy | hy
       ·exact .inl (.inr (.inr ⟨y, hy, hx⟩))
       ·simp at hy; subst hy
        rw [List.getElem?_eq_getElem hj] at hx
        injection hx with hx
        exact .inr hx.symm
   ·obtain ⟨hgo, hgk⟩ := Xqd hd
    refine Wf (Xc5 (M := ofM R) (v := .agg ⟨[.int .i64 0, .int .i64 0, .int .i64 0, .slice none 0 0, .int .i64 0, .string .empty, .string .empty, .int .i64 0]⟩) (is := false) A[i] hkO (by rw [hgo]; rfl) (by rw [hgo]; rfl)) rfl ?_
    (repeat (refine wE ?_; intro _)); refine wA ?_
    refine ⟨i + 1, out, r, s, ⟨by omega, Nat.le_trans hol (Nat.mul_le_mul_right 1001 (Nat.le_succ i)), fun x => ?_⟩, by omega, iI⟩
    rw [hom]
    constructor
    ·rintro ⟨y, hy, hx⟩; exact ⟨y, (Xa0 hlt').2 (.inl hy), hx⟩
    ·rintro ⟨y, hy, hyc, hx⟩
     rcases (Xa0 hlt').1 hy with hy | rfl
     ·exact ⟨y, hy, hyc, hx⟩
     ·exact (hd ((hmem _).2 hyc)).elim
  ·obtain rfl : i = A.length := by omega
   rw [List.take_length] at hom
   refine JC.more (fun w1 ho => ho.pub) ?_
   refine wz3 ?_
   refine JR.callBuf rfl (fun w1 hw => X1t w1 _ r s out hw.get (by omega)) ?_
   intro p3 q3
   refine JO.more (fun w1 ho => ho.pub) ?_
   refine wz10 ?_
   refine Xab (Y := AncY L A) ⟨(Xcm (Xc2 out), p3, q3), ⟨Xbz _, (Xce _).nodup_iff.2 (Xcs _), fun _ x => ?_, fun hno => (hno hc).elim⟩⟩ rfl
   rw [Xfj, Xdi, hom, Xqh]
   constructor
   ·rintro ⟨y, hy, hyc, (rfl | hx)⟩
    ·exact ⟨hyc, .inl hy⟩
    ·exact ⟨(Xj2 hx).2, .inr ⟨y, hy, hx⟩⟩
   ·rintro ⟨hx, (hxA | ⟨y, hy, hk⟩)⟩
    ·exact ⟨x, hxA, hx, .inl rfl⟩
    ·exact ⟨y, hy, (Xj2 hk).1, .inr hk⟩
structure PartR (L : List Commit) (A : List ID) (M : List Commit) : Prop where
 part : Closed L → M = L.filter (fun c => decide (idC c ∈ A))
 not : ¬ Closed L → M = []
abbrev X39 (L : List Commit) (A : List ID) := { y : List Commit × Option Addr × Nat // PartR L A y.1 }
theorem X1w (a d : Option Addr) (k m : Nat) (L : List Commit) (A : List ID) (h : (sl a k L).holds F w) (h' : (sl d m A).holds F w) (hl : L.length ≤ 1000) (hf : ∀ x ∈ L, fine x) :
  Gives prog 44 [.slice a L.length k, .slice d A.length m] w F (fun y : X39 L A => .slice y.1.2.1 y.1.1.length y.1.2.2) (fun y => [.st (sl y.1.2.1 y.1.2.2 y.1.1)]) := by
 refine Xaa func44 rfl ntmps44 rfl rfl [.st (sl a k L), .st (sl d m A)] (.start2 h h') ?_
 refine wz10 ?_
 refine JR.call (v := fun y : OfY L => ofV y) rfl (fun w1 hw => Xve w1 _ a k L hw.get (by omega) hf) ?_
 rintro ⟨⟨bo, bk, R, I, p, q, b⟩, hy⟩
 dsimp only [ofV]
 have hIl : I.length ≤ L.length := hy.len
 refine JO.more (Γ' := [.st (sl p q I), .st (sl a k L), .st (sl d m A)]) (fun w1 ho => by
  cases b with
  | false => rw [Xvf hy] at ho; simp only [List.cons_append, List.nil_append] at ho; exact ho.ent
  | true => rw [Xt6 hy] at ho; simp only [List.cons_append, List.nil_append] at ho; exact ho.ent) ?_
 (repeat (refine wE ?_; intro _)); refine wA ?_
 refine JC.buf_nil (α := Commit) 29 ?_
 cases b with
 | false =>
  have hno : ¬ Closed L := fun hc => by have := hy.iff.2 hc; cases this
  refine Xap (fun (i : Nat) => [(0, .slice a L.length k), (1, .slice d A.length m), (6, .slice p I.length q), (7, .bool false), (8, .slice none 0 0), (17, .int .i64 (I.length : Int)), (18, .int .i64 (i : Int))])
   (fun i => [.st (sl p q I), .st (sl a k L), .st (sl d m A)]) (fun i => i ≤ I.length) (fun i => I.length - i) 0 (Nat.zero_le _) iI ?_
  intro i hi
  refine wz11 ?_
  refine JC.test (fun hlt => ?_) (fun hge => ?_)
  ·refine wX ?_
   exact ⟨i + 1, by omega, by omega, iI⟩
  ·refine wz3 ?_
   exact CT.done (Y := X39 L A) ⟨([], none, 0), ⟨fun hc => (hno hc).elim, fun _ => rfl⟩⟩ rfl (fun w ho => (Hold.add (A := sl (α := Commit) none 0 []) (ho.ent : Hold _ _ [] w) Xah))
 | true =>
  have hc := hy.iff.1 rfl
  have hI : I = cids L := hy.ids rfl
  subst hI
  have hcl : (cids L).length = L.length := Xa2 L
  refine Xb7 (fun (i : Nat) (out : List Commit) r s => [(0, .slice a L.length k), (1, .slice d A.length m), (6, .slice p (cids L).length q), (7, .bool true), (8, .slice r out.length s), (17, .int .i64 ((cids L).length : Int)), (18, .int .i64 (i : Int))])
   (fun i out r s => [.res (buf r s 29 out), .st (sl p q (cids L)), .st (sl a k L), .st (sl d m A)]) (fun i out _ _ => i ≤ L.length ∧ out.length ≤ i ∧ out = (L.take i).filter (fun c => decide (idC c ∈ A))) (fun i _ _ _ => L.length - i) 0 [] none 0 ⟨Nat.zero_le _, by simp, by simp⟩ iI ?_
  intro i out r s ⟨hi, hol, hout⟩
  refine wz11 ?_
  refine JC.test (fun hlt => ?_) (fun hge => ?_)
  ·have hlt' : i < L.length := by omega
   have hxe : (cids L)[i]'(by omega) = idC L[i] := Xbm L i (by omega)
   have hfx := hf _ (List.getElem_mem hlt')
   have hnx : (L.take (i + 1)).filter (fun c => decide (idC c ∈ A)) = out ++ (if idC L[i] ∈ A then [L[i]] else []) := by
    rw [List.take_succ_eq_append_getElem hlt', List.filter_append, ← hout]
    congr 1
    by_cases hA : idC L[i] ∈ A <;> simp [hA]
   refine wz7 ?_
   refine Xa9 (L := cids L) rfl (by omega) ?_
   intro bi oi
   rw [hxe]
   refine wz6 ?_
   refine JR.callV rfl (fun w1 hw => Xtl w1 _ d m A (idC L[i]) hw.get) ?_
   refine wz8 ?_
   refine JC.test (fun hA => ?_) (fun hA => ?_)
   ·refine wz14 ?_
    refine Xaf rfl hlt' ?_
    intro b1 o1 p1 q1
    refine wz6 ?_
    refine JR.call1 rfl (fun w1 hw => Xy5 w1 _ (L[i]) p1 q1 hw.get hfx.2) ?_
    rintro ⟨p2, q2⟩
    dsimp only
    (repeat (refine wF ?_; intro _)); refine wX ?_
    refine Xai (u := L[i]) rfl (by exact ⟨rfl, rfl, by decide⟩) (by omega) ?_
    intro r2 s2
    refine wz2 ?_
    exact ⟨i + 1, out ++ [L[i]], r2, s2, ⟨by omega, by simp; omega, by rw [hnx, if_pos hA]⟩, by omega, iI⟩
   ·refine wz2 ?_
    exact ⟨i + 1, out, r, s, ⟨by omega, by omega, by rw [hnx, if_neg hA, List.append_nil]⟩, by omega, iI⟩
  ·obtain rfl : i = L.length := by omega
   rw [List.take_length] at hout
   refine JC.more (fun w1 ho => ho.pub) ?_
   refine wz3 ?_
   exact Xab (Y := X39 L A) ⟨(out, r, s), ⟨fun _ => hout, fun hn => (hn hc).elim⟩⟩ rfl
def leS (c d : Commit) : Prop := c.gen < d.gen ∨ (c.gen = d.gen ∧ idLt (idC d) (idC c) = false)
structure SortedR (L M : List Commit) : Prop where
 perm : Closed L → M.Perm L
 sorted : Closed L → M.Pairwise leS
 not : ¬ Closed L → M = []
theorem Xoe {L M N : List Commit} (h : (cids L).Nodup) (h1 : M.Perm L) (h2 : N.Perm L) (h3 : M.Pairwise leS) (h4 : N.Pairwise leS) : M = N := by
 refine List.Perm.eq_of_pairwise (le := leS) (fun c d hc hd h5 h6 => ?_) h3 h4 (h1.trans h2.symm)
 have e : idC c = idC d := by
  rcases h5 with h5 | ⟨h5, h7⟩ <;> rcases h6 with h6 | ⟨h6, h8⟩
  ·omega
  ·omega
  ·omega
  ·exact Xkv h8 h7
 exact Xr7 h (h1.mem_iff.1 hc) (h2.mem_iff.1 hd) e
abbrev Xwt (L : List Commit) := { y : List Commit × Option Addr × Nat // SortedR L y.1 }
def idAt (L : List Commit) (i : Nat) : ID := idC (L.getD i Xdt)
def cfS (L : List Commit) (i j : Nat) : Int := orL [cmpI (genC L i) (genC L j), Xgz (idAt L i) (idAt L j)]
theorem Xsi (a b : Int) : cmpI a b ≠ 0 ↔ a ≠ b := by
 unfold cmpI
 split
 ·simp; omega
 ·split
  ·simp; omega
  ·simp; omega
theorem X22 (L : List Commit) (i j : Nat) : cfS L i j < 0 ↔ genC L i < genC L j ∨ (genC L i = genC L j ∧ idLt (idAt L i) (idAt L j) = true) := by
 unfold cfS
 simp only [orL]
 by_cases h : genC L i = genC L j
 ·rw [if_neg (by rw [Xsi]; simpa using h)]
  have : (if Xgz (idAt L i) (idAt L j) ≠ 0 then Xgz (idAt L i) (idAt L j) else 0) = Xgz (idAt L i) (idAt L j) := by split <;> simp_all
  rw [this]
  simp [h, idLt]
 ·rw [if_pos (by rw [Xsi]; exact h), Xt5]
  simp [h]
theorem Xwu (L : List Commit) : Go.Sort.SWO (Go.Proofs.ltOf (cfS L)) := by
 have h : ∀ i j, Go.Proofs.ltOf (cfS L) i j = true ↔ genC L i < genC L j ∨ (genC L i = genC L j ∧ idLt (idAt L i) (idAt L j) = true) := fun i j => by
  simp only [Go.Proofs.ltOf, decide_eq_true_eq, X22]
 have h' : ∀ i j, Go.Proofs.ltOf (cfS L) i j = false ↔ ¬ (genC L i < genC L j ∨ (genC L i = genC L j ∧ idLt (idAt L i) (idAt L j) = true)) := fun i j => by
  rw [← h]; simp
 refine ⟨fun x => ?_, fun x y z h1 h2 => ?_, fun x y z h1 h2 => ?_⟩
 ·rw [h']; simp [Xg0]
 ·rw [h] at h1 h2 ⊢
  rcases h1 with h1 | ⟨h1, h3⟩ <;> rcases h2 with h2 | ⟨h2, h4⟩
  ·exact .inl (by omega)
  ·exact .inl (by omega)
  ·exact .inl (by omega)
  ·exact .inr ⟨by omega, Xku h3 h4⟩
 ·rw [h'] at h1 h2 ⊢
  rintro (h3 | ⟨h3, h4⟩)
  ·have h5 : ¬ genC L x < genC L y := fun h => h1 (.inl h)
   have h6 : ¬ genC L y < genC L z := fun h => h2 (.inl h)
   omega
  ·have h5 : ¬ genC L x < genC L y := fun h => h1 (.inl h)
   have h6 : ¬ genC L y < genC L z := fun h => h2 (.inl h)
   have e1 : genC L x = genC L y := by omega
   have e2 : genC L y = genC L z := by omega
   have h7 : idLt (idAt L x) (idAt L y) = false := by rw [← Bool.not_eq_true]; exact fun h => h1 (.inr ⟨e1, h⟩)
   have h8 : idLt (idAt L y) (idAt L z) = false := by rw [← Bool.not_eq_true]; exact fun h => h2 (.inr ⟨e2, h⟩)
   have := Xfd h8 h7
   rw [this] at h4; cases h4
theorem Xni {w0 w : World} {F : Nat → Prop} {Γ : List Fact} {b c el bl ba k m : Nat} {a d : Option Addr} {L : List Commit} (hl : L.length ≤ 1000000)
  (ho : Hold w0 F (.own b el ((List.range L.length).map natV) :: .st (ro bl 0 [.slice a L.length k]) :: .st (sl a k L) :: .st (ro ba 0 [.slice d (cids L).length m]) :: .st (sl d m (cids L)) :: Γ) w) :
  Calls prog 69 ⟨[.slice (some ⟨b, 0, none⟩) L.length c, .func (.func 70) ⟨[]⟩ ⟨[.pointer (some ⟨bl, 0, none⟩), .pointer (some ⟨ba, 0, none⟩)]⟩]⟩ w fun x w' =>
   ∃ O : Xzb (cfS L) L.length, x = .returned (.tuple ⟨[]⟩) ∧ Hold w0 F (.own b el (O.1.map natV) :: .st (ro bl 0 [.slice a L.length k]) :: .st (sl a k L) :: .st (ro ba 0 [.slice d (cids L).length m]) :: .st (sl d m (cids L)) :: Γ) w' := by
 refine Xo4 Xzc _ (Xwu L) _ _ hl ho (fun W hW x y hx hy => ?_)
 have h1 := hW (sl a k L) (ho.get (A := sl a k L))
 have h2 := hW (ro bl 0 [.slice a L.length k]) (ho.get (A := ro bl 0 [.slice a L.length k]))
 have h3 := hW (sl d m (cids L)) (ho.get (A := sl d m (cids L)))
 have h4 := hW (ro ba 0 [.slice d (cids L).length m]) (ho.get (A := ro ba 0 [.slice d (cids L).length m]))
 have hx' : x < (cids L).length := by rw [Xa2]; exact hx
 have hy' : y < (cids L).length := by rw [Xa2]; exact hy
 have := @Xt1 ⟨True⟩ W _ a d k m bl ba L (cids L) x y hx hy hx' hy' h1 h2 h3 h4
 rw [Xbm L x hx', Xbm L y hy'] at this
 simpa [cfS, genC, idAt, List.getD_eq_getElem?_getD, hx, hy] using this
theorem Xwv (a : Option Addr) (k : Nat) (L : List Commit) (h : (sl a k L).holds F w) (hl : L.length ≤ 1000) (hf : ∀ x ∈ L, fine x) :
  Gives prog 26 [.slice a L.length k] w F (fun y : Xwt L => .slice y.1.2.1 y.1.1.length y.1.2.2) (fun y => [.st (sl y.1.2.1 y.1.2.2 y.1.1)]) := by
 refine Xaa func26 rfl ntmps26 rfl rfl [.st (sl a k L)] (.start1 h) ?_
 (repeat (refine wE ?_; intro _)); refine wA ?_
 rename_i b1
 refine JR.pubOwn b1 ?_
 refine JR.call (v := fun y : OfY L => ofV y) rfl (fun w1 hw => Xve w1 _ a k L hw.get (by omega) hf) ?_
 rintro ⟨⟨bo, bk, R, I, p, q, b⟩, hy⟩
 dsimp only [ofV]
 refine JO.more (Γ' := [.st (sl p q I), .st (ro b1 0 [.slice a L.length k]), .st (sl a k L)]) (fun w1 ho => by
  cases b with
  | false => rw [Xvf hy] at ho; simp only [List.cons_append, List.nil_append] at ho; exact ho.ent
  | true => rw [Xt6 hy] at ho; simp only [List.cons_append, List.nil_append] at ho; exact ho.ent) ?_
 (repeat (refine wE ?_; intro _)); refine wA ?_
 cases b with
 | false =>
  have hno : ¬ Closed L := fun hc => by have := hy.iff.2 hc; cases this
  refine wz8 ?_
  exact CT.done (Y := Xwt L) ⟨([], none, 0), ⟨fun hc => (hno hc).elim, fun hc => (hno hc).elim, fun _ => rfl⟩⟩ rfl (fun w ho => (Hold.add (A := sl (α := Commit) none 0 []) (ho.ent : Hold _ _ [] w) Xah))
 | true =>
  have hc := hy.iff.1 rfl
  have hI : I = cids L := hy.ids rfl
  subst hI
  have hcl : (cids L).length = L.length := Xa2 L
  refine wA ?_
  rename_i b3 b4
  refine Xmw rfl rfl (by omega) ?_
  intro bO
  refine wz4 ?_
  refine JC.pubOwn b4 ?_
  refine Xap (fun (i : Nat) => [(1, .pointer (some ⟨b1, 0, none⟩)), (4, .pointer (some ⟨b4, 0, none⟩)), (6, .slice (some ⟨bO, 0, none⟩) L.length L.length), (23, .int .i64 (L.length : Int)), (24, .int .i64 (i : Int))])
   (fun i => .own bO 3 ((List.range i ++ List.replicate (L.length - i) 0).map natV) :: .st (ro b1 0 [.slice a L.length k]) :: .st (sl a k L) :: .st (ro b4 0 [.slice p (cids L).length q]) :: .st (sl p q (cids L)) :: [])
   (fun i => i ≤ L.length) (fun i => L.length - i) 0 (Nat.zero_le _) (by rw [List.range_zero, List.nil_append, Nat.sub_zero]; infer_instance) ?_
  intro i hi
  refine wz11 ?_
  refine JC.test (fun hlt => ?_) (fun hge => ?_)
  ·have hlt' : i < L.length := by omega
   have e : (List.range i ++ List.replicate (L.length - i) 0).set i i = List.range (i + 1) ++ List.replicate (L.length - (i + 1)) 0 := by
    obtain ⟨m, hm⟩ : ∃ m, L.length - i = m + 1 := ⟨L.length - i - 1, by omega⟩
    rw [hm, List.replicate_succ, List.set_append_right _ _ (by simp), List.length_range, Nat.sub_self, List.set_cons_zero, List.range_succ, List.append_assoc, show L.length - (i + 1) = m by omega]
    rfl
   refine wz7 ?_
   refine Wf (Xbr (k := i) hlt') rfl ?_
   refine We rfl ?_
   refine Xdr (f := natV) i i (by simp; omega) (by omega) rfl ?_
   rw [e]
   refine wz2 ?_
   exact ⟨i + 1, by omega, by omega, iI⟩
  obtain rfl : i = L.length := by omega
  rw [show List.range L.length ++ List.replicate (L.length - L.length) 0 = List.range L.length by simp]
  refine wA ?_
  refine Xbk (v := fun _ : Xzb (cfS L) L.length => .tuple ⟨[]⟩) rfl (fun w1 hw => Xni (el := 3) (a := a) (k := k) (d := p) (m := q) (Γ := []) (by omega) hw.ent) ?_
  rintro ⟨O, hO1, hO2⟩
  dsimp only
  have hOl : O.length = L.length := by rw [hO1.length_eq, List.length_range]
  refine wz4 ?_
  refine JC.buf_nil (α := Commit) 29 ?_
  refine Xby (fun (i : Nat) r s => [(1, .pointer (some ⟨b1, 0, none⟩)), (8, .slice r (byO L (O.take i)).length s), (35, .slice (some ⟨bO, 0, none⟩) L.length L.length), (36, .int .i64 (L.length : Int)), (37, .int .i64 (i : Int))])
   (fun i r s => .res (buf r s 29 (byO L (O.take i))) :: .own bO 3 (O.map natV) :: .st (ro b1 0 [.slice a L.length k]) :: .st (sl a k L) :: [])
   (fun i _ _ => i ≤ L.length) (fun i _ _ => L.length - i) 0 none 0 (Nat.zero_le _) (by rw [List.take_zero, show byO L [] = [] from rfl]; infer_instance) ?_
  intro i r s hi
  refine wz11 ?_
  refine JC.test (fun hlt => ?_) (fun hge => ?_)
  ·have hlt' : i < L.length := by omega
   have hiO : i < O.length := by omega
   obtain ⟨j, hj⟩ : ∃ j, j = O[i] := ⟨_, rfl⟩
   have hjn : j < L.length := by rw [hj]; exact List.mem_range.1 (hO1.mem_iff.1 (List.getElem_mem hiO))
   have hfx := hf _ (List.getElem_mem hjn)
   have hnx : byO L (O.take (i + 1)) = byO L (O.take i) ++ [L[j]] := by
    rw [List.take_succ_eq_append_getElem hiO, byO, List.map_append, ← hj]
    simp [byO, List.getD_eq_getElem?_getD, hjn]
   have hbl : (byO L (O.take i)).length ≤ i := by simp [byO]; omega
   refine wz14 ?_
   refine Wf (Xbr (k := i) (by omega)) rfl ?_
   refine We rfl ?_
   refine Wf (Xam (f := natV) i (by omega) (by omega) rfl) rfl ?_
   refine JO.reslot 40 (natV j) (by rw [hj]) ?_
   refine wz9 ?_
   refine Xaf rfl hjn ?_
   intro bc oc pc qc
   refine wz6 ?_
   refine JR.call1 rfl (fun w1 hw => Xy5 w1 _ (L[j]) pc qc hw.get hfx.2) ?_
   rintro ⟨p2, q2⟩
   dsimp only
   (repeat (refine wE ?_; intro _)); refine wA ?_
   refine Xai (u := L[j]) rfl (by exact ⟨rfl, rfl, by decide⟩) (by omega) ?_
   intro r2 s2
   refine wz2 ?_
   exact ⟨i + 1, r2, s2, by omega, by omega, by rw [hnx]; infer_instance⟩
  ·obtain rfl : i = L.length := by omega
   rw [List.take_of_length_le (by omega)]
   refine JC.more (fun w1 ho => ho.pub) ?_
   refine wz3 ?_
   refine Xab (Y := Xwt L) ⟨(byO L O, r, s), ⟨fun _ => Xqf hO1, fun _ => ?_, fun hn => (hn hc).elim⟩⟩ rfl
   rw [byO, List.pairwise_map]
   refine hO2.imp ?_
   intro i j hij
   rw [X22] at hij
   simp only [leS]
   by_cases h1 : genC L j < genC L i
   ·exact (hij (.inl h1)).elim
   ·by_cases h2 : genC L i < genC L j
    ·exact .inl h2
    ·refine .inr ⟨(by have e : genC L i = genC L j := (by omega); exact e), ?_⟩
     rw [← Bool.not_eq_true]
     exact fun h => hij (.inr ⟨by omega, h⟩)
end
section
attribute [local irreducible] Xay
def keyA : ByteArray := ⟨#[97]⟩
def l0 : Commit := ⟨⟨0, 1⟩, 1, [], ⟨0, keyA, .empty, 1⟩⟩
def idA : ID := (Xay l0).1
def l1 : Commit := ⟨⟨0, 2⟩, 2, [idA], ⟨0, keyA, .empty, 2⟩⟩
end
end
section
attribute [local irreducible] JC JO JR JQ andThen inBlock OpV Gives Xan JM JS
theorem X1x (x : ID) (M : List ID) (h : x ∉ M) : Xbg [x] M false = [x] := by
 simp [Xbg, Xds, Xc2, h, addK, Xcm]
attribute [local irreducible] Xay idA l0 l1
theorem X1y {F : Nat → Prop} {w : World} {b : Nat} {x : ID} (h : (ro b 0 (idc x)).holds F w) : (sl (some ⟨b, 0, none⟩) 1 [x]).holds F w := by
 refine ⟨by simp, by simp [maxLen], by simp [lim], fun _ => ⟨b, 0, rfl, h.1, h.2.1, fun i hi => ⟨(), ?_, by simp [Cell.facts]⟩⟩⟩
 have h0 : i = 0 := by simpa using hi
 subst h0
 rw [Nat.zero_mul, Nat.add_zero]
 exact h.2.2
end
section
attribute [local irreducible] JC JO JR JQ andThen inBlock OpV Gives Xan JM JS
section
attribute [local irreducible] Xay
theorem Xww (a : Option Addr) (k : Nat) (L : List Commit) (h : (sl a k L).holds F w) (hl : L.length ≤ 1000000) (hf : ∀ x ∈ L, fine x) (hc : Closed L) :
  GivesV prog 25 [.slice a L.length k] w F (.bool true) := by
 have h0 := Xk5 w F a k L h hl hf
 unfold Gives at h0
 unfold GivesV Gives
 refine Calls.mono h0 ?_
 rintro e w' ⟨y, rfl, hb, hB⟩
 exact ⟨(), by dsimp only; rw [y.2.2 hc], hb, hB⟩
theorem Xzd (a : Option Addr) (k : Nat) (L : List Commit) (h : (sl a k L).holds F w) (hl : L.length ≤ 1000000) (hf : ∀ x ∈ L, fine x) (hc : ¬ Closed L) :
  GivesV prog 25 [.slice a L.length k] w F (.bool false) := by
 have h0 := Xk5 w F a k L h hl hf
 unfold Gives at h0
 unfold GivesV Gives
 refine Calls.mono h0 ?_
 rintro e w' ⟨y, rfl, hb, hB⟩
 refine ⟨(), ?_, hb, hB⟩
 have : y.1 = false := by rw [← Bool.not_eq_true]; exact fun h => hc (y.2.1 h)
 dsimp only
 rw [this]
theorem X5c (a d : Option Addr) (k m : Nat) (L : List Commit) (A M : List ID) (h : (sl a k L).holds F w) (h' : (sl d m A).holds F w) (hl : L.length ≤ 1000) (hA : A.length ≤ 1000) (hf : ∀ x ∈ L, fine x) (hM : AncR L A M) :
  Xbw prog 45 [.slice a L.length k, .slice d A.length m] w F M := by
 have h0 := X38 w F a d k m L A h h' hl hA hf
 unfold Gives at h0
 unfold Xbw Gives
 refine Calls.mono h0 ?_
 rintro e w' ⟨⟨⟨N, p, q⟩, hN⟩, rfl, hb, hB⟩
 have : N = M := hN.unique hM
 subst this
 exact ⟨(p, q), rfl, hb, hB⟩
theorem X23 (L : List Commit) (A : List ID) : ∃ M, AncR L A M := by
 by_cases hc : Closed L
 ·refine ⟨Xcm ((cids L).filter fun x => @decide (Xqh L A x) (Classical.propDecidable _)), Xbz _, (Xce _).nodup_iff.2 (hc.nodup.sublist List.filter_sublist), fun _ x => ?_, fun h => (h hc).elim⟩
  rw [Xfj, List.mem_filter]
  constructor
  ·rintro ⟨_, h⟩; exact @of_decide_eq_true _ (Classical.propDecidable _) h
  ·intro h; exact ⟨h.1, @decide_eq_true _ (Classical.propDecidable _) h⟩
 ·exact ⟨[], List.Pairwise.nil, List.nodup_nil, fun h => (hc h).elim, fun _ => rfl⟩
theorem Xqi (a b : Option Addr) (k m : Nat) (L : List Commit) (H : List ID) (rc : Commit) (rl : List Commit) (rb : Bool) (hR : Xa8 L H = (rc, rl, rb)) (h : (sl a k L).holds F w) (h' : (sl b m H).holds F w) (hl : L.length < 34359738368) (hf : ∀ x ∈ L, fine x) :
  Gives prog 205 [.slice a L.length k, .slice b H.length m] w F
   (fun y : (Option Addr × Nat) × (Option Addr × Nat) => .tuple ⟨[Xax rc y.1.1 y.1.2, .slice y.2.1 rl.length y.2.2, .bool rb]⟩)
   (fun y => [.st (sl y.1.1 y.1.2 rc.parents), .st (sl y.2.1 y.2.2 rl)]) := by
 have := Xwe w F a b k m L H h h' hl hf
 rw [hR] at this
 exact this
theorem X1z {c : Commit} (h : fewC c = true) : fine c := by
 simp only [fewC, Bool.and_eq_true, decide_eq_true_eq] at h
 exact ⟨⟨by omega, by omega⟩, by omega⟩
theorem Xl8 {L : List Commit} {m : Nat} (h : fewL L m = true) : L.length ≤ m ∧ ∀ x ∈ L, fine x := by
 simp only [fewL, Bool.and_eq_true, decide_eq_true_eq, List.all_eq_true] at h
 exact ⟨h.1, fun x hx => X1z (h.2 x hx)⟩
instance : Cell (List ID) where
 Ix := Option Addr × Nat
 sz := 1
 cells l y := [.slice y.1 l.length y.2]
 facts l y := [sl y.1 y.2 l]
 len _ _ := rfl
 one l y := by simp [Value.oneCell']
 pos := by decide
section
variable {P : Program} {n : Nn} {w0 : World} {F : Nat → Prop} {ops : Array Oper} {i d : Nat} {t : TypeId} {pos : String} {aft : Array Edge} {g : Option (Nat × Bool)} {os : List Oper} {Q : Cont} {e : E} {Γ : List Fact}
end
end
section
attribute [local irreducible] Xay idA l0 l1 ents
theorem AncR.ids {L : List Commit} (hc : Closed L) {A X : List ID} (h : AncR L A X) {x : ID} (hx : x ∈ X) : x ∈ cids L := ((h.mem hc x).1 hx).1
open Classical in
noncomputable def closedB (L : List Commit) : Bool := decide (Closed L)
theorem Xcf {L : List Commit} : closedB L = true ↔ Closed L := by simp [closedB]
theorem Xfw {L : List Commit} (h : Closed L) : closedB L = true := Xcf.2 h
theorem Xo5 {L : List Commit} (h : ¬ Closed L) : closedB L = false := by rw [← Bool.not_eq_true, Xcf]; exact h
noncomputable def ancF (L : List Commit) (A : List ID) : List ID := Classical.choose (X23 L A)
theorem Xt7 (L : List Commit) (A : List ID) : AncR L A (ancF L A) := Classical.choose_spec (X23 L A)
noncomputable def partF (L : List Commit) (A : List ID) : List Commit := if closedB L then L.filter (fun c => decide (idC c ∈ A)) else []
theorem Xvg (L : List Commit) (A : List ID) : PartR L A (partF L A) :=
 ⟨fun h => by rw [partF, Xfw h, if_pos rfl], fun h => by rw [partF, Xo5 h]; rfl⟩
noncomputable def frontF (L : List Commit) : List ID := if closedB L then Xbg (cids L) (Xav L) false else []
def topL (L : List Commit) : Int := L.foldl (fun g c => max g c.gen) 0
def X5d (g : Int) (f : List ID) : Commit := ⟨⟨-1, 0⟩, g, f, op0⟩
def X5e (g : Int) (f : List ID) : Commit × Bool := if merge (X5d g f) then (X5d g f, true) else (Xdt, false)
noncomputable def joinF (L : List Commit) (A : List ID) : Commit × Bool :=
 match frontF (partF L (ancF L A)) with
 | [] => (Xdt, false)
 | [x] => X50 L x
 | f => X5e (topL (partF L f) + 1) f
noncomputable def headF (L : List Commit) : Commit × Bool := joinF L (idsP L)
noncomputable def baseF (L : List Commit) (A B : List ID) : List ID := Xbg (ancF L A) (ancF L B) true
noncomputable def nextC (L : List Commit) (ev : Ev_) (o : Op_) : Commit := ⟨ev, topL L + 1, frontF L, o⟩
noncomputable def nextF (L : List Commit) (ev : Ev_) (o : Op_) : Commit × Bool :=
 if closedB L && may (nextC L ev o) && closedB (L ++ [nextC L ev o]) then (nextC L ev o, true) else (Xdt, false)
theorem Xsj {A B : List ID} {x : ID} : x ∈ Xbg A B false ↔ x ∈ A ∧ x ∉ B := by
 rw [Xbg, Xfj, Xdi, Xds, List.mem_filter]
 simp
theorem Xwx (A B : List ID) (w : Bool) : (Xbg A B w).Nodup := by unfold Xbg; exact (Xce _).nodup_iff.2 (Xcs _)
theorem Xt8 (A B : List ID) (w : Bool) : (Xbg A B w).Pairwise (fun x y => idLt y x = false) := by unfold Xbg; exact Xbz _
theorem Xsk {L : List Commit} {x : ID} : x ∈ Xav L ↔ ∃ c ∈ L, x ∈ c.parents := by simp [Xav]
theorem Xj7 {L : List Commit} (hc : Closed L) {x : ID} : x ∈ frontF L ↔ x ∈ cids L ∧ ∀ c ∈ L, x ∉ c.parents := by
 rw [frontF, Xfw hc, if_pos rfl, Xsj, Xsk]
 simp
theorem Xsl {L : List Commit} (hc : ¬ Closed L) : frontF L = [] := by rw [frontF, Xo5 hc]; rfl
theorem Xt9 (L : List Commit) : (frontF L).Nodup := by
 unfold frontF; split
 ·exact Xwx _ _ _
 ·exact List.nodup_nil
theorem Xsm (L : List Commit) : (frontF L).Pairwise (fun x y => idLt y x = false) := by
 unfold frontF; split
 ·exact Xt8 _ _ _
 ·exact List.Pairwise.nil
theorem Xwy {L : List Commit} (hc : Closed L) : ∀ (n : Nat) (x : ID), x ∈ cids L → (topL L - Xd4 L x).toNat ≤ n → x ∈ frontF L ∨ ∃ y ∈ frontF L, Xdl L y x := by
 have htop : ∀ x ∈ cids L, Xd4 L x ≤ topL L := fun x hx => by
  obtain ⟨c, hm, rfl⟩ := Xbl.1 hx
  rw [Xeq hc.nodup hm]
  have key : ∀ (M : List Commit) (g : Int), g ≤ M.foldl (fun g c => max g c.gen) g ∧ ∀ d ∈ M, d.gen ≤ M.foldl (fun g c => max g c.gen) g := by
   intro M
   induction M with
   | nil => intro g; exact ⟨Int.le_refl _, by simp⟩
   | cons e M ih =>
    intro g
    obtain ⟨h1, h2⟩ := ih (max g e.gen)
    refine ⟨by simp only [List.foldl_cons]; omega, fun d hd => ?_⟩
    rcases List.mem_cons.1 hd with rfl | hd
    ·simp only [List.foldl_cons]; omega
    ·exact h2 d hd
  exact (key L 0).2 c hm
 intro n
 induction n with
 | zero =>
  intro x hx hn
  refine .inl ((Xj7 hc).2 ⟨hx, fun c hm hp => ?_⟩)
  have h1 := hc.par_gen (x := idC c) (y := x) ⟨c, hm, rfl, hp, hx⟩
  have h2 := htop (idC c) (Xbl.2 ⟨c, hm, rfl⟩)
  omega
 | succ n ih =>
  intro x hx hn
  by_cases hf : ∀ c ∈ L, x ∉ c.parents
  ·exact .inl ((Xj7 hc).2 ⟨hx, hf⟩)
  ·obtain ⟨c, hm, hp⟩ : ∃ c, c ∈ L ∧ x ∈ c.parents := by
    apply Classical.byContradiction
    intro hn'
    exact hf fun c hm hp => hn' ⟨c, hm, hp⟩
   have hpar : par L (idC c) x := ⟨c, hm, rfl, hp, hx⟩
   have h1 := hc.par_gen hpar
   have h2 := htop (idC c) (Xbl.2 ⟨c, hm, rfl⟩)
   rcases ih (idC c) (Xbl.2 ⟨c, hm, rfl⟩) (by omega) with h | ⟨y, hy, hk⟩
   ·exact .inr ⟨idC c, h, .single hpar⟩
   ·exact .inr ⟨y, hy, .tail hk hpar⟩
theorem Xze {L : List Commit} (hc : Closed L) {x : ID} (hx : x ∈ cids L) : x ∈ frontF L ∨ ∃ y ∈ frontF L, Xdl L y x := Xwy hc _ x hx (Nat.le_refl _)
theorem Xsn {L : List Commit} (hc : Closed L) : frontF L = [] ↔ L = [] := by
 constructor
 ·intro h
  cases L with
  | nil => rfl
  | cons c L =>
   rcases Xze hc (x := idC c) (Xbl.2 ⟨c, by simp, rfl⟩) with h1 | ⟨y, h1, _⟩ <;> (rw [h] at h1; cases h1)
 ·rintro rfl
  rw [List.eq_nil_iff_forall_not_mem]
  intro x hx
  have := ((Xj7 hc).1 hx).1
  simp [cids] at this
end
theorem X4a (b c : UInt32) : b - (c &&& b) = b &&& ~~~c := by
 have h : (c &&& b) + (b &&& ~~~c) = b := by
  apply UInt32.toBitVec_inj.1
  simp only [UInt32.toBitVec_add, UInt32.toBitVec_and, UInt32.toBitVec_not]
  rw [BitVec.add_eq_or_of_and_eq_zero]
  ·ext i hi
   simp
   cases c.toBitVec[i] <;> simp
  ·ext i hi
   simp
   cases c.toBitVec[i] <;> simp
 have h2 : b - (c &&& b) = (c &&& b) + (b &&& ~~~c) - (c &&& b) := by rw [h]
 rw [h2, UInt32.add_comm, UInt32.add_sub_cancel]
theorem X10 (c a b : UInt32) : GivesV prog 236 [w32 c, w32 a, w32 b] w F (w32 (Xu1 c a b)) := by
 refine Xaa func236 rfl ntmps236 rfl rfl [] (.start w F) ?_
 refine z4z ?_
 exact Xab () (by simp only [Xae, Xu1, X4a])
theorem X4b (a b c : UInt32) : ((a &&& b) ||| (a &&& c)) ||| (b &&& c) = Xrm a b c := by
 apply UInt32.toBitVec_inj.1
 simp only [Xrm, UInt32.toBitVec_or, UInt32.toBitVec_and, UInt32.toBitVec_xor]
 ext i hi
 simp
 cases a.toBitVec[i] <;> cases b.toBitVec[i] <;> cases c.toBitVec[i] <;> rfl
theorem X11 (a b c : UInt32) : GivesV prog 237 [w32 a, w32 b, w32 c] w F (w32 (Xrm a b c)) := by
 refine Xaa func237 rfl ntmps237 rfl rfl [] (.start w F) ?_
 refine z4z ?_
 exact Xab () (by simp only [Xae, X4b])
theorem Xdm (x : UInt32) (k : Nat) (hk : 1 ≤ k ∧ k ≤ 31) : GivesV prog 235 [w32 x, .int .i64 (k : Int)] w F (w32 (rotR x k)) := by
 refine Xaa func235 rfl ntmps235 rfl rfl [] (.start w F) ?_
 refine z4z ?_
 refine Wf (OpV.rem (by decide)) rfl ?_
 refine JO.reslot 6 (.int .i64 (k : Int)) (by congr 1; rw [Int.tmod_eq_emod_of_nonneg (by omega)]; omega) ?_
 refine z4z ?_
 refine wz2 ?_
 refine Wf (Xb3 (by rw [Xbn]; omega)) rfl ?_
 refine We rfl ?_
 refine Wf (Xgi (k := k) (by omega)) rfl ?_
 refine wA ?_
 refine Wf (Xb3 (by rw [Xbn]; omega)) rfl ?_
 refine We rfl ?_
 refine Wf (Xd6 (k := 32 - k) (by omega)) rfl ?_
 refine z4z ?_
 exact Xab () rfl
set_option maxRecDepth 20000 in
theorem Xzf (a b c d : UInt8) : X3o a b c d = 16777216 * a.toUInt32 + 65536 * b.toUInt32 + 256 * c.toUInt32 + d.toUInt32 := by
 have ha := a.toNat_lt
 have hb := b.toNat_lt
 have hc := c.toNat_lt
 have hd := d.toNat_lt
 have e1 := Nat.shiftLeft_add_eq_or_of_lt (i := 8) (by omega : d.toNat < 2 ^ 8) c.toNat
 have e2 := Nat.shiftLeft_add_eq_or_of_lt (i := 16) (by omega : c.toNat * 256 + d.toNat < 2 ^ 16) b.toNat
 have e3 := Nat.shiftLeft_add_eq_or_of_lt (i := 24) (by omega : b.toNat * 65536 + (c.toNat * 256 + d.toNat) < 2 ^ 24) a.toNat
 simp only [Nat.shiftLeft_eq] at e1 e2 e3
 apply UInt32.toNat_inj.1
 simp only [X3o, Xcl, UInt32.toNat_or, UInt32.toNat_ofNat', UInt8.toNat_toUInt32, UInt32.toNat_add, UInt32.toNat_mul]
 rw [Nat.mod_eq_of_lt (by omega : a.toNat * 2 ^ 24 < 2 ^ 32), Nat.mod_eq_of_lt (by omega : b.toNat * 2 ^ 16 < 2 ^ 32), Nat.mod_eq_of_lt (by omega : c.toNat * 2 ^ 8 < 2 ^ 32)]
 rw [Nat.or_assoc, Nat.or_assoc, ← e1, ← e2, ← e3]
 have l1 : (16777216 : UInt32).toNat = 16777216 := by decide
 have l2 : (65536 : UInt32).toNat = 65536 := by decide
 have l3 : (256 : UInt32).toNat = 256 := by decide
 rw [l1, l2, l3, Nat.mod_eq_of_lt (a := 16777216 * a.toNat) (by omega), Nat.mod_eq_of_lt (a := 65536 * b.toNat) (by omega), Nat.mod_eq_of_lt (a := 256 * c.toNat) (by omega), Nat.mod_eq_of_lt (a := 16777216 * a.toNat + 65536 * b.toNat) (by omega), Nat.mod_eq_of_lt (a := 16777216 * a.toNat + 65536 * b.toNat + 256 * c.toNat) (by omega), Nat.mod_eq_of_lt (by omega)]
 clear e1 e2 e3 l1 l2 l3
 omega
theorem Xvh {L : List UInt8} {j : Nat} (h : j < L.length) : Value.int .u32 (IntKind.u32.wrap ((L[j]).toNat : Int)) = w32 (L.getD j 0).toUInt32 := by
 rw [Xm6]; simp [List.getD_eq_getElem?_getD, h]
theorem X12 (a : Option Addr) (c : Nat) (L : List UInt8) (k : Nat) (h : (sl a c L).holds F w) (hk : k + 4 ≤ L.length) :
  GivesV prog 257 [.slice a L.length c, .int .i64 (k : Int)] w F (.tuple ⟨[w32 (Xor L k), .bool true]⟩) := by
 have hL : L.length < 9223372036854775800 := by have := h.2.2.1; simp only [lim] at this; omega
 refine Xaa func257 rfl ntmps257 rfl rfl [.st (sl a c L)] (.start1 h) ?_
 refine wA ?_
 refine JC.reslot 14 (.bool false) (by congr 1; simp only [decide_eq_false_iff_not]; omega) ?_
 refine wz7 ?_
 refine Xgw (.slice a L.length c) k (by omega) ?_
 intro b0 o0
 refine Xgw (.slice a L.length c) (k + 1) (by omega) ?_
 intro b1 o1
 refine Xgw (.slice a L.length c) (k + 2) (by omega) ?_
 intro b2 o2
 refine Xgw (.slice a L.length c) (k + 3) (by omega) ?_
 intro b3 o3
 refine Xa6 mixed (by kernel_rfl) ?_
 refine Wy rfl Va rfl ?_
 refine Wy rfl Va rfl ?_
 refine Wy rfl Ve rfl ?_
 refine Wy rfl Vc rfl ?_
 refine Wy rfl Xaq rfl ?_
 refine JQ.reslot 19 (w32 (L.getD k 0).toUInt32) (Xvh _) ?_
 refine Wy rfl Xbh rfl ?_
 refine Wy rfl Va rfl ?_
 refine Wy rfl Va rfl ?_
 refine Wy rfl (Vs (by omega)) rfl ?_
 refine Wy rfl Ve rfl ?_
 refine Wy rfl Vc rfl ?_
 refine Wy rfl Xaq rfl ?_
 refine JQ.reslot 26 (w32 (L.getD (k + 1) 0).toUInt32) (Xvh _) ?_
 refine Wy rfl Xbh rfl ?_
 refine Wy rfl Xag rfl ?_
 refine Wy rfl Va rfl ?_
 refine Wy rfl Va rfl ?_
 refine Wy rfl (Vs (by omega)) rfl ?_
 refine Wy rfl Ve rfl ?_
 refine Wy rfl Vc rfl ?_
 refine Wy rfl Xaq rfl ?_
 refine JQ.reslot 34 (w32 (L.getD (k + 2) 0).toUInt32) (Xvh _) ?_
 refine Wy rfl Xbh rfl ?_
 refine Wy rfl Xag rfl ?_
 refine Wy rfl Va rfl ?_
 refine Wy rfl Va rfl ?_
 refine Wy rfl (Vs (by omega)) rfl ?_
 refine Wy rfl Ve rfl ?_
 refine Wy rfl Vc rfl ?_
 refine Wy rfl Xaq rfl ?_
 refine JQ.reslot 42 (w32 (L.getD (k + 3) 0).toUInt32) (Xvh _) ?_
 refine Wy rfl Xag rfl ?_
 refine Wy rfl Vb rfl ?_
 refine Wy rfl Vb rfl ?_
 refine WB ?_
 refine wz13 ?_
 exact Xab () (by simp only [Xae, Xor, Xzf])
theorem Xzg (n : Nat) : Value.int .u8 (IntKind.u8.wrap (n : Int)) = Xaj (UInt8.ofNat n) :=
 congrArg (Value.int .u8) (by rw [Xv5, UInt8.toNat_ofNat'])
theorem Xj8 (a b c : UInt32) : GivesV prog 234 [w32 a, w32 b, w32 c] w F (w32 ((a ^^^ b) ^^^ c)) := by
 refine Xaa func234 rfl ntmps234 rfl rfl [] (.start w F) ?_
 refine z5z ?_
 exact Xab () rfl
theorem Xzh : GivesV prog 186 [] w F (.agg ⟨Xyg.1.map w32⟩) := by
 refine Xaa func186 rfl ntmps186 rfl rfl [] (.start w F) ?_
 (repeat (refine wE ?_; intro _)); refine wA ?_
 refine Wf (OpV.build [.int .u32 1779033703, .int .u32 3144134277, .int .u32 1013904242, .int .u32 2773480762, .int .u32 1359893119, .int .u32 2600822924, .int .u32 528734635, .int .u32 1541459225] (by kernel_rfl)) rfl ?_
 refine wz9 ?_
 refine Xab () ?_
 exact congrArg (fun l => Value.agg ⟨l⟩) (show _ = shaS.map w32 by kernel_rfl)
set_option maxRecDepth 4000 in
theorem Xqj : GivesV prog 232 [] w F (.agg ⟨Xjy.1.map w32⟩) := by
 show GivesV prog 232 [] w F (.agg ⟨shaK.map w32⟩)
 refine Xaa func232 rfl ntmps232 rfl rfl [] (.start w F) ?_
 (repeat (refine wE ?_; intro _)); refine wA ?_
 refine Wf (OpV.build [.int .u32 1116352408, .int .u32 1899447441, .int .u32 3049323471, .int .u32 3921009573, .int .u32 961987163, .int .u32 1508970993, .int .u32 2453635748, .int .u32 2870763221, .int .u32 3624381080, .int .u32 310598401, .int .u32 607225278, .int .u32 1426881987, .int .u32 1925078388, .int .u32 2162078206, .int .u32 2614888103, .int .u32 3248222580, .int .u32 3835390401, .int .u32 4022224774, .int .u32 264347078, .int .u32 604807628, .int .u32 770255983, .int .u32 1249150122, .int .u32 1555081692, .int .u32 1996064986, .int .u32 2554220882, .int .u32 2821834349, .int .u32 2952996808, .int .u32 3210313671, .int .u32 3336571891, .int .u32 3584528711, .int .u32 113926993, .int .u32 338241895, .int .u32 666307205, .int .u32 773529912, .int .u32 1294757372, .int .u32 1396182291, .int .u32 1695183700, .int .u32 1986661051, .int .u32 2177026350, .int .u32 2456956037, .int .u32 2730485921, .int .u32 2820302411, .int .u32 3259730800, .int .u32 3345764771, .int .u32 3516065817, .int .u32 3600352804, .int .u32 4094571909, .int .u32 275423344, .int .u32 430227734, .int .u32 506948616, .int .u32 659060556, .int .u32 883997877, .int .u32 958139571, .int .u32 1322822218, .int .u32 1537002063, .int .u32 1747873779, .int .u32 1955562222, .int .u32 2024104815, .int .u32 2227730452, .int .u32 2361852424, .int .u32 2428436474, .int .u32 2756734187, .int .u32 3204031479, .int .u32 3329325298] (by kernel_rfl)) rfl ?_
 refine wz9 ?_
 refine Xab () ?_
 exact congrArg (fun l => Value.agg ⟨l⟩) (show _ = shaK.map w32 by kernel_rfl)
theorem X5f (x : UInt32) : UInt8.ofNat (x / 16777216).toNat = Xes x 0 := by
 rw [Xes, UInt32.toNat_div]; rfl
theorem X5g (x : UInt32) : UInt8.ofNat (x / 65536 % 256).toNat = Xes x 1 := by
 rw [Xes, UInt32.toNat_mod, UInt32.toNat_div]
 apply UInt8.toNat_inj.1
 rw [UInt8.toNat_ofNat', UInt8.toNat_ofNat', show (65536 : UInt32).toNat = 65536 by decide, show (256 : UInt32).toNat = 256 by decide]
 omega
theorem X5h (x : UInt32) : UInt8.ofNat (x / 256 % 256).toNat = Xes x 2 := by
 rw [Xes, UInt32.toNat_mod, UInt32.toNat_div]
 apply UInt8.toNat_inj.1
 rw [UInt8.toNat_ofNat', UInt8.toNat_ofNat', show (256 : UInt32).toNat = 256 by decide]
 omega
theorem X5i (x : UInt32) : UInt8.ofNat (x % 256).toNat = Xes x 3 := by
 rw [Xes, UInt32.toNat_mod]
 apply UInt8.toNat_inj.1
 rw [UInt8.toNat_ofNat', UInt8.toNat_ofNat', show (256 : UInt32).toNat = 256 by decide]
 omega
theorem X13 (x : UInt32) : GivesV prog 188 [w32 x] w F (.agg ⟨(Xec x).map Xaj⟩) := by
 refine Xaa func188 rfl ntmps188 rfl rfl [] (.start w F) ?_
 (repeat (refine wE ?_; intro _)); refine wA ?_
 refine z5z ?_
 refine Wf Xaq rfl ?_
 refine JO.reslot 5 (Xaj (Xes x 0)) (by rw [Xzg, X5f]) ?_
 refine z5z ?_
 refine Wf Xaq rfl ?_
 refine JO.reslot 9 (Xaj (Xes x 1)) (by rw [Xzg, X5g]) ?_
 refine z5z ?_
 refine Wf Xaq rfl ?_
 refine JO.reslot 13 (Xaj (Xes x 2)) (by rw [Xzg, X5h]) ?_
 refine z5z ?_
 refine Wf Xaq rfl ?_
 refine JO.reslot 16 (Xaj (Xes x 3)) (by rw [Xzg, X5i]) ?_
 refine We rfl ?_
 refine Wf (OpV.build [Xaj (Xes x 0), Xaj (Xes x 1), Xaj (Xes x 2), Xaj (Xes x 3)] (by kernel_rfl)) rfl ?_
 refine wz9 ?_
 exact Xab () rfl
theorem Xzi (x : UInt64) (k : Nat) (hk : k < 8) : UInt8.ofNat (Xgh x (8 * k) % 256).toNat = Xhi x k := by
 have h1 : (Xgh x (8 * k)).toNat = x.toNat / 2 ^ (8 * k) := by
  rw [Xgh, UInt64.toNat_ofNat', Nat.mod_eq_of_lt (Nat.lt_of_le_of_lt (Nat.div_le_self _ _) x.toNat_lt)]
 rw [Xhi, UInt64.toNat_mod, h1]
 apply UInt8.toNat_inj.1
 rw [UInt8.toNat_ofNat', UInt8.toNat_ofNat', show (256 : UInt64).toNat = 256 by decide]
 omega
theorem Xzj (x : UInt64) (k : Nat) : Xgh x (8 * k) / 256 = Xgh x (8 * (k + 1)) := by
 have h1 : ∀ k, (Xgh x k).toNat = x.toNat / 2 ^ k := fun k => by
  rw [Xgh, UInt64.toNat_ofNat', Nat.mod_eq_of_lt (Nat.lt_of_le_of_lt (Nat.div_le_self _ _) x.toNat_lt)]
 apply UInt64.toNat_inj.1
 rw [UInt64.toNat_div, h1, h1, Nat.div_div_eq_div_mul, show (256 : UInt64).toNat = 2 ^ 8 by decide, ← Nat.pow_add]; rfl
theorem X14 (x : UInt64) : GivesV prog 231 [w64 x] w F (.agg ⟨(Xly x).map Xaj⟩) := by
 refine Xaa func231 rfl ntmps231 rfl rfl [] (.start w F) ?_
 (repeat (refine wE ?_; intro _)); refine wA ?_
 refine Wf (OpV.build ((Xrp x 0).1.map Xaj) (by kernel_rfl)) rfl ?_
 (repeat (refine wE ?_; intro _)); refine wA ?_
 rename_i bo br
 refine JC.reslot 4 (.int .i64 (7 - ((0 : Nat) : Int))) (by rfl) ?_
 refine Xap (fun k : Nat => [(0, w64 (Xgh x (8 * k))), (2, .pointer (some ⟨bo, 0, none⟩)), (3, .pointer (some ⟨br, 0, none⟩)), (4, .int .i64 (7 - (k : Int)))]) (fun k => [.own br 224 ((Xrp x k).1.map Xaj), .own bo 224 [.int .u8 0, .int .u8 0, .int .u8 0, .int .u8 0, .int .u8 0, .int .u8 0, .int .u8 0, .int .u8 0]])
  (fun k => k ≤ 8) (fun k => 8 - k) 0 (Nat.zero_le _) (by rw [show Xgh x (8 * 0) = x by simp [Xgh]]; infer_instance) ?_
 intro k hk
 refine wz10 ?_
 refine JC.test (fun hlt => ?_) (fun hge => ?_)
 ·have hlt' : k < 8 := by omega
  refine JC.reslot 4 (.int .i64 ((7 - k : Nat) : Int)) (by congr 1; omega) ?_
  refine wz14 ?_
  refine z5z ?_
  refine Wf Xaq rfl ?_
  refine JO.reslot 13 (Xaj (Xhi x k)) (by rw [Xzg, Xzi x k hlt']) ?_
  refine We rfl ?_
  refine Wf (Xac (k := 7 - k) (by omega)) rfl ?_
  refine We rfl ?_
  refine Xdr (7 - k) (Xhi x k) (by rw [(Xrp x k).2]; omega) (by omega) rfl ?_
  rw [Xrq x k hlt']
  refine z5z ?_
  refine wA ?_
  exact ⟨k + 1, by omega, by omega, by rw [← Xzj, show 7 - ((k + 1 : Nat) : Int) = ((7 - k : Nat) : Int) - 1 by omega]; infer_instance⟩
 ·obtain rfl : k = 8 := by omega
  refine wz3 ?_
  exact Xab () rfl
section
attribute [local irreducible] Xe1
theorem X4c (a : Option Addr) (c : Nat) (L : List UInt8) (h : (sl a c L).holds F w) (hL : L.length ≤ 1048576) :
  GivesBuf prog 185 [.slice a L.length c] w F 5 (padL L) := by
 refine Xaa func185 rfl ntmps185 rfl rfl [.st (sl a c L)] (.start1 h) ?_
 refine wz10 ?_
 refine JR.appendNil (L' := L) rfl (by exact ⟨rfl, rfl, by decide⟩) (by omega) ?_
 intro a1 c1
 (repeat (refine wE ?_; intro _)); refine wA ?_
 refine Xai rfl (by exact ⟨rfl, rfl, by decide⟩) (by omega) ?_
 intro a2 c2
 refine wz4 ?_
 have hz : padZ L.length < 64 := Nat.mod_lt _ (by decide)
 refine Xby (fun (k : Nat) p q => [(0, .slice a L.length c), (3, .slice p ((L ++ [128]) ++ List.replicate k (0 : UInt8)).length q)]) (fun k p q => [.res (buf p q 5 ((L ++ [128]) ++ List.replicate k (0 : UInt8)))])
  (fun k _ _ => k ≤ padZ L.length) (fun k _ _ => padZ L.length - k) 0 a2 c2 (Nat.zero_le _) (by rw [List.replicate_zero, List.append_nil]; infer_instance) ?_
 intro k p q hk
 refine wz4 ?_
 have hlen : ((L ++ [128]) ++ List.replicate k (0 : UInt8)).length = L.length + 1 + k := by simp; omega
 refine Wf (OpV.rem (by decide)) rfl ?_
 refine JO.reslot 12 (.int .i64 (((L.length + 1 + k) % 64 : Nat) : Int)) (by rw [hlen, Int.tmod_eq_emod_of_nonneg (by omega)]; congr 1) ?_
 refine wA ?_
 refine JC.test (fun h1 => ?_) (fun h1 => ?_)
 ·have h2 : k < padZ L.length := by simp only [padZ] at hk ⊢; omega
  (repeat (refine wE ?_; intro _)); refine wA ?_
  refine Xai rfl (by exact ⟨rfl, rfl, by decide⟩) (by rw [hlen]; omega) ?_
  intro a3 c3
  refine wz2 ?_
  have hs : (L ++ [128]) ++ List.replicate (k + 1) (0 : UInt8) = (L ++ [128]) ++ List.replicate k (0 : UInt8) ++ [0] := by rw [List.replicate_succ', ← List.append_assoc]
  exact ⟨k + 1, a3, c3, by omega, by omega, by rw [hs]; infer_instance⟩
 ·have h2 : k = padZ L.length := by simp only [padZ] at hk ⊢; omega
  subst h2
  refine wA ?_
  refine Wf Xaq rfl ?_
  refine JO.reslot 19 (w64 (UInt64.ofNat L.length)) (congrArg (Value.int .u64) (by rw [Xbn, UInt64.toNat_ofNat'])) ?_
  refine z6z ?_
  refine JR.reslot 20 (w64 (UInt64.ofNat (L.length * 8))) (by rw [UInt64.ofNat_mul, UInt64.mul_comm]; rfl) ?_
  refine JR.callV rfl (fun w1 hw => X14 w1 _ _) ?_
  (repeat (refine wE ?_; intro _)); refine wA ?_
  rename_i bn
  refine JR.reown bn [Xaj (Xhi (UInt64.ofNat (L.length * 8)) 7), Xaj (Xhi (UInt64.ofNat (L.length * 8)) 6), Xaj (Xhi (UInt64.ofNat (L.length * 8)) 5), Xaj (Xhi (UInt64.ofNat (L.length * 8)) 4), Xaj (Xhi (UInt64.ofNat (L.length * 8)) 3), Xaj (Xhi (UInt64.ofNat (L.length * 8)) 2), Xaj (Xhi (UInt64.ofNat (L.length * 8)) 1), Xaj (Xhi (UInt64.ofNat (L.length * 8)) 0)] rfl ?_
  repeat (refine Wf (Xac (by decide)) rfl ?_; refine We rfl ?_; refine Wf Vc rfl ?_; refine We rfl ?_)
  refine Ww rfl ⟨rfl, by decide, by decide, by decide⟩ ?_
  intro bl
  refine We rfl ?_
  refine Xdd (M := Xly (UInt64.ofNat (L.length * 8))) rfl rfl rfl (by simp [Xly]) (by exact ⟨rfl, rfl, by decide⟩) (by rw [hlen]; omega) ?_
  intro a3 c3
  refine wz10 ?_
  exact CT.done (a3, c3) rfl (fun w ho => (ho.ent : Hold _ _ [.res (buf a3 c3 5 ((L ++ [128]) ++ List.replicate (padZ L.length) (0 : UInt8) ++ Xly (UInt64.ofNat (L.length * 8))))] w))
theorem X4d (x : UInt32) : x / 8 = Xdw x 3 := by
 apply UInt32.toNat_inj.1
 rw [UInt32.toNat_div, Xdw, UInt32.toNat_ofNat', Nat.mod_eq_of_lt (Nat.lt_of_le_of_lt (Nat.div_le_self _ _) x.toNat_lt)]; rfl
theorem Xzk (x : UInt32) : x / 1024 = Xdw x 10 := by
 apply UInt32.toNat_inj.1
 rw [UInt32.toNat_div, Xdw, UInt32.toNat_ofNat', Nat.mod_eq_of_lt (Nat.lt_of_le_of_lt (Nat.div_le_self _ _) x.toNat_lt)]; rfl
theorem Xzl (a : Option Addr) (c : Nat) (L : List UInt8) (h : (sl a c L).holds F w) (hL : L.length = 64) :
  GivesV prog 233 [.slice a L.length c] w F (.agg ⟨(Xa1 L 64).1.map w32⟩) := by
 refine Xaa func233 rfl ntmps233 rfl rfl [.st (sl a c L)] (.start1 h) ?_
 (repeat (refine wE ?_; intro _)); refine wA ?_
 refine Wf (OpV.build ((Xa1 L 0).1.map w32) (by kernel_rfl)) rfl ?_
 (repeat (refine wE ?_; intro _)); refine wA ?_
 rename_i bo br
 refine JC.reown bo ((Xa1 L 0).1.map w32) (by rw [Xlo, List.map_replicate]; rfl) ?_
 refine Xap (fun k : Nat => [(0, .slice a L.length c), (2, .pointer (some ⟨bo, 0, none⟩)), (3, .pointer (some ⟨br, 0, none⟩)), (4, .int .i64 (k : Int))]) (fun k => [.own br 226 ((Xa1 L k).1.map w32), .own bo 226 ((Xa1 L 0).1.map w32), .st (sl a c L)])
  (fun k => k ≤ 64) (fun k => 64 - k) 0 (Nat.zero_le _) iI ?_
 intro k hk
 refine wz11 ?_
 refine JC.test (fun hlt => ?_) (fun hge => ?_)
 ·have hlt' : k < 64 := by omega
  have hv := (Xa1 L k).2
  refine wA ?_
  refine JC.test (fun h16 => ?_) (fun h16 => ?_)
  ·have h16' : k < 16 := by omega
   refine wz14 ?_
   refine Wf (OpV.mul (by omega)) rfl ?_
   refine JO.reslot 21 (.int .i64 ((4 * k : Nat) : Int)) (by congr 1) ?_
   refine We rfl ?_
   refine JR.callV rfl (fun w1 hw => X12 w1 _ a c L (4 * k) hw.get (by omega)) ?_
   refine wz4 ?_
   refine Wf (Xac hlt') rfl ?_
   refine We rfl ?_
   refine Xdr k (Xor L (4 * k)) (by omega) (by omega) rfl ?_
   refine JO.reown br ((Xa1 L (k + 1)).1.map w32) (by rw [Xf8, Xn9, if_pos h16']) ?_
   refine wz12 ?_
   exact ⟨k + 1, by omega, by omega, iI⟩
  ·have h16' : ¬ k < 16 := by omega
   refine wA ?_
   refine Wf (Xac (k := k - 15) (by omega)) rfl ?_
   refine We rfl ?_
   refine Wf (Xam (k - 15) (by omega) (by omega) rfl) rfl ?_
   refine wA ?_
   refine Wf (Xac (k := k - 2) (by omega)) rfl ?_
   refine We rfl ?_
   refine Wf (Xam (k - 2) (by omega) (by omega) rfl) rfl ?_
   refine wz10 ?_
   refine JR.callV rfl (fun w1 hw => Xdm w1 _ _ 7 (by decide)) ?_
   refine wz6 ?_
   refine JR.callV rfl (fun w1 hw => Xdm w1 _ _ 18 (by decide)) ?_
   refine z6z ?_
   refine JR.callV rfl (fun w1 hw => Xj8 w1 _ _ _ _) ?_
   refine wz10 ?_
   refine JR.callV rfl (fun w1 hw => Xdm w1 _ _ 17 (by decide)) ?_
   refine wz6 ?_
   refine JR.callV rfl (fun w1 hw => Xdm w1 _ _ 19 (by decide)) ?_
   refine z6z ?_
   refine JR.callV rfl (fun w1 hw => Xj8 w1 _ _ _ _) ?_
   refine wz10 ?_
   refine Xck 15 mixed ?_
   refine JM.tv 0 ?_
   refine JM.tv 1 ?_
   refine JM.take 2 rfl (by kernel_rfl) rfl (Vv (by omega)) rfl rfl ?_
   refine JM.reslot 52 (.int .i64 ((k - 16 : Nat) : Int)) (by congr 1 <;> omega) ?_
   refine JM.take 3 rfl (by kernel_rfl) rfl (Xac (k := k - 16) (by omega)) rfl rfl ?_
   refine JM.take 4 rfl (by kernel_rfl) rfl (Xam (k - 16) (by omega) (by omega) rfl) rfl rfl ?_
   refine JM.tv 5 ?_
   refine JM.take 6 rfl (by kernel_rfl) rfl (Vv (by omega)) rfl rfl ?_
   refine JM.reslot 56 (.int .i64 ((k - 7 : Nat) : Int)) (by congr 1 <;> omega) ?_
   refine JM.take 7 rfl (by kernel_rfl) rfl (Xac (k := k - 7) (by omega)) rfl rfl ?_
   refine JM.take 8 rfl (by kernel_rfl) rfl (Xam (k - 7) (by omega) (by omega) rfl) rfl rfl ?_
   refine JM.take 9 rfl (by kernel_rfl) rfl Xag rfl rfl ?_
   refine JM.tv 10 ?_
   refine JM.take 11 rfl (by kernel_rfl) rfl Xag rfl rfl ?_
   refine JM.tv 12 ?_
   refine JM.take 13 rfl (by kernel_rfl) rfl Xag rfl rfl ?_
   refine JM.take 14 rfl (by kernel_rfl) rfl (Xac hlt') rfl rfl ?_
   refine JM.reslot 63 (w32 (Xn9 L (Xa1 L k).1 k)) (by rw [Xn9, if_neg h16', Xek, Xek, Xek, Xek, X4d, Xzk]; rfl) ?_
   refine Xa4 15 (by kernel_rfl) rfl rfl rfl (Xdr k (Xn9 L (Xa1 L k).1 k) (by omega) (by omega) rfl (JO.reown br ((Xa1 L (k + 1)).1.map w32) (by rw [Xf8]) (Wd ⟨rfl, ?_⟩)))
   refine JM.nil (by kernel_rfl) ?_
   refine wz2 ?_
   exact ⟨k + 1, by omega, by omega, iI⟩
 ·obtain rfl : k = 64 := by omega
  refine wz3 ?_
  exact Xab () rfl
end
section
attribute [local irreducible] Xe1 Xjy Xa1 Xil Xg3
theorem Xzm (a : Option Addr) (c : Nat) (L : List UInt8) (h : Vec UInt32 8) (hs : (sl a c L).holds F w) (hL : L.length = 64) :
  GivesV prog 187 [.agg ⟨h.1.map w32⟩, .slice a L.length c] w F (.tuple ⟨[.agg ⟨(Xhf h L).1.map w32⟩, .bool true]⟩) := by
 refine Xaa func187 rfl ntmps187 rfl rfl [.st (sl a c L)] (.start1 hs) ?_
 (repeat (refine wE ?_; intro _)); refine wA ?_
 rename_i bh br
 refine JC.test (fun h0 => ?_) (fun h0 => ?_)
 ·simp [hL] at h0
 refine wz14 ?_
 refine JR.callV rfl (fun w1 hw => Xqj w1 _) ?_
 (repeat (refine wE ?_; intro _)); refine wA ?_
 refine JR.callV rfl (fun w1 hw => Xzl w1 _ a c L hw.get hL) ?_
 (repeat (refine wE ?_; intro _)); refine wA ?_
 rename_i q1 q2 q3
 refine Xap (fun k : Nat => [(2, .pointer (some ⟨bh, 0, none⟩)), (4, .pointer (some ⟨br, 0, none⟩)), (6, .pointer (some ⟨q1, 0, none⟩)), (7, .pointer (some ⟨q2, 0, none⟩)), (8, .pointer (some ⟨q3, 0, none⟩)), (9, .int .i64 (k : Int))])
  (fun k => [.own bh 182 (h.1.map w32), .own br 182 [.int .u32 0, .int .u32 0, .int .u32 0, .int .u32 0, .int .u32 0, .int .u32 0, .int .u32 0, .int .u32 0], .own q1 226 (Xjy.1.map w32), .own q2 226 ((Xa1 L 64).1.map w32), .own q3 182 ((Xil (Xa1 L 64).1 h k).1.map w32)])
  (fun k => k ≤ 64) (fun k => 64 - k) 0 (Nat.zero_le _) (by rw [Xos]; infer_instance) ?_
 intro k hk
 refine wz11 ?_
 refine JC.test (fun hlt => ?_) (fun hge => ?_)
 ·have hlt' : k < 64 := by omega
  have hkk : k < Xjy.1.length := by rw [Xjy.2]; exact hlt'
  have hkw : k < (Xa1 L 64).1.length := by rw [(Xa1 L 64).2]; exact hlt'
  obtain ⟨x0, x1, x2, x3, x4, x5, x6, x7, hx⟩ := vec8 (Xil (Xa1 L 64).1 h k)
  have hnext := Xot (Xa1 L 64).1 h k
  rw [hx] at hnext ⊢
  refine wz14 ?_
  refine Xa6 mixed (by kernel_rfl) ?_
  refine Wy rfl (Xac (k := 4) (by decide)) rfl ?_
  refine Wy rfl (Xam 4 (by simp) rfl rfl) rfl ?_
  refine JQ.call rfl rfl (fun w1 hw => Xdm w1 _ _ 6 (by decide)) ?_
  refine Wy rfl (Xac (k := 4) (by decide)) rfl ?_
  refine Wy rfl (Xam 4 (by simp) rfl rfl) rfl ?_
  refine JQ.call rfl rfl (fun w1 hw => Xdm w1 _ _ 11 (by decide)) ?_
  refine Wy rfl (Xac (k := 4) (by decide)) rfl ?_
  refine Wy rfl (Xam 4 (by simp) rfl rfl) rfl ?_
  refine JQ.call rfl rfl (fun w1 hw => Xdm w1 _ _ 25 (by decide)) ?_
  refine JQ.call rfl rfl (fun w1 hw => Xj8 w1 _ _ _ _) ?_
  refine Wy rfl Vb rfl ?_
  refine WB ?_
  refine wz14 ?_
  refine Xa6 mixed (by kernel_rfl) ?_
  refine Wy rfl (Xac (k := 0) (by decide)) rfl ?_
  refine Wy rfl (Xam 0 (by simp) rfl rfl) rfl ?_
  refine JQ.call rfl rfl (fun w1 hw => Xdm w1 _ _ 2 (by decide)) ?_
  refine Wy rfl (Xac (k := 0) (by decide)) rfl ?_
  refine Wy rfl (Xam 0 (by simp) rfl rfl) rfl ?_
  refine JQ.call rfl rfl (fun w1 hw => Xdm w1 _ _ 13 (by decide)) ?_
  refine Wy rfl (Xac (k := 0) (by decide)) rfl ?_
  refine Wy rfl (Xam 0 (by simp) rfl rfl) rfl ?_
  refine JQ.call rfl rfl (fun w1 hw => Xdm w1 _ _ 22 (by decide)) ?_
  refine JQ.call rfl rfl (fun w1 hw => Xj8 w1 _ _ _ _) ?_
  refine Wy rfl Vb rfl ?_
  refine WB ?_
  refine wz14 ?_
  refine Xa6 mixed (by kernel_rfl) ?_
  refine Wy rfl (Xac (k := 7) (by decide)) rfl ?_
  refine Wy rfl (Xam 7 (by simp) rfl rfl) rfl ?_
  refine Wy rfl Va rfl ?_
  refine Wy rfl Xag rfl ?_
  refine Wy rfl (Xac (k := 4) (by decide)) rfl ?_
  refine Wy rfl (Xam 4 (by simp) rfl rfl) rfl ?_
  refine Wy rfl (Xac (k := 5) (by decide)) rfl ?_
  refine Wy rfl (Xam 5 (by simp) rfl rfl) rfl ?_
  refine Wy rfl (Xac (k := 6) (by decide)) rfl ?_
  refine Wy rfl (Xam 6 (by simp) rfl rfl) rfl ?_
  refine JQ.call rfl rfl (fun w1 hw => X10 w1 _ _ _ _) ?_
  refine Wy rfl Xag rfl ?_
  refine Wy rfl Va rfl ?_
  refine Wy rfl (Xac hlt') rfl ?_
  refine Wy rfl (Xam k hkk (by omega) rfl) rfl ?_
  refine Wy rfl Xag rfl ?_
  refine Wy rfl Va rfl ?_
  refine Wy rfl (Xac hlt') rfl ?_
  refine Wy rfl (Xam k hkw (by omega) rfl) rfl ?_
  refine Wy rfl Xag rfl ?_
  refine JQ.reslot 66 (w32 (Xwg (Xa1 L 64).1 [x0, x1, x2, x3, x4, x5, x6, x7] k)) (by simp only [Xek, Xu3]; rfl) ?_
  refine Wy rfl Vb rfl ?_
  refine WB ?_
  refine wz14 ?_
  repeat (first | refine Wf (Xac (k := 0) (by decide)) rfl ?_; refine We rfl ?_; refine Wf (Xam 0 (by simp) rfl rfl) rfl ?_; refine We rfl ?_ | refine Wf (Xac (k := 1) (by decide)) rfl ?_; refine We rfl ?_; refine Wf (Xam 1 (by simp) rfl rfl) rfl ?_; refine We rfl ?_ | refine Wf (Xac (k := 2) (by decide)) rfl ?_; refine We rfl ?_; refine Wf (Xam 2 (by simp) rfl rfl) rfl ?_; refine We rfl ?_)
  refine JR.callV rfl (fun w1 hw => X11 w1 _ _ _ _) ?_
  refine We rfl ?_
  refine Wf Xag rfl ?_
  refine JO.reslot 75 (w32 (X1k [x0, x1, x2, x3, x4, x5, x6, x7])) rfl ?_
  refine wz10 ?_
  refine Wf Xag rfl ?_
  refine We rfl ?_
  refine Wf (Xac (k := 0) (by decide)) rfl ?_
  refine We rfl ?_
  refine Wf (Xam 0 (by simp) rfl rfl) rfl ?_
  refine We rfl ?_
  refine Wf (Xac (k := 1) (by decide)) rfl ?_
  refine We rfl ?_
  refine Wf (Xam 1 (by simp) rfl rfl) rfl ?_
  refine We rfl ?_
  refine Wf (Xac (k := 2) (by decide)) rfl ?_
  refine We rfl ?_
  refine Wf (Xam 2 (by simp) rfl rfl) rfl ?_
  refine We rfl ?_
  refine Wf (Xac (k := 3) (by decide)) rfl ?_
  refine We rfl ?_
  refine Wf (Xam 3 (by simp) rfl rfl) rfl ?_
  refine We rfl ?_
  refine Wf Va rfl ?_
  refine We rfl ?_
  refine Wf Xag rfl ?_
  refine We rfl ?_
  refine Wf (Xac (k := 4) (by decide)) rfl ?_
  refine We rfl ?_
  refine Wf (Xam 4 (by simp) rfl rfl) rfl ?_
  refine We rfl ?_
  refine Wf (Xac (k := 5) (by decide)) rfl ?_
  refine We rfl ?_
  refine Wf (Xam 5 (by simp) rfl rfl) rfl ?_
  refine We rfl ?_
  refine Wf (Xac (k := 6) (by decide)) rfl ?_
  refine We rfl ?_
  refine Wf (Xam 6 (by simp) rfl rfl) rfl ?_
  refine We rfl ?_
  refine Wf (OpV.build ((X3p (Xa1 L 64).1 [x0, x1, x2, x3, x4, x5, x6, x7] k).map w32) (by kernel_rfl)) rfl ?_
  rw [← hnext]
  refine JO.reown q3 ((Xil (Xa1 L 64).1 h k).1.map w32) (by rw [hx]) ?_
  refine wA ?_
  exact ⟨k + 1, by omega, by omega, iI⟩
 ·obtain rfl : k = 64 := by omega
  obtain ⟨S, hS⟩ : ∃ S, S = Xil (Xa1 L 64).1 h 64 := ⟨_, rfl⟩
  have hb : (Xhf h L).1 = (Xg3 h.1 S.1 8).1 := by rw [hS]; rfl
  rw [← hS, hb]
  refine wA ?_
  refine Xap (fun k : Nat => [(2, .pointer (some ⟨bh, 0, none⟩)), (4, .pointer (some ⟨br, 0, none⟩)), (8, .pointer (some ⟨q3, 0, none⟩)), (14, .int .i64 (k : Int))])
   (fun k => [.own bh 182 ((Xg3 h.1 S.1 k).1.map w32), .own br 182 [.int .u32 0, .int .u32 0, .int .u32 0, .int .u32 0, .int .u32 0, .int .u32 0, .int .u32 0, .int .u32 0], .own q3 182 (S.1.map w32)])
   (fun k => k ≤ 8) (fun k => 8 - k) 0 (Nat.zero_le _) (by rw [Xou]; infer_instance) ?_
  intro k hk
  refine wz11 ?_
  refine JC.test (fun hlt => ?_) (fun hge => ?_)
  ·have hlt' : k < 8 := by omega
   have hk1 : k < (Xg3 h.1 S.1 k).1.length := by rw [(Xg3 h.1 S.1 k).2]; exact hlt'
   have hk2 : k < S.1.length := by rw [S.2]; exact hlt'
   refine wz14 ?_
   refine Xck 9 mixed ?_
   refine JM.tv 0 ?_
   refine JM.tv 1 ?_
   refine JM.take 2 rfl (by kernel_rfl) rfl (Xac hlt') rfl rfl ?_
   refine JM.take 3 rfl (by kernel_rfl) rfl (Xam k hk1 (by omega) rfl) rfl rfl ?_
   refine JM.tv 4 ?_
   refine JM.take 5 rfl (by kernel_rfl) rfl (Xac hlt') rfl rfl ?_
   refine JM.take 6 rfl (by kernel_rfl) rfl (Xam k hk2 (by omega) rfl) rfl rfl ?_
   refine JM.take 7 rfl (by kernel_rfl) rfl Xag rfl rfl ?_
   refine JM.take 8 rfl (by kernel_rfl) rfl (Xac hlt') rfl rfl ?_
   refine JM.reslot 107 (w32 (h.1.getD k 0 + S.1.getD k 0)) (by simp only [Xek]; rw [Xu2 _ _ _ hlt']) ?_
   refine Xa4 9 (by kernel_rfl) rfl rfl rfl (Xdr k (h.1.getD k 0 + S.1.getD k 0) hk1 (by omega) rfl (JO.reown bh ((Xg3 h.1 S.1 (k + 1)).1.map w32) (by rw [Xrs _ _ _ hlt']) (Wd ⟨rfl, ?_⟩)))
   refine JM.nil (by kernel_rfl) ?_
   refine wz2 ?_
   exact ⟨k + 1, by omega, by omega, iI⟩
  ·obtain rfl : k = 8 := by omega
   refine wz3 ?_
   exact Xab () rfl
end
section
attribute [local irreducible] Xe1 Xjy Xa1 Xil Xg3 Xhf
def outJ (h : List UInt32) (i j : Nat) : List UInt8 := ((h.take i).flatMap Xec ++ (Xec (h.getD i 0)).take j) ++ List.replicate (32 - 4 * i - j) 0
theorem Xj9 (x : UInt32) : (Xec x).length = 4 := by simp [Xec]
theorem Xua (h : Vec UInt32 8) (i j : Nat) (hi : i < 8) (hj : j ≤ 4) : (outJ h.1 i j).length = 32 := by
 have := h.2
 simp only [outJ, List.length_append, Xwi, List.length_take, List.length_replicate, Xj9]
 omega
theorem Xzn (h : List UInt32) (i : Nat) : outJ h i 0 = outK h i := by simp [outJ, outK]
theorem Xzo (h : Vec UInt32 8) (i : Nat) (hi : i < 8) : outJ h.1 i 4 = outK h.1 (i + 1) := by
 have h8 := h.2
 have hg : h.1[i]'(by omega) = h.1.getD i 0 := by simp [List.getD_eq_getElem?_getD, h8, hi]
 rw [outJ, outK, List.take_of_length_le (l := Xec (h.1.getD i 0)) (by rw [Xj9]; exact Nat.le_refl _), List.take_succ_eq_append_getElem (by omega), List.flatMap_append, hg]
 simp only [List.flatMap_cons, List.flatMap_nil, List.append_nil]
 congr 2
theorem X15 (h : Vec UInt32 8) (i j : Nat) (hi : i < 8) (hj : j < 4) : (outJ h.1 i j).set (4 * i + j) (Xes (h.1.getD i 0) j) = outJ h.1 i (j + 1) := by
 have h8 := h.2
 have hl : ((h.1.take i).flatMap Xec ++ (Xec (h.1.getD i 0)).take j).length = 4 * i + j := by
  simp only [List.length_append, Xwi, List.length_take, Xj9]; omega
 have hr : List.replicate (32 - 4 * i - j) (0 : UInt8) = 0 :: List.replicate (32 - 4 * i - (j + 1)) 0 := by
  rw [show 32 - 4 * i - j = (32 - 4 * i - (j + 1)) + 1 by omega]; rfl
 have ht : (Xec (h.1.getD i 0)).take (j + 1) = (Xec (h.1.getD i 0)).take j ++ [Xes (h.1.getD i 0) j] := by
  rw [List.take_succ_eq_append_getElem (by rw [Xj9]; exact hj)]
  simp [Xec]
 rw [outJ, outJ, List.set_append_right _ _ (by omega), hl, hr, ht]
 simp
theorem Xzp : List.replicate 32 (Value.int .u8 0) = idc id0 := by simp [idc, id0]; rfl
theorem X16 (S : List UInt32) : idc id0 = (outK S 0).map Xaj := by rw [Xrt]; rfl
theorem Xzq (a : Option Addr) (c : Nat) (L : List UInt8) (h : (sl a c L).holds F w) (hL : L.length ≤ 1048576) :
  GivesV prog 133 [.slice a L.length c] w F (.agg ⟨idc (sumI L)⟩) := by
 have hpl := Xm7 L
 refine Xaa func133 rfl ntmps133 rfl rfl [.st (sl a c L)] (.start1 h) ?_
 (repeat (refine wE ?_; intro _)); refine wA ?_
 refine JR.callBuf rfl (fun w1 hw => X4c w1 _ a c L hw.get hL) ?_
 intro a1 c1
 refine JO.more (fun w1 ho => ho.pub) ?_
 refine wz10 ?_
 refine JR.callV rfl (fun w1 hw => Xzh w1 _) ?_
 (repeat (refine wE ?_; intro _)); refine wA ?_
 rename_i bo bh
 refine JC.reown bo (idc id0) Xzp ?_
 refine JC.reslot 5 (.int .i64 ((64 * 0 : Nat) : Int)) (by rfl) ?_
 refine Xcz (fun (k : Nat) (H : Vec UInt32 8) => [(2, .pointer (some ⟨bo, 0, none⟩)), (3, .slice a1 (padL L).length c1), (4, .pointer (some ⟨bh, 0, none⟩)), (5, .int .i64 ((64 * k : Nat) : Int))])
  (fun k H => [.own bh 182 (H.1.map w32), .own bo 81 (idc id0), .st (sl a1 c1 (padL L))])
  (fun k H => 64 * k ≤ (padL L).length ∧ Xm8 ((padL L).length / 64 - k) H ((padL L).drop (64 * k)) = sumV L) (fun k _ => (padL L).length - 64 * k) 0 Xyg ⟨Nat.zero_le _, rfl⟩ iI ?_
 intro k H ⟨hk, hinv⟩
 refine wz11 ?_
 refine JC.test (fun h1 => ?_) (fun h1 => ?_)
 ·have hk2 : 64 * k + 64 ≤ (padL L).length := by omega
  have hp64 : (((padL L).drop (64 * k)).take 64).length = 64 := by rw [List.length_take, List.length_drop]; omega
  refine wz14 ?_
  refine Xck 10 mixed ?_
  refine JM.tv 0 ?_
  refine JM.tv 1 ?_
  refine JM.tv 2 ?_
  refine JM.tv 3 ?_
  refine JM.take 4 rfl (by kernel_rfl) rfl (Vs (by omega)) rfl rfl ?_
  refine JM.take 5 rfl (by kernel_rfl) rfl (Xe9 (l := 64 * k) (h := 64 * k + 64) (s := 1) rfl (fun w1 ho => ⟨by omega, by have := (Hold.get (A := sl a1 c1 (padL L)) ho).1; omega⟩)) rfl rfl ?_
  refine JM.reslot 25 (.slice (Xcu a1 c1 (64 * k) 1) (((padL L).drop (64 * k)).take 64).length (c1 - 64 * k)) (by rw [hp64]; congr 1; omega) ?_
  refine JM.takeCall 6 rfl (by kernel_rfl) rfl (fun w1 hw => Xzm w1 _ (Xcu a1 c1 (64 * k) 1) (c1 - 64 * k) (((padL L).drop (64 * k)).take 64) H (Xez (Xhq hw.get (by omega)) (by rw [List.length_drop]; omega) ⟨by have := (hw.get (A := sl a1 c1 (padL L))).1; omega, Nat.le_refl _⟩) hp64) rfl rfl ?_
  refine JM.tv 7 ?_
  refine JM.tv 8 ?_
  have hn : (padL L).length / 64 - k = ((padL L).length / 64 - (k + 1)) + 1 := by omega
  have hnext : Xm8 ((padL L).length / 64 - (k + 1)) (Xhf H (((padL L).drop (64 * k)).take 64)) ((padL L).drop (64 * (k + 1))) = sumV L := by
   rw [← hinv, hn, show 64 * (k + 1) = 64 * k + 64 by omega, ← List.drop_drop]; rfl
  refine Xml 9 10 (by kernel_rfl) rfl rfl rfl rfl rfl rfl rfl (JS.val Vq rfl ?_) (Wi (Wd ⟨rfl, ?_⟩))
  ·refine Xa4 10 (by kernel_rfl) rfl rfl rfl (Wi (Wd ⟨rfl, ?_⟩))
   refine JM.nil (by kernel_rfl) ?_
   refine wA ?_
   exact ⟨k + 1, Xhf H (((padL L).drop (64 * k)).take 64), ⟨by omega, hnext⟩, by omega, iI⟩
  ·refine JM.one 9 (by kernel_rfl) rfl rfl rfl rfl (JS.val Vq rfl ?_)
   refine JM.nil (by kernel_rfl) ?_
   refine wA ?_
   exact ⟨k + 1, Xhf H (((padL L).drop (64 * k)).take 64), ⟨by omega, hnext⟩, by omega, iI⟩
 ·have hk2 : 64 * k = (padL L).length := by omega
  have hk3 : (padL L).length / 64 - k = 0 := by omega
  rw [hk3] at hinv
  have hinv : H = sumV L := hinv
  subst hinv
  refine wz3 ?_
  obtain ⟨S, hS⟩ : ∃ S, S = sumV L := ⟨_, rfl⟩
  have hsum : sumI L = Xyi S := by subst hS; rfl
  rw [← hS, hsum]
  clear hS hinv hsum
  refine Wf (OpV.build (idc id0) (by kernel_rfl)) rfl ?_
  (repeat (refine wE ?_; intro _)); refine wA ?_
  rename_i bi
  refine JC.reown bi ((outK S.1 0).map Xaj) (X16 S.1) ?_
  refine Xap (fun k : Nat => [(2, .pointer (some ⟨bo, 0, none⟩)), (4, .pointer (some ⟨bh, 0, none⟩)), (6, .pointer (some ⟨bi, 0, none⟩)), (7, .int .i64 (k : Int))]) (fun k => [.own bi 81 ((outK S.1 k).map Xaj), .own bh 182 (S.1.map w32), .own bo 81 (idc id0)])
   (fun k => k ≤ 8) (fun k => 8 - k) 0 (Nat.zero_le _) iI ?_
  intro k hk
  refine wz11 ?_
  refine JC.test (fun hlt => ?_) (fun hge => ?_)
  ·have hlt' : k < 8 := by omega
   have hkS : k < S.1.length := by rw [S.2]; exact hlt'
   refine wz14 ?_
   refine Wf (Xac hlt') rfl ?_
   refine We rfl ?_
   refine Wf (Xam k hkS (by omega) rfl) rfl ?_
   refine wz13 ?_
   refine JR.callV rfl (fun w1 hw => X13 w1 _ _) ?_
   rw [Xek hkS]
   (repeat (refine wE ?_; intro _)); refine wA ?_
   rename_i bf
   rw [← Xzn]
   refine Xap (fun j : Nat => [(2, .pointer (some ⟨bo, 0, none⟩)), (4, .pointer (some ⟨bh, 0, none⟩)), (6, .pointer (some ⟨bi, 0, none⟩)), (7, .int .i64 (k : Int)), (8, .pointer (some ⟨bf, 0, none⟩)), (9, .int .i64 (j : Int))]) (fun j => [.own bi 81 ((outJ S.1 k j).map Xaj), .own bh 182 (S.1.map w32), .own bo 81 (idc id0), .own bf 186 ((Xec (S.1.getD k 0)).map Xaj)])
    (fun j => j ≤ 4) (fun j => 4 - j) 0 (Nat.zero_le _) iI ?_
   intro j hj
   refine wz11 ?_
   refine JC.test (fun hlt2 => ?_) (fun hge2 => ?_)
   ·have hj' : j < 4 := by omega
    refine wz14 ?_
    refine Wf (OpV.mul (by omega)) rfl ?_
    refine JO.reslot 43 (.int .i64 ((4 * k : Nat) : Int)) (by congr 1) ?_
    refine wA ?_
    refine Wf (Xac hj') rfl ?_
    refine We rfl ?_
    refine Wf (Xam j (by rw [Xj9]; exact hj') (by omega) rfl) rfl ?_
    refine JO.reslot 48 (Xaj (Xes (S.1.getD k 0) j)) (by simp [Xec]) ?_
    refine We rfl ?_
    refine Wf (Xac (k := 4 * k + j) (by omega)) rfl ?_
    refine We rfl ?_
    refine Xdr (4 * k + j) (Xes (S.1.getD k 0) j) (by rw [Xua S k j hlt' hj]; omega) (by omega) rfl ?_
    rw [X15 S k j hlt' hj']
    refine wz2 ?_
    exact ⟨j + 1, by omega, by omega, iI⟩
   ·obtain rfl : j = 4 := by omega
    rw [Xzo S k hlt']
    refine wz12 ?_
    exact ⟨k + 1, by omega, by omega, iI⟩
  ·obtain rfl : k = 8 := by omega
   have h8 : outK S.1 8 = S.1.flatMap Xec := by
    rw [outK, List.take_of_length_le (by rw [S.2]; exact Nat.le_refl _)]
    simp
   refine z2z ?_
   refine JC.reown bi (idc (Xyi S)) (by rw [h8]; rfl) ?_
   refine wz9 ?_
   exact Xab () rfl
end
theorem X51 (n : Nat) : (UInt8.ofNat n ||| 128).toNat = n % 128 + 128 := by
 have key : ∀ x : Fin 256, (x.val ||| 128) = x.val % 128 + 128 := by decide +kernel
 rw [UInt8.toNat_or, UInt8.toNat_ofNat']
 have := key ⟨n % 256, Nat.mod_lt _ (by decide)⟩
 rw [show (128 : UInt8).toNat = 128 by decide]
 show n % 256 ||| 128 = _
 rw [show (n % 256 ||| 128) = n % 256 % 128 + 128 from this]
 omega
theorem X17 (n : Nat) : IntKind.u8.wrap (((n % 128 + 128 : Nat)) : Int) = ((UInt8.ofNat n ||| 128).toNat : Int) := by
 rw [Xv5, X51]; omega
theorem X18 {n : Nat} : IntKind.u8.wrap (n : Int) = ((UInt8.ofNat n).toNat : Int) := by
 rw [Xv5, UInt8.toNat_ofNat']
theorem Xg9 (m : Nat) (hm : m < 18446744073709551616) (w : World) (F : Nat → Prop) : GivesBuf prog 118 [.int .u64 (m : Int)] w F 5 (numL m) := by
 have hml := Xaw m
 refine Xaa func118 rfl ntmps118 rfl rfl [] (.start w F) ?_
 refine JC.buf_nil (α := UInt8) 5 ?_
 refine wz4 ?_
 refine Xh7 (fun (n f : Nat) (out : List UInt8) p q => [(0, .int .u64 (n : Int)), (3, .slice p out.length q)]) (fun n f out p q => [.res (buf p q 5 out)])
  (fun n f out _ _ => n < 18446744073709551616 ∧ n < 128 ^ (f + 1) ∧ numL m = out ++ numF f n) (fun _ f _ _ _ => f) m 9 [] none 0 ⟨hm, by omega, rfl⟩ iI ?_
 intro n f out p q ⟨hn, hf, heq⟩
 have hol : out.length ≤ 10 := by rw [heq, List.length_append] at hml; omega
 refine wz5 ?_
 refine JC.test (fun h1 => ?_) (fun h1 => ?_)
 ·have h1' : 127 < n := by omega
  cases f with
  | zero => omega
  | succ f =>
   have hstep : numF (f + 1) n = (UInt8.ofNat n ||| 128) :: numF f (n / 128) := by rw [numF, if_pos h1']
   refine wz14 ?_
   refine Wf (OpV.rem (by decide)) rfl ?_
   refine JO.reslot 8 (.int .u64 ((n % 128 : Nat) : Int)) (by congr 1) ?_
   refine We rfl ?_
   refine Wf Xgs rfl ?_
   refine JO.reslot 9 (.int .u64 ((n % 128 + 128 : Nat) : Int)) (congrArg (Value.int .u64) (by rw [show ((n % 128 : Nat) : Int) + 128 = ((n % 128 + 128 : Nat) : Int) by omega, Xbn]; omega)) ?_
   refine We rfl ?_
   refine Wf Xaq rfl ?_
   refine JO.reslot 10 (Xaj (UInt8.ofNat n ||| 128)) (congrArg (Value.int .u8) (X17 n)) ?_
   (repeat (refine wE ?_; intro _)); refine wA ?_
   refine Xai rfl (by exact ⟨rfl, rfl, by decide⟩) (by omega) ?_
   intro a2 c2
   refine wz10 ?_
   refine Wf (OpV.quo (by decide)) rfl ?_
   refine JO.reslot 14 (.int .u64 ((n / 128 : Nat) : Int)) (congrArg (Value.int .u64) (by rw [Int.tdiv_eq_ediv_of_nonneg (by omega), show (n : Int) / 128 = ((n / 128 : Nat) : Int) by omega, Xbn]; omega)) ?_
   refine wz2 ?_
   exact ⟨n / 128, f, out ++ [UInt8.ofNat n ||| 128], a2, c2, ⟨by omega, by rw [Nat.pow_succ] at hf; omega, by rw [heq, hstep]; simp⟩, by omega, iI⟩
 ·have h1' : ¬ 127 < n := by omega
  have hlast : numF f n = [UInt8.ofNat n] := by cases f <;> simp [numF, h1']
  refine wz3 ?_
  refine Wf Xaq rfl ?_
  refine JO.reslot 17 (Xaj (UInt8.ofNat n)) (congrArg (Value.int .u8) X18) ?_
  (repeat (refine wE ?_; intro _)); refine wA ?_
  refine Xai rfl (by exact ⟨rfl, rfl, by decide⟩) (by omega) ?_
  intro a2 c2
  refine wz10 ?_
  rw [heq, hlast]
  exact Xab (a2, c2) rfl
theorem Xvi (n : Int) (h : -1099511627776 ≤ n ∧ n ≤ 1099511627776) : GivesV prog 119 [.int .i64 n] w F (.int .u64 ((Xfb n : Nat) : Int)) := by
 have hw : ∀ z : Int, IntKind.u64.wrap z = z % 18446744073709551616 := fun z => by simp [IntKind.wrap, IntKind.bits, IntKind.signed]
 refine Xaa func119 rfl ntmps119 rfl rfl [] (.start w F) ?_
 refine wz10 ?_
 refine JC.test (fun h1 => ?_) (fun h1 => ?_)
 ·refine wz14 ?_
  refine Wf Xaq rfl ?_
  refine We rfl ?_
  refine Wf Xh6 rfl ?_
  refine wz9 ?_
  refine Xab () ?_
  exact congrArg (Value.int .u64) (by rw [hw, hw, Xfb, if_pos h1]; omega)
 ·refine wA ?_
  refine Wf Xaq rfl ?_
  refine We rfl ?_
  refine Wf Xh6 rfl ?_
  refine We rfl ?_
  refine Wf Xgs rfl ?_
  refine wz10 ?_
  refine Xab () ?_
  exact congrArg (Value.int .u64) (by rw [hw, hw, hw, Xfb, if_neg (by omega)]; omega)
theorem Xvj (s : ByteArray) (hs : s.size ≤ 1048576) (w : World) (F : Nat → Prop) : GivesBuf prog 180 [.string s] w F 5 (Xe2 s) := by
 have hnl := Xaw s.size
 refine Xaa func180 rfl ntmps180 rfl rfl [] (.start w F) ?_
 refine wA ?_
 refine Wf (Xb3 (by rw [Xbn]; omega)) rfl ?_
 refine wz13 ?_
 refine JR.callBuf rfl (fun w1 hw => Xg9 s.size (by omega) w1 _) ?_
 intro a1 c1
 refine wz6 ?_
 refine Xlk rfl (by exact ⟨rfl, rfl, by decide⟩) (by omega) ?_
 intro a2 c2
 refine wz10 ?_
 exact CT.done (a2, c2) rfl (fun w ho => (ho.ent : Hold _ _ [.res (buf a2 c2 5 (numL s.size ++ bytesOf s))] w))
theorem Xha (c : UInt8) : c ∈ Xik ↔ (97 ≤ (c.toNat : Int) ∧ (c.toNat : Int) ≤ 122) ∨ (48 ≤ (c.toNat : Int) ∧ (c.toNat : Int) ≤ 57) := by
 have key : ∀ x : Fin 256, (UInt8.ofNat x.val ∈ Xik) ↔ (97 ≤ x.val ∧ x.val ≤ 122) ∨ (48 ≤ x.val ∧ x.val ≤ 57) := by decide +kernel
 have h := key ⟨c.toNat, c.toNat_lt⟩
 dsimp only at h
 rw [show UInt8.ofNat c.toNat = c from UInt8.ofNat_toNat] at h
 rw [h]
 show _ ↔ _
 omega
theorem Xzr (s : ByteArray) (hs : s.size < 4611686018427387904) : GivesV prog 225 [.string s] w F (.bool (Xfz s)) := by
 refine Xaa func225 rfl ntmps225 rfl rfl [] (.start w F) ?_
 refine wz4 ?_
 refine Xap (fun k : Nat => [(0, .string s), (3, .int .i64 (k : Int))]) (fun _ => [])
  (fun k => k ≤ s.size ∧ (s.data.toList.take k).all (fun c => decide (c ∈ Xik)) = true) (fun k => s.size - k) 0 ⟨Nat.zero_le _, by simp⟩ iI ?_
 intro k ⟨hk, hin⟩
 have hlen : s.data.toList.length = s.size := rfl
 refine wA ?_
 refine JC.test (fun hlt => ?_) (fun hge => ?_)
 ·have hlt' : k < s.size := by omega
  have hget : s.data.toList[k]'(by omega) = s[k] := rfl
  refine wz14 ?_
  refine Wf (Xc4 hlt') rfl ?_
  refine wz10 ?_
  refine JO.test 14 (fun h13 => ?_) (fun h13 => ?_)
  ·refine wz6 ?_
   refine Wf (Xc4 hlt') rfl ?_
   refine wX ?_
   refine JO.test 20 (fun h18 => ?_) (fun h18 => ?_)
   ·have h1 : s[k] ∈ Xik := (Xha _).2 (by omega)
    refine wX ?_
    refine ⟨k + 1, ⟨by omega, ?_⟩, by omega, iI⟩
    rw [List.take_succ_eq_append_getElem (by omega), List.all_append, hin, hget]
    simp [h1]
   ·refine wz6 ?_
    refine Wf (Xc4 hlt') rfl ?_
    refine wz10 ?_
    refine JO.test 25 (fun h24 => ?_) (fun h24 => ?_)
    ·refine wz6 ?_
     refine Wf (Xc4 hlt') rfl ?_
     refine wX ?_
     refine JC.test (fun h29 => ?_) (fun h29 => ?_)
     ·have h2 : s.data.toList.all (fun c => decide (c ∈ Xik)) = false := by
       rw [List.all_eq_false]
       refine ⟨s[k], by rw [← hget]; exact List.getElem_mem _, fun h => ?_⟩
       have := (Xha _).1 (of_decide_eq_true h)
       omega
      refine wz5 ?_
      refine Xab () ?_
      simp [Xae, Xfz, h2]
     ·have h1 : s[k] ∈ Xik := (Xha _).2 (by omega)
      refine wz2 ?_
      refine ⟨k + 1, ⟨by omega, ?_⟩, by omega, iI⟩
      rw [List.take_succ_eq_append_getElem (by omega), List.all_append, hin, hget]
      simp [h1]
    ·have h2 : s.data.toList.all (fun c => decide (c ∈ Xik)) = false := by
      rw [List.all_eq_false]
      refine ⟨s[k], by rw [← hget]; exact List.getElem_mem _, fun h => ?_⟩
      have := (Xha _).1 (of_decide_eq_true h)
      omega
     refine wz8 ?_
     refine Xab () ?_
     simp [Xae, Xfz, h2]
  ·refine wz8 ?_
   refine Wf (Xc4 hlt') rfl ?_
   refine wz10 ?_
   refine JO.test 25 (fun h24 => ?_) (fun h24 => ?_)
   ·refine wz6 ?_
    refine Wf (Xc4 hlt') rfl ?_
    refine wX ?_
    refine JC.test (fun h29 => ?_) (fun h29 => ?_)
    ·have h2 : s.data.toList.all (fun c => decide (c ∈ Xik)) = false := by
      rw [List.all_eq_false]
      refine ⟨s[k], by rw [← hget]; exact List.getElem_mem _, fun h => ?_⟩
      have := (Xha _).1 (of_decide_eq_true h)
      omega
     refine wz5 ?_
     refine Xab () ?_
     simp [Xae, Xfz, h2]
    ·have h1 : s[k] ∈ Xik := (Xha _).2 (by omega)
     refine wz2 ?_
     refine ⟨k + 1, ⟨by omega, ?_⟩, by omega, iI⟩
     rw [List.take_succ_eq_append_getElem (by omega), List.all_append, hin, hget]
     simp [h1]
   ·have h2 : s.data.toList.all (fun c => decide (c ∈ Xik)) = false := by
     rw [List.all_eq_false]
     refine ⟨s[k], by rw [← hget]; exact List.getElem_mem _, fun h => ?_⟩
     have := (Xha _).1 (of_decide_eq_true h)
     omega
    refine wz8 ?_
    refine Xab () ?_
    simp [Xae, Xfz, h2]
 ·have hall : s.data.toList.all (fun c => decide (c ∈ Xik)) = true := by
   rwa [List.take_of_length_le (by omega)] at hin
  refine wA ?_
  refine JO.test 36 (fun h => ?_) (fun h => ?_)
  ·refine wA ?_
   refine Xab () ?_
   have : s.size ≠ 0 := by omega
   simp only [Xae, Xfz, hall, Bool.true_and, this, decide_true, ne_eq, not_false_eq_true]
   simp
   omega
  ·refine wz8 ?_
   refine Xab () ?_
   have : s.size = 0 := by omega
   simp [Xae, Xfz, this]
theorem Xzs (a b : Int) : GivesV prog 178 [.agg ⟨[.int .i64 a, .int .i64 b]⟩] w F (.bool (inB a 0 7 && inB b 1 1048576)) := by
 refine Xaa func178 rfl ntmps178 rfl rfl [] (.start w F) ?_
 (repeat (refine wE ?_; intro _)); refine wA ?_
 refine JO.test 6 (fun h1 => ?_) (fun h1 => ?_)
 ·refine wX ?_
  refine JO.test 11 (fun h2 => ?_) (fun h2 => ?_)
  ·refine wX ?_
   refine JO.test 16 (fun h3 => ?_) (fun h3 => ?_)
   ·refine wX ?_
    refine Xab () ?_
    have : a ≤ 7 := by omega
    simp [Xae, inB, h1, this, h3]
   ·refine wz8 ?_
    refine Xab () ?_
    simp [Xae, inB, h3]
  ·refine wz8 ?_
   refine Xab () ?_
   have : ¬ a ≤ 7 := by omega
   simp [Xae, inB, this]
 ·refine wz8 ?_
  refine Xab () ?_
  simp [Xae, inB, h1]
theorem Xka : Xya prog 179 Xcw := by
 intro w F o h1 h2
 refine Xaa func179 rfl ntmps179 rfl rfl [] (.start w F) ?_
 (repeat (refine wE ?_; intro _)); refine wA ?_
 refine JR.callV rfl (fun w1 hw => Xzr w1 _ o.key h1) ?_
 refine wz9 ?_
 refine JR.callV rfl (fun w1 hw => Xzr w1 _ o.elem h2) ?_
 cases hk : Xfz o.key with
 | false =>
  refine wz8 ?_
  refine Xab () ?_
  simp [Xae, Xcw, *] <;> exact Iff.rfl
 | true =>
  refine wX ?_
  refine JC.test (fun hk0 => ?_) (fun hk0 => ?_)
  ·refine wX ?_
   refine JO.test 19 (fun h3 => ?_) (fun h3 => ?_)
   ·refine wX ?_
    refine JO.test 24 (fun h4 => ?_) (fun h4 => ?_)
    ·refine wX ?_
     refine JO.test 29 (fun h5 => ?_) (fun h5 => ?_)
     ·refine wX ?_
      refine Xab () ?_
      simp [Xae, Xcw, *] <;> exact Iff.rfl
     ·refine wz8 ?_
      refine Xab () ?_
      simp [Xae, Xcw, *] <;> exact Iff.rfl
    ·refine wz8 ?_
     refine Xab () ?_
     simp [Xae, Xcw, *] <;> exact Iff.rfl
   ·refine wz8 ?_
    refine Xab () ?_
    simp [Xae, Xcw, *] <;> exact Iff.rfl
  ·refine wX ?_
   cases he : Xfz o.elem with
   | false =>
    refine JO.test 37 (fun h3 => ?_) (fun h3 => ?_)
    ·refine wz8 ?_
     refine Xab () ?_
     simp [Xae, Xcw, *] <;> exact Iff.rfl
    ·refine wz11 ?_
     refine JO.test 42 (fun h4 => ?_) (fun h4 => ?_)
     ·refine wz8 ?_
      refine Xab () ?_
      simp [Xae, Xcw, *] <;> exact Iff.rfl
     ·refine wz11 ?_
      refine JO.test 47 (fun h5 => ?_) (fun h5 => ?_)
      ·refine wz8 ?_
       refine Xab () ?_
       simp [Xae, Xcw, *] <;> exact Iff.rfl
      ·refine wz8 ?_
       refine Xab () ?_
       simp [Xae, Xcw, *] <;> exact Iff.rfl
   | true =>
    refine JO.test 37 (fun h3 => ?_) (fun h3 => ?_)
    ·refine wX ?_
     refine Xab () ?_
     simp [Xae, Xcw, *] <;> exact Iff.rfl
    ·refine wz11 ?_
     refine JO.test 42 (fun h4 => ?_) (fun h4 => ?_)
     ·refine wX ?_
      refine Xab () ?_
      simp [Xae, Xcw, *] <;> exact Iff.rfl
     ·refine wz11 ?_
      refine JO.test 47 (fun h5 => ?_) (fun h5 => ?_)
      ·refine wX ?_
       refine Xab () ?_
       simp [Xae, Xcw, *] <;> exact Iff.rfl
      ·refine wz8 ?_
       refine Xab () ?_
       simp [Xae, Xcw, *] <;> exact Iff.rfl
section
attribute [local irreducible] sumI numL Xe2 Xdj Xfz
theorem Xzt (o : Op_) (hk : o.key.size < 4611686018427387904) (he : o.elem.size < 4611686018427387904) : Xcr prog 120 [opV o] w F (Xhj o).1 [.int .i64 (Xhj o).2] := by
 refine Xaa func120 rfl ntmps120 rfl rfl [] (.start w F) ?_
 (repeat (refine wE ?_; intro _)); refine wA ?_
 rename_i bo
 refine JR.callV rfl (fun w1 hw => Xka w1 _ o hk he) ?_
 refine wz7 ?_
 refine JC.test (fun h1 => ?_) (fun h1 => ?_)
 ·have h2 : Xhj o = ([], 1) := by simp [Xhj, h1]
  rw [h2]
  refine wz9 ?_
  exact CT.done (none, 0) rfl (fun w ho => (ho.ent : Hold _ _ [] w).add Xah)
 have h1 : Xcw o = true := by simpa using h1
 have h2 : Xhj o = (Xdj o, 0) := by simp [Xhj, h1]
 obtain ⟨⟨hkk, hkn⟩, hks, _, _, _, _, _, _, _, _, hlen⟩ := Xhw o h1
 have hconv : IntKind.u64.wrap o.kind = o.kind := by rw [hkk, Xbn]; omega
 have hnl := Xaw o.kind.toNat
 have htl := Xet o.key
 have hsz : o.key.size ≤ 1048576 ∧ o.elem.size ≤ 1048576 ∧ -1099511627776 ≤ o.n ∧ o.n ≤ 1099511627776 := by
  have h3 := h1
  unfold Xcw at h3
  split at h3
  ·simp only [Bool.and_eq_true, decide_eq_true_eq] at h3
   exact ⟨hks, by rw [h3.2.2]; decide, by omega, by omega⟩
  ·split at h3
   ·simp only [Bool.and_eq_true, decide_eq_true_eq] at h3
    have := h3.2.2
    unfold Xfz at this
    simp only [Bool.and_eq_true, decide_eq_true_eq] at this
    exact ⟨hks, by omega, by omega, by omega⟩
   ·cases h3
 rw [h2]
 refine wz14 ?_
 refine Xck 7 mixed ?_
 refine JM.tv 0 ?_
 refine JM.tv 1 ?_
 refine JM.take 2 rfl (by kernel_rfl) rfl (Xb3 hconv) rfl rfl ?_
 refine JM.reslot 12 (.int .u64 ((o.kind.toNat : Nat) : Int)) (congrArg (Value.int .u64) hkk) ?_
 refine JM.tv 4 ?_
 refine JM.tv 5 ?_
 refine JM.one 3 (by kernel_rfl) rfl rfl rfl rfl (JS.callBuf rfl (fun w1 hw => Xg9 _ (by omega) w1 _) fun aN cN => ?_)
 refine JM.one 6 (by kernel_rfl) rfl rfl rfl rfl (JS.callBuf rfl (fun w1 hw => Xvj _ hks w1 _) fun aT cT => ?_)
 refine JM.more (fun w1 ho => ho.pub) ?_
 refine Xa4 7 (by kernel_rfl) rfl rfl rfl (Xau rfl (by exact ⟨rfl, rfl, by decide⟩) (by omega) (fun a5 c5 => Wd ⟨rfl, ?_⟩))
 refine Xa4 8 (by kernel_rfl) rfl rfl rfl (Wf Vb rfl (Wd ⟨rfl, ?_⟩))
 refine JM.nil (by kernel_rfl) ?_
 refine wz11 ?_
 refine JC.test (fun h3 => ?_) (fun h3 => ?_)
 ·have hop : Xdj o = (numL o.kind.toNat ++ Xe2 o.key) ++ numL (Xfb o.n) := by unfold Xdj; rw [if_pos h3]
  have hnn := Xaw (Xfb o.n)
  rw [hop]
  refine wz9 ?_
  refine JR.callV rfl (fun w1 hw => Xvi w1 _ o.n hsz.2.2) ?_
  refine wz13 ?_
  refine JR.callBuf rfl (fun w1 hw => Xg9 _ (Xl2 hsz.2.2) w1 _) ?_
  intro a6 c6
  refine JO.more (fun w1 ho => ho.pub) ?_
  refine wz13 ?_
  refine Xau rfl (by exact ⟨rfl, rfl, by decide⟩) (by rw [List.length_append]; omega) ?_
  intro a7 c7
  refine wz9 ?_
  exact CT.done (a7, c7) rfl (fun w ho => Hold.left (Γ := [.st (sl a7 c7 ((numL o.kind.toNat ++ Xe2 o.key) ++ numL (Xfb o.n)))]) (Hold.pub (ho.ent : Hold _ _ [.res (buf a7 c7 5 ((numL o.kind.toNat ++ Xe2 o.key) ++ numL (Xfb o.n)))] w)))
 ·have hop : Xdj o = (numL o.kind.toNat ++ Xe2 o.key) ++ Xe2 o.elem := by unfold Xdj; rw [if_neg h3]
  have hnn := Xet o.elem
  rw [hop]
  refine wz1 ?_
  refine JR.callBuf rfl (fun w1 hw => Xvj _ hsz.2.1 w1 _) ?_
  intro a6 c6
  refine JO.more (fun w1 ho => ho.pub) ?_
  refine wz13 ?_
  refine Xau rfl (by exact ⟨rfl, rfl, by decide⟩) (by rw [List.length_append]; omega) ?_
  intro a7 c7
  refine wz10 ?_
  exact CT.done (a7, c7) rfl (fun w ho => Hold.left (Γ := [.st (sl a7 c7 ((numL o.kind.toNat ++ Xe2 o.key) ++ Xe2 o.elem))]) (Hold.pub (ho.ent : Hold _ _ [.res (buf a7 c7 5 ((numL o.kind.toNat ++ Xe2 o.key) ++ Xe2 o.elem))] w)))
end
theorem X52 {A B : List UInt8} (i : Nat) (hA : i < A.length) (hB : i < B.length) (h : A.take i = B.take i) (hne : A[i] ≠ B[i]) : A < B ↔ A[i] < B[i] := by
 induction i generalizing A B with
 | zero =>
  match A, B, hA, hB with
  | a :: A, b :: B, _, _ =>
   simp only [List.getElem_cons_zero] at hne ⊢
   rw [List.cons_lt_cons_iff]
   simp [hne]
 | succ i ih =>
  match A, B, hA, hB with
  | a :: A, b :: B, hA, hB =>
   simp only [List.take_succ_cons, List.cons.injEq] at h
   simp only [List.getElem_cons_succ] at hne ⊢
   rw [List.cons_lt_cons_iff]
   have := ih (by simpa using hA) (by simpa using hB) h.2 hne
   rw [← this]
   have hirr : ¬ a < b := by rw [h.1]; exact UInt8.lt_irrefl _
   simp [hirr, h.1]
theorem X4e {a b : ID} (i : Nat) (hi : i < 32) (h : a.1.take i = b.1.take i) (hne : a.1[i]'(by rw [a.2]; exact hi) ≠ b.1[i]'(by rw [b.2]; exact hi)) :
  idLt a b = decide (((a.1[i]'(by rw [a.2]; exact hi)).toNat : Int) < ((b.1[i]'(by rw [b.2]; exact hi)).toNat : Int)) := by
 rw [Bool.eq_iff_iff, Xjt, X52 i (by rw [a.2]; exact hi) (by rw [b.2]; exact hi) h hne, decide_eq_true_eq, UInt8.lt_iff_toNat_lt]
 omega
theorem Xqk (a b : ID) : GivesV prog 199 [.agg ⟨idc a⟩, .agg ⟨idc b⟩] w F (.bool (idLt a b)) := by
 refine Xaa func199 rfl ntmps199 rfl rfl [] (.start w F) ?_
 (repeat (refine wE ?_; intro _)); refine wA ?_
 rename_i ba bb
 refine JC.reown ba (a.1.map Xaj) rfl ?_
 refine JC.reown bb (b.1.map Xaj) rfl ?_
 refine Xap (fun k : Nat => [(2, .pointer (some ⟨ba, 0, none⟩)), (3, .pointer (some ⟨bb, 0, none⟩)), (5, .int .i64 (k : Int))]) (fun _ => [.own ba 81 (a.1.map Xaj), .own bb 81 (b.1.map Xaj)])
  (fun k => k ≤ 32 ∧ a.1.take k = b.1.take k) (fun k => 32 - k) 0 ⟨Nat.zero_le _, rfl⟩ iI ?_
 intro k ⟨hk, heq⟩
 refine wz11 ?_
 refine JC.test (fun hlt => ?_) (fun hge => ?_)
 ·have hlt' : k < 32 := by omega
  have ha : k < a.1.length := by rw [a.2]; exact hlt'
  have hb : k < b.1.length := by rw [b.2]; exact hlt'
  refine wz14 ?_
  refine Xa6 mixed (by kernel_rfl) ?_
  refine Wy rfl Va rfl ?_
  refine Wy rfl (Xac hlt') rfl ?_
  refine Wy rfl (Xam k ha (by omega) rfl) rfl ?_
  refine Wy rfl Va rfl ?_
  refine Wy rfl (Xac hlt') rfl ?_
  refine Wy rfl (Xam k hb (by omega) rfl) rfl ?_
  refine wQ ?_
  refine wz13 ?_
  refine JC.test (fun hne => ?_) (fun he => ?_)
  ·have hne' : a.1[k] ≠ b.1[k] := fun h => by rw [h] at hne; exact hne rfl
   refine wz14 ?_
   refine Xa6 mixed (by kernel_rfl) ?_
   refine Wy rfl Va rfl ?_
   refine Wy rfl (Xac hlt') rfl ?_
   refine Wy rfl (Xam k ha (by omega) rfl) rfl ?_
   refine Wy rfl Va rfl ?_
   refine Wy rfl (Xac hlt') rfl ?_
   refine Wy rfl (Xam k hb (by omega) rfl) rfl ?_
   refine wQ ?_
   refine wz5 ?_
   exact Xab () (by rw [X4e k hlt' heq hne']; rfl)
  ·have he' : a.1[k] = b.1[k] := UInt8.toNat_inj.1 (by omega)
   refine wz2 ?_
   exact ⟨k + 1, ⟨by omega, by rw [List.take_succ_eq_append_getElem ha, List.take_succ_eq_append_getElem hb, heq, he']⟩, by omega, iI⟩
 ·have hk2 : k = 32 := by omega
  have hab : a = b := Subtype.ext (by
   rw [List.take_of_length_le (by rw [a.2]; omega), List.take_of_length_le (by rw [b.2]; omega)] at heq
   exact heq)
  subst hab
  refine wz3 ?_
  exact Xab () (by rw [Xg0]; rfl)
theorem Xew (a : Option Addr) (c : Nat) (L : List ID) (x : ID) (h : (sl a c L).holds F w) :
  GivesV prog 149 [.slice a L.length c, .agg ⟨idc x⟩] w F (.bool (decide (x ∈ L))) := by
 have hL : L.length < 9223372036854775807 := by have := h.2.2.1; simp only [lim] at this; omega
 refine Xaa func149 rfl ntmps149 rfl rfl [.st (sl a c L)] (.start1 h) ?_
 (repeat (refine wE ?_; intro _)); refine wA ?_
 rename_i bx
 refine Xap (fun k : Nat => [(0, .slice a L.length c), (3, .pointer (some ⟨bx, 0, none⟩)), (5, .int .i64 (k : Int))]) (fun _ => [.own bx 81 (idc x), .st (sl a c L)])
  (fun k => k ≤ L.length ∧ x ∉ L.take k) (fun k => L.length - k) 0 ⟨Nat.zero_le _, by simp⟩ iI ?_
 intro k ⟨hk, hno⟩
 refine wz11 ?_
 refine JC.test (fun hlt => ?_) (fun hge => ?_)
 ·have hlt' : k < L.length := by omega
  refine wz14 ?_
  refine Xbq (.slice a L.length c) k hlt' ?_
  intro b1 o1
  refine Xa6 mixed (by kernel_rfl) ?_
  refine wQ ?_
  refine wz13 ?_
  refine JC.test (fun he => ?_) (fun hne => ?_)
  ·have : x ∈ L := by rw [← he]; exact List.getElem_mem _
   refine wz5 ?_
   exact Xab () (by simp [Xae, this])
  ·refine wz2 ?_
   exact ⟨k + 1, ⟨by omega, by rw [List.take_succ_eq_append_getElem hlt']; simp only [List.mem_append, List.mem_singleton, not_or]; exact ⟨hno, fun h => hne h.symm⟩⟩, by omega, iI⟩
 ·have : x ∉ L := by rwa [List.take_of_length_le (by omega)] at hno
  refine wz3 ?_
  exact Xab () (by simp [Xae, this])
theorem Xnj (a : Option Addr) (c : Nat) (L : List ID) (h : (sl a c L).holds F w) :
  GivesV prog 151 [.slice a L.length c] w F (.bool (Xei L)) := by
 have hL : L.length < 9223372036854775807 := by have := h.2.2.1; simp only [lim] at this; omega
 refine Xaa func151 rfl ntmps151 rfl rfl [.st (sl a c L)] (.start1 h) ?_
 refine wz4 ?_
 refine JC.reslot 3 (.int .i64 ((1 : Nat) : Int)) rfl ?_
 refine Xap (fun k : Nat => [(0, .slice a L.length c), (3, .int .i64 (k : Int))]) (fun _ => [.st (sl a c L)])
  (fun k => 1 ≤ k ∧ (k ≤ L.length ∨ k = 1) ∧ Xei (L.take k) = true) (fun k => L.length + 1 - k) 1 ⟨Nat.le_refl _, .inr rfl, Xg2 _ (by simp; omega)⟩ iI ?_
 intro k ⟨h1, hk, hr⟩
 refine wz11 ?_
 refine JC.test (fun hlt => ?_) (fun hge => ?_)
 ·have hlt' : k < L.length := by omega
  have hr' := Xoo L k h1 hlt' hr
  refine wz14 ?_
  refine Xbq (.slice a L.length c) (k - 1) (by omega) ?_
  intro b1 o1
  refine Xbq (.slice a L.length c) k hlt' ?_
  intro b2 o2
  refine Xa6 mixed (by kernel_rfl) ?_
  refine wQ ?_
  refine JQ.call rfl rfl (fun w1 hw => Xqk w1 _ _ _) ?_
  refine wQ ?_
  refine wz7 ?_
  refine JC.test (fun hne => ?_) (fun heq2 => ?_)
  ·refine wz5 ?_
   refine Xab () ?_
   simp [Xae, hr'.2 (by simpa using hne)]
  ·refine wz2 ?_
   exact ⟨k + 1, ⟨by omega, .inl (by omega), by rw [hr'.1]; simpa using heq2⟩, by omega, iI⟩
 ·refine wz3 ?_
  refine Xab () ?_
  have : Xei L = true := by
   rcases hk with hk | hk
   ·rwa [List.take_of_length_le (by omega)] at hr
   ·exact Xg2 L (by omega)
  simp [Xae, this]
section
attribute [local irreducible] Xcm Xc2
theorem X24 {M : List ID} {x : ID} {out : List ID} (ho : out = Xcm (Xc2 M)) (hx : x ∉ M) (at_ : Nat) (hle : at_ ≤ out.length)
  (hup : ∀ j (hj : j < out.length), at_ ≤ j → idLt x out[j] = true) (hdn : ∀ (h0 : 0 < at_), idLt x (out[at_ - 1]'(by omega)) = false) :
  out.take at_ ++ [x] ++ out.drop at_ = Xcm (Xc2 (M ++ [x])) := by
 have hp : out.Perm (Xc2 M) := by rw [ho]; exact Xce _
 have hs : out.Pairwise (fun x y => idLt y x = false) := by rw [ho]; exact Xbz _
 have hsn : Xc2 (M ++ [x]) = Xc2 M ++ [x] := by
  rw [Xib, addK, if_neg (by rw [Xdi]; exact hx)]
 refine Xfa ?_ ?_ (Xbz _)
 ·refine List.Perm.trans ?_ (Xce _).symm
  rw [hsn, List.append_assoc]
  refine List.Perm.trans ((List.perm_append_comm (l₁ := [x]) (l₂ := out.drop at_)).append_left _) ?_
  rw [← List.append_assoc, List.take_append_drop]
  exact hp.append_right _
 ·have hs2 : (out.take at_ ++ out.drop at_).Pairwise (fun x y => idLt y x = false) := by rw [List.take_append_drop]; exact hs
  rw [List.pairwise_append] at hs2
  rw [List.append_assoc, List.pairwise_append]
  refine ⟨hs2.1, ?_, ?_⟩
  ·rw [List.singleton_append, List.pairwise_cons]
   refine ⟨fun y hy => ?_, hs2.2.1⟩
   obtain ⟨j, hj, rfl⟩ := List.getElem_of_mem hy
   rw [List.length_drop] at hj
   rw [List.getElem_drop]
   exact Xia (hup _ (by omega) (by omega))
  ·intro y hy z hz
   rcases List.mem_append.1 hz with hz | hz
   ·rw [List.mem_singleton.1 hz]
    obtain ⟨j, hj, rfl⟩ := List.getElem_of_mem hy
    rw [List.length_take] at hj
    have h0 : 0 < at_ := by omega
    rw [List.getElem_take]
    by_cases hja : j = at_ - 1
    ·subst hja; exact hdn h0
    ·exact Xfd (List.pairwise_iff_getElem.1 hs j (at_ - 1) (by omega) (by omega) (by omega)) (hdn h0)
   ·exact hs2.2.2 y hy z hz
theorem Xof (M : List ID) : (Xcm (Xc2 M)).length ≤ M.length := by rw [Xf3]; exact Xf5 M
theorem Xql (a : Option Addr) (c : Nat) (L : List ID) (h : (sl a c L).holds F w) (hl : L.length ≤ 34359738360) :
  Xbw prog 154 [.slice a L.length c] w F (Xcm (Xc2 L)) := by
 refine Xaa func154 rfl ntmps154 rfl rfl [.st (sl a c L)] (.start1 h) ?_
 refine wz4 ?_
 refine JC.more (Γ' := [.st (sl (α := ID) none 0 []), .st (sl a c L)]) (fun w1 ho => (ho.add (A := sl (α := ID) none 0 []) Xah).ent) ?_
 refine Xb7 (fun (i : Nat) (out : List ID) (p : Option Addr) (q : Nat) => [(0, .slice a L.length c), (3, .slice p out.length q), (4, .int .i64 (i : Int))]) (fun i out p q => [.st (sl p q out), .st (sl a c L)])
  (fun i out p q => i ≤ L.length ∧ out = Xcm (Xc2 (L.take i))) (fun i _ _ _ => L.length - i) 0 [] none 0 ⟨Nat.zero_le _, by rw [List.take_zero, Xm2]; simp [Xcm]⟩ iI ?_
 intro i out p q ⟨hi, hout⟩
 refine wz11 ?_
 refine JC.test (fun hlt => ?_) (fun hge => ?_)
 ·have hlt' : i < L.length := by omega
  have hol : out.length ≤ i := by
   rw [hout]
   refine Nat.le_trans (Xof _) ?_
   rw [List.length_take]; omega
  refine wz14 ?_
  refine Xa9 rfl hlt' ?_
  intro b1 o1
  refine wz6 ?_
  refine JR.callV rfl (fun w1 hw => Xew w1 _ p q out L[i] hw.get) ?_
  refine wz10 ?_
  refine JC.test (fun hin => ?_) (fun hin => ?_)
  ·refine wz12 ?_
   have hm : L[i] ∈ L.take i := by
    rw [hout, Xfj, Xdi] at hin; exact hin
   refine ⟨i + 1, out, p, q, ⟨by omega, ?_⟩, by omega, iI⟩
   rw [List.take_succ_eq_append_getElem hlt', Xib, addK, if_pos (by rw [Xdi]; exact hm), hout]
  ·have hm : L[i] ∉ L.take i := by
    rw [hout, Xfj, Xdi] at hin; exact hin
   refine wA ?_
   refine Xap (fun (at_ : Nat) => [(0, .slice a L.length c), (3, .slice p out.length q), (4, .int .i64 (i : Int)), (6, .int .i64 (at_ : Int))]) (fun at_ => [.st (sl p q out), .st (sl a c L)])
    (fun at_ => at_ ≤ out.length ∧ ∀ j (hj : j < out.length), at_ ≤ j → idLt L[i] out[j] = true) (fun at_ => at_) out.length ⟨Nat.le_refl _, fun j hj h => by omega⟩ iI ?_
   intro at_ ⟨hat, hup⟩
   refine wz5 ?_
   refine JC.test (fun h0 => ?_) (fun h0 => ?_)
   ·have hat1 : at_ - 1 < out.length := by omega
    refine wz14 ?_
    refine Xbq (.slice a L.length c) i hlt' ?_
    intro b1 o1
    refine Xbq (.slice p out.length q) (at_ - 1) hat1 ?_
    intro b2 o2
    refine Xa6 mixed (by kernel_rfl) ?_
    refine wQ ?_
    refine JQ.call rfl rfl (fun w1 hw => Xqk w1 _ _ _) ?_
    refine wQ ?_
    refine wz7 ?_
    refine JC.test (fun hne => ?_) (fun hls => ?_)
    ·have hins := X24 hout hm at_ hat hup (fun _ => by simpa using hne)
     refine wz12 ?_
     refine Xc7 (L := out) (k := at_) rfl rfl hat ?_
     intro a1 c1
     refine wz13 ?_
     refine JR.appendNil (L' := out.take at_) rfl (by exact ⟨rfl, rfl, by decide⟩) (by rw [List.length_take]; omega) ?_
     intro a2 c2
     (repeat (refine wE ?_; intro _)); refine wA ?_
     refine Xai (u := L[i]) rfl (by exact ⟨rfl, rfl, by decide⟩) (by rw [List.length_take]; omega) ?_
     intro a4 c4
     refine wz10 ?_
     refine Xa3 (L := out) (k := at_) rfl rfl hat ?_
     intro a5 c5
     refine wz13 ?_
     refine Xau (L := out.take at_ ++ [L[i]]) (L' := out.drop at_) rfl (by exact ⟨rfl, rfl, by decide⟩) (by rw [List.length_append, List.length_take, List.length_drop, List.length_singleton]; omega) ?_
     intro a6 c6
     rw [hins]
     refine JO.more (fun w1 ho => ho.pub) ?_
     refine wz2 ?_
     exact ⟨i + 1, Xcm (Xc2 (L.take i ++ [L[i]])), a6, c6, ⟨by omega, by rw [List.take_succ_eq_append_getElem hlt']⟩, by omega, iI⟩
    ·have hls : idLt L[i] out[at_ - 1] = true := by simpa using hls
     refine wA ?_
     refine ⟨at_ - 1, ⟨by omega, fun j hj hle => ?_⟩, by omega, iI⟩
     by_cases hj1 : j = at_ - 1
     ·subst hj1; exact hls
     ·exact hup j hj (by omega)
   ·have hins := X24 hout hm at_ hat hup (fun h => by omega)
    refine wz3 ?_
    refine Xc7 (L := out) (k := at_) rfl rfl hat ?_
    intro a1 c1
    refine wz13 ?_
    refine JR.appendNil (L' := out.take at_) rfl (by exact ⟨rfl, rfl, by decide⟩) (by rw [List.length_take]; omega) ?_
    intro a2 c2
    refine wz10 ?_
    refine Xa9 rfl hlt' ?_
    intro b3 o3
    (repeat (refine wE ?_; intro _)); refine wA ?_
    refine Xai (u := L[i]) rfl (by exact ⟨rfl, rfl, by decide⟩) (by rw [List.length_take]; omega) ?_
    intro a4 c4
    refine wz10 ?_
    refine Xa3 (L := out) (k := at_) rfl rfl hat ?_
    intro a5 c5
    refine wz13 ?_
    refine Xau (L := out.take at_ ++ [L[i]]) (L' := out.drop at_) rfl (by exact ⟨rfl, rfl, by decide⟩) (by rw [List.length_append, List.length_take, List.length_drop, List.length_singleton]; omega) ?_
    intro a6 c6
    rw [hins]
    refine JO.more (fun w1 ho => ho.pub) ?_
    refine wz2 ?_
    exact ⟨i + 1, Xcm (Xc2 (L.take i ++ [L[i]])), a6, c6, ⟨by omega, by rw [List.take_succ_eq_append_getElem hlt']⟩, by omega, iI⟩
 ·have hi2 : i = L.length := by omega
  subst hi2
  rw [List.take_length] at hout
  subst hout
  refine wz3 ?_
  exact Xab (p, q) rfl
end
theorem X19 (a b : Option Addr) (c k : Nat) (L M : List ID) (want : Bool) (h : (sl a c L).holds F w) (h' : (sl b k M).holds F w) (hl : L.length ≤ 34359738360) :
  Xbw prog 152 [.slice a L.length c, .slice b M.length k, .bool want] w F (Xbg L M want) := by
 unfold Xbg
 refine Xaa func152 rfl ntmps152 rfl rfl [.st (sl a c L), .st (sl b k M)] (.start2 h h') ?_
 refine JC.buf_nil (α := ID) 81 ?_
 refine wz4 ?_
 refine Xb7 (fun (i : Nat) (out : List ID) p q => [(0, .slice a L.length c), (1, .slice b M.length k), (2, .bool want), (7, .slice p out.length q), (8, .int .i64 (i : Int))]) (fun i out p q => [.res (buf p q 81 out), .st (sl a c L), .st (sl b k M)])
  (fun i out p q => i ≤ L.length ∧ out = Xds M want (L.take i)) (fun i _ _ _ => L.length - i) 0 [] none 0 ⟨Nat.zero_le _, by rw [List.take_zero, Xm4]⟩ iI ?_
 intro i out p q ⟨hi, hout⟩
 have hol : out.length ≤ i := by
  rw [hout]
  refine Nat.le_trans (Xgc _ _ _) ?_
  rw [List.length_take]; omega
 refine wz11 ?_
 refine JC.test (fun hlt => ?_) (fun hge => ?_)
 ·have hlt' : i < L.length := by omega
  refine wz14 ?_
  refine Xa9 rfl hlt' ?_
  intro b1 o1
  refine wz6 ?_
  refine JR.callV rfl (fun w1 hw => Xew w1 _ b k M L[i] hw.get) ?_
  refine wA ?_
  refine JC.test (fun hy => ?_) (fun hn => ?_)
  ·refine wz14 ?_
   refine Xa9 rfl hlt' ?_
   intro b3 o3
   (repeat (refine wE ?_; intro _)); refine wA ?_
   refine Xai (u := L[i]) rfl (by exact ⟨rfl, rfl, by decide⟩) (by omega) ?_
   intro a2 c2
   refine wz2 ?_
   exact ⟨i + 1, out ++ [L[i]], a2, c2, ⟨by omega, by rw [Xf7 _ _ _ _ hlt', if_pos hy, hout]⟩, by omega, iI⟩
  ·refine wz2 ?_
   exact ⟨i + 1, out, p, q, ⟨by omega, by rw [Xf7 _ _ _ _ hlt', if_neg hn, hout]⟩, by omega, iI⟩
 ·have hi2 : i = L.length := by omega
  subst hi2
  rw [List.take_length] at hout
  subst hout
  refine JC.more (fun w1 ho => ho.pub) ?_
  refine wz3 ?_
  refine JR.callSl rfl (fun w1 hw => Xql w1 _ p q (Xds M want L) hw.get (by have := Xgc M want L; omega)) ?_
  intro a2 c2
  refine wz10 ?_
  exact Xab (a2, c2) rfl
theorem Xi9 (a b : Option Addr) (c k : Nat) (L M : List ID) (h : (sl a c L).holds F w) (h' : (sl b k M).holds F w) (hl : L.length ≤ 34359738360) :
  Xbw prog 81 [.slice a L.length c, .slice b M.length k] w F (Xbg L M false) := by
 refine Xaa func81 rfl ntmps81 rfl rfl [.st (sl a c L), .st (sl b k M)] (.start2 h h') ?_
 refine wz10 ?_
 refine JR.callSl rfl (fun w1 hw => X19 w1 _ a b c k L M false hw.get hw.get hl) ?_
 intro a2 c2
 refine wz10 ?_
 exact Xab (a2, c2) rfl
theorem Xd2 (c : Commit) (a : Option Addr) (k : Nat) (h : (sl a k c.parents).holds F w) (ht : Xht c) :
  GivesV prog 117 [Xax c a k] w F (.bool (may c)) := by
 have hL : c.parents.length < 9223372036854775807 := by have := h.2.2.1; simp only [lim] at this; omega
 refine Xaa func117 rfl ntmps117 rfl rfl [.st (sl a k c.parents)] (.start1 h) ?_
 (repeat (refine wE ?_; intro _)); refine wA ?_
 refine JR.callV rfl (fun w1 hw => Xnj w1 _ a k c.parents hw.get) ?_
 refine wA ?_
 refine JO.test 12 (fun h1 => ?_) (fun h1 => ?_)
 ·have hm : may c = false := by simp [may, inB, h1] <;> omega
  rw [hm]
  refine wz8 ?_
  exact Xab () rfl
 refine wX ?_
 refine JO.test 17 (fun h2 => ?_) (fun h2 => ?_)
 ·have hm : may c = false := by
   have : ¬ c.gen ≤ 1048576 := by omega
   simp [may, inB, this]
  rw [hm]
  refine wz8 ?_
  exact Xab () rfl
 refine wX ?_
 refine JO.test 23 (fun h3 => ?_) (fun h3 => ?_)
 ·have hm : may c = false := by
   have : 8 < c.parents.length := by omega
   simp [may, this]
  rw [hm]
  refine wz8 ?_
  exact Xab () rfl
 refine wz7 ?_
 cases hr : Xei c.parents with
 | false =>
  have hm : may c = false := by simp [may, hr]
  rw [hm]
  refine wz8 ?_
  exact Xab () rfl
 | true =>
  refine wX ?_
  refine JC.test (fun h4 => ?_) (fun h4 => ?_)
  ·have hm : may c = false := by
    have h4' : (decide (c.gen = 1) != decide (c.parents.length = 0)) = true := by
     have e : decide ((c.parents.length : Int) = 0) = decide (c.parents.length = 0) := decide_eq_decide.2 (by omega)
     rw [e] at h4
     simpa using h4
    rw [may, if_pos]
    rw [h4']
    simp
   rw [hm]
   refine wz9 ?_
   exact Xab () rfl
  have hmay : may c = if c.ev.node = -1 then decide (2 ≤ c.parents.length) && decide (c.ev.seq = 0) && decide (c.op = op0) else inB c.ev.node 0 7 && inB c.ev.seq 1 1048576 && Xcw c.op := by
   have h4' : (decide (c.gen = 1) != decide (c.parents.length = 0)) = false := by
    have e : decide ((c.parents.length : Int) = 0) = decide (c.parents.length = 0) := decide_eq_decide.2 (by omega)
    rw [e] at h4
    simpa using h4
   have h3' : ¬ 8 < c.parents.length := by omega
   have h1' : (inB c.gen 1 1048576) = true := by simp [inB]; omega
   rw [may, if_neg]
   rw [h4', h1', hr]
   simp [h3']
  rw [hmay]
  refine wX ?_
  refine JC.test (fun h5 => ?_) (fun h5 => ?_)
  ·rw [if_pos h5]
   refine wz11 ?_
   refine JO.test 45 (fun h6 => ?_) (fun h6 => ?_)
   ·refine wz6 ?_
    refine Wf (OpV.build [.int .i64 op0.kind, .string op0.key, .string op0.elem, .int .i64 op0.n] (by kernel_rfl)) rfl ?_
    refine wX ?_
    refine JO.test 51 (fun h7 => ?_) (fun h7 => ?_)
    ·have h7' : c.op = op0 := h7
     have e : decide (2 ≤ (c.parents.length : Int)) = decide (2 ≤ c.parents.length) := decide_eq_decide.2 (by omega)
     rw [h6, h7']
     refine wX ?_
     exact Xab () (by simp [Xae, e])
    ·have h7' : ¬ c.op = op0 := h7
     refine wz8 ?_
     exact Xab () (by simp [Xae, h7'])
   ·refine wz8 ?_
    exact Xab () (by simp [Xae, h6])
  ·rw [if_neg h5]
   refine wz1 ?_
   refine JR.callV rfl (fun w1 hw => Xzs w1 _ _ _) ?_
   refine wz9 ?_
   refine JR.callV rfl (fun w1 hw => Xka w1 _ c.op ht.1 ht.2) ?_
   cases hev : (inB c.ev.node 0 7 && inB c.ev.seq 1 1048576) with
   | false =>
    refine wz8 ?_
    exact Xab () (by simp [Xae])
   | true =>
    refine wz8 ?_
    exact Xab () (by simp [Xae])
theorem Xex (c : Commit) (a : Option Addr) (k : Nat) (h : (sl a k c.parents).holds F w) (ht : Xht c) :
  GivesV prog 130 [Xax c a k] w F (.bool (merge c)) := by
 refine Xaa func130 rfl ntmps130 rfl rfl [.st (sl a k c.parents)] (.start1 h) ?_
 (repeat (refine wE ?_; intro _)); refine wA ?_
 refine JR.callV rfl (fun w1 hw => Xd2 w1 _ c a k hw.get ht) ?_
 cases hm : may c with
 | false =>
  refine wz8 ?_
  exact Xab () (by simp [Xae, merge, hm])
 | true =>
  refine wX ?_
  exact Xab () (by simp [Xae, merge, hm])
section
attribute [local irreducible] sumI numL Xe2 Xdj
theorem X2a (o : Op_) (hk : o.key.size < 4611686018427387904) (he : o.elem.size < 4611686018427387904) (h : Xcw o = true) : Xcr prog 120 [opV o] w F (Xdj o) [.int .i64 0] := by
 have h1 := Xzt w F o hk he
 have h2 : Xhj o = (Xdj o, 0) := by simp [Xhj, h]
 rw [h2] at h1
 exact h1
theorem Xo6 (c : Commit) (a : Option Addr) (k : Nat) (h : (sl a k c.parents).holds F w) (ht : Xht c) :
  Xcr prog 59 [Xax c a k] w F (Xat c).1 [.int .i64 (Xat c).2] := by
 refine Xaa func59 rfl ntmps59 rfl rfl [.st (sl a k c.parents)] (.start1 h) ?_
 (repeat (refine wE ?_; intro _)); refine wA ?_
 rename_i bc
 refine JR.callV rfl (fun w1 hw => Xd2 w1 _ c a k hw.get ht) ?_
 refine wz7 ?_
 refine JC.test (fun h1 => ?_) (fun h1 => ?_)
 ·have h2 : Xat c = ([], 1) := by simp [Xat, h1]
  rw [h2]
  refine wz9 ?_
  exact CT.done (none, 0) rfl (fun w ho => (ho.ent : Hold _ _ [] w).add Xah)
 have h1 : may c = true := by simpa using h1
 have h2 : Xat c = (Xbi c, 0) := by simp [Xat, h1]
 have hm := Xp7 h1
 have hh := Xhx c
 rw [h2]
 have hn1 := hm.node
 have hn2 := hm.seq
 have hn3 := hm.gen
 have hn4 := hm.par
 have hs1 : IntKind.u64.wrap c.ev.seq = c.ev.seq := by rw [show c.ev.seq = ((c.ev.seq.toNat : Nat) : Int) by omega, Xbn]; omega
 have hs2 : IntKind.u64.wrap c.gen = c.gen := by rw [show c.gen = ((c.gen.toNat : Nat) : Int) by omega, Xbn]; omega
 have l1 := Xaw (Xfb c.ev.node)
 have l2 := Xaw c.ev.seq.toNat
 have l3 := Xaw c.gen.toNat
 have l4 := Xaw c.parents.length
 refine wz1 ?_
 refine JR.callV rfl (fun w1 hw => Xvi w1 _ c.ev.node (by omega)) ?_
 refine wz13 ?_
 refine JR.callBuf rfl (fun w1 hw => Xg9 _ (Xl2 (by omega)) w1 _) ?_
 intro a1 c1
 refine wz9 ?_
 refine Wf (Xb3 hs1) rfl ?_
 refine JO.reslot 23 (.int .u64 ((c.ev.seq.toNat : Nat) : Int)) (congrArg (Value.int .u64) (by omega)) ?_
 refine We rfl ?_
 refine JR.callBuf rfl (fun w1 hw => Xg9 _ (by omega) w1 _) ?_
 intro a9 c9
 refine JO.more (fun w1 ho => ho.pub) ?_
 refine wz13 ?_
 refine Xau rfl (by exact ⟨rfl, rfl, by decide⟩) (by omega) ?_
 intro a2 c2
 refine wz9 ?_
 refine Wf (Xb3 hs2) rfl ?_
 refine JO.reslot 29 (.int .u64 ((c.gen.toNat : Nat) : Int)) (congrArg (Value.int .u64) (by omega)) ?_
 refine We rfl ?_
 refine JR.callBuf rfl (fun w1 hw => Xg9 _ (by omega) w1 _) ?_
 intro a9 c9
 refine JO.more (fun w1 ho => ho.pub) ?_
 refine wz13 ?_
 refine Xau rfl (by exact ⟨rfl, rfl, by decide⟩) (by rw [List.length_append]; omega) ?_
 intro a3 c3
 refine wA ?_
 refine Wf (Xb3 (by rw [Xbn]; omega)) rfl ?_
 refine We rfl ?_
 refine JR.callBuf rfl (fun w1 hw => Xg9 _ (by omega) w1 _) ?_
 intro a9 c9
 refine JO.more (fun w1 ho => ho.pub) ?_
 refine wz13 ?_
 refine Xau rfl (by exact ⟨rfl, rfl, by decide⟩) (by rw [List.length_append, List.length_append]; omega) ?_
 intro a4 c4
 rw [show ((numL (Xfb c.ev.node) ++ numL c.ev.seq.toNat) ++ numL c.gen.toNat) ++ numL c.parents.length = Xd8 c from rfl]
 refine wz4 ?_
 refine Xby (fun (i : Nat) p q => [(1, .pointer (some ⟨bc, 0, none⟩)), (5, .slice p (Xd8 c ++ idsL (c.parents.take i)).length q), (6, .int .i64 (i : Int))])
  (fun i p q => [.own bc 29 [.int .i64 c.ev.node, .int .i64 c.ev.seq, .int .i64 c.gen, .slice a c.parents.length k, .int .i64 c.op.kind, .string c.op.key, .string c.op.elem, .int .i64 c.op.n], .st (sl a k c.parents), .res (buf p q 5 (Xd8 c ++ idsL (c.parents.take i)))])
  (fun i _ _ => i ≤ c.parents.length) (fun i _ _ => c.parents.length - i) 0 a4 c4 (Nat.zero_le _) (by rw [List.take_zero, show idsL [] = [] from rfl, List.append_nil]; infer_instance) ?_
 intro i p q hi
 refine wz11 ?_
 refine JC.test (fun hlt => ?_) (fun hge => ?_)
 ·have hlt' : i < c.parents.length := by omega
  have hil := Xfo (c.parents.take i)
  rw [List.length_take] at hil
  have h32 := (c.parents[i]).2
  refine wz7 ?_
  refine Xby (fun (j : Nat) p q => [(1, .pointer (some ⟨bc, 0, none⟩)), (5, .slice p ((Xd8 c ++ idsL (c.parents.take i)) ++ (c.parents[i]).1.take j).length q), (6, .int .i64 (i : Int)), (7, .int .i64 (j : Int))])
   (fun j p q => [.own bc 29 [.int .i64 c.ev.node, .int .i64 c.ev.seq, .int .i64 c.gen, .slice a c.parents.length k, .int .i64 c.op.kind, .string c.op.key, .string c.op.elem, .int .i64 c.op.n], .st (sl a k c.parents), .res (buf p q 5 ((Xd8 c ++ idsL (c.parents.take i)) ++ (c.parents[i]).1.take j))])
   (fun j _ _ => j ≤ 32) (fun j _ _ => 32 - j) 0 p q (Nat.zero_le _) (by rw [List.take_zero, List.append_nil]; infer_instance) ?_
  intro j p q hj
  refine wz11 ?_
  refine JC.test (fun hlt2 => ?_) (fun hge2 => ?_)
  ·have hj' : j < 32 := by omega
   have hjl : j < (c.parents[i]).1.length := by omega
   refine wz1 ?_
   refine Xa9 rfl hlt' ?_
   intro b1 o1
   refine We rfl ?_
   refine Wf (Xac hj') rfl ?_
   refine We rfl ?_
   refine Wf (X1s (L := (c.parents[i]).1) (f := Xaj) j rfl hjl (by omega) rfl) rfl ?_
   (repeat (refine wE ?_; intro _)); refine wA ?_
   refine Xai (u := (c.parents[i]).1[j]) rfl (by exact ⟨rfl, rfl, by decide⟩) (by rw [List.length_append, List.length_append, List.length_take]; omega) ?_
   intro p3 q3
   refine wz2 ?_
   exact ⟨j + 1, p3, q3, by omega, by omega, by rw [List.take_succ_eq_append_getElem hjl, ← List.append_assoc]; infer_instance⟩
  ·obtain rfl : j = 32 := by omega
   rw [List.take_of_length_le (l := (c.parents[i]).1) (by omega)]
   refine wz12 ?_
   have hnx : Xd8 c ++ idsL (c.parents.take (i + 1)) = Xd8 c ++ idsL (c.parents.take i) ++ (c.parents[i]).1 := by rw [Xrv _ _ hlt', List.append_assoc]
   exact ⟨i + 1, p, q, by omega, by omega, by rw [hnx]; infer_instance⟩
 ·obtain rfl : i = c.parents.length := by omega
  have hil := Xfo c.parents
  rw [List.take_length]
  refine wA ?_
  refine JC.test (fun hnode => ?_) (fun hnode => ?_)
  ·have hnode' : ¬ c.ev.node = -1 := by omega
   have hb : Xbi c = Xd8 c ++ idsL c.parents ++ Xdj c.op := by rw [Xbi, if_neg hnode']
   have hop := hm.op hnode'
   have hopl := (Xhw c.op hop).2.2
   obtain ⟨_, _, _, _, _, _, _, _, hopl⟩ := hopl
   rw [hb]
   refine wz9 ?_
   refine Xbp (L := Xdj c.op) (us' := [.int .i64 0]) rfl (fun w1 hw => X2a w1 _ c.op ht.1 ht.2 hop) ?_
   intro p4 q4
   refine wz4 ?_
   refine Xau rfl (by exact ⟨rfl, rfl, by decide⟩) (by rw [List.length_append]; omega) ?_
   intro p5 q5
   refine wz10 ?_
   exact CT.done (p5, q5) rfl (fun w ho => Hold.left (Γ := [.st (sl p5 q5 (Xd8 c ++ idsL c.parents ++ Xdj c.op))]) (Hold.pub (ho.ent : Hold _ _ [.res (buf p5 q5 5 (Xd8 c ++ idsL c.parents ++ Xdj c.op))] w)))
  ·have hnode' : c.ev.node = -1 := by omega
   have hb : Xbi c = Xd8 c ++ idsL c.parents := by rw [Xbi, if_pos hnode']
   rw [hb]
   refine wz1 ?_
   exact CT.done (p, q) rfl (fun w ho => Hold.left (Γ := [.st (sl p q (Xd8 c ++ idsL c.parents))]) (Hold.pub (ho.ent : Hold _ _ [.res (buf p q 5 (Xd8 c ++ idsL c.parents))] w)))
end
end
end Ab
end Go.Proofs.YtdgeffphifgflaaGreat
