/- Lemmas for the walks, part 2 of 6: Arr, More7, More8, Makers, More9, More10, More13, More11, RefOps, Pan, Quad, Range, Seat, Num, Spec, Lib, WalkA, Sort, Ord, Lays, WalkB, WalkC, WalkD, WalkE, WalkF, WalkG, WalkH, WalkI, WalkJ, WalkK, WalkL. -/
import Derived.Test.YtdgeffphifgflaaGreatSj1
import Derived.Deep.AppendSrc
import Derived.Lib.AppendZeros
import Derived.Laws.MakeOwn
import Derived.Laws.CopyRow
import Derived.Recover
import Derived.WalkSmall
import Derived.Laws.Build
import Derived.RangeFuncBox
import Derived.RangeFuncKeeps
import Derived.ControlIn
import Derived.Test.YtdgeffphifgflaaGreatChecked
import Derived.KernelRfl
import Derived.RangeFuncNested
import Derived.RangeFuncBound
import Derived.RangeFuncCalls
import Derived.RangeFuncLeaves
import Derived.Shelf.Abstract
import Derived.WalkKit
import Derived.OwnWalkIn
import Derived.TacticsInMore
import Derived.LoopNIn
import Derived.LoopIn
import Derived.Maps.AppendAt
import Derived.Lib.Bytealg
import Derived.Shelf.SlSortCmp.NoneTotal
import Derived.Shelf.SlSortCmp.QuietGrown
import Derived.Deep.Quiet
import Derived.Deep.QuietTactic
import Derived.BigQuiet
namespace Go.Proofs.YtdgeffphifgflaaGreat
namespace Ab
open Go Go.RowKit
set_option linter.unusedVariables false
set_option linter.unusedSimpArgs false
abbrev Vec (α : Type) (n : Nat) := { l : List α // l.length = n }
def Vec.set {α : Type} {n : Nat} (v : Vec α n) (k : Nat) (x : α) : Vec α n := ⟨v.1.set k x, by rw [List.length_set]; exact v.2⟩
instance {α : Type} {n : Nat} {v : Vec α n} {f : α → Value} : Len (v.1.map f) n := ⟨by simp [v.2]⟩
instance {v : Vec UInt8 4} : One (v.1.map byteV) := ⟨fun u hu => by simp only [List.mem_map] at hu; obtain ⟨b, _, rfl⟩ := hu; rfl⟩
theorem one_bytes {l : List UInt8} : One (l.map byteV) := ⟨fun u hu => by simp only [List.mem_map] at hu; obtain ⟨b, _, rfl⟩ := hu; rfl⟩
theorem one_words {l : List UInt32} : One (l.map w32) := ⟨fun u hu => by simp only [List.mem_map] at hu; obtain ⟨b, _, rfl⟩ := hu; rfl⟩
instance {b : UInt8} : Cel (byteV b) [byteV b] := ⟨rfl⟩
instance {l : List UInt8} : One (l.map byteV) := one_bytes
instance {l : List UInt32} : One (l.map w32) := one_words
section
variable {P : Program} {n : Nn} {w0 : World} {F : Nat → Prop} {ops : Array Oper} {i d : Nat} {t : TypeId} {pos : String} {aft : Array Edge} {g : Option (Nat × Bool)} {os : List Oper} {Q : Cont} {e : E} {Γ : List Fact} [Dr]
theorem OpV.getW {α : Type} {f : α → Value} {x : Operand} {ty : TypeId} {td : TypeDesc} {sz by_ b o : Nat} {z : Value} {L : List α} {Δ : List Fact} {bt : TypeId} {d : Option Nat} (k : Nat)
    [hx : Ev e x (.pointer (some ⟨b, o, none⟩))] [hO : Own Γ b bt (L.map f) Δ] [hT : Ty P ty td sz by_ z] (h : k < L.length) (ho' : o = k) (hsz : sz = 1) [hv : Val td [f (L[k]'h)] (f (L[k]'h))] :
    OpV P n w0 F ⟨d, .load ty x, t, pos, aft, g⟩ e Γ (f (L[k]'h)) :=
  fun a w fr ho => by
    have hw : w.heap[b]? = some (.cells (L.map f).toArray bt (0, 0)) := (ho.perm hO.ok).sat (.own b bt (L.map f)) (by simp)
    have hr : w.rangeAt b o [f (L[k]'h)] := by
      intro j v hj
      cases j with
      | zero =>
        simp only [List.getElem?_cons_zero, Option.some.injEq] at hj
        subst hj
        rw [Nat.add_zero, cell_of_row w b _ _ _ _ hw, ho']
        simp [h]
      | succ j => simp at hj
    have hload := run_load_at (P := P) (t := ty) (v := f (L[k]'h)) hr (by simp [hsz])
    simp [execOp, hx.ok n a fr, hload]
theorem JR.setW {α : Type} {f : α → Value} {x y : Operand} {ty : TypeId} {td : TypeDesc} {sz by_ b o : Nat} {z : Value} {L : List α} {Δ : List Fact} {bt : TypeId} (k : Nat) (u : α)
    [hx : Ev e x (.pointer (some ⟨b, o, none⟩))] [hO : Own Γ b bt (L.map f) Δ] [hy : Ev e y (f u)] [hT : Ty P ty td sz by_ z] [hc : Cel (f u) [f u]] [h1 : One [f u]] (h : k < L.length) (ho' : o = k) (hsz : sz = 1)
    (K : JO P n w0 F ops (i + 1) os Q e (.own b bt ((L.set k u).map f) :: Δ)) : JR P n w0 F ops i ⟨none, .store ty x y, t, pos, aft, g⟩ os Q e Γ :=
  JR.effect fun a w fr ho => by
    have hp := ho.perm hO.ok
    have hw : w.heap[b]? = some (.cells (L.map f).toArray bt (0, 0)) := hp.sat (.own b bt (L.map f)) (by simp)
    have hlay : o + [f u].length ≤ (L.map f).length ∧ (L.map f).take o ++ [f u] ++ (L.map f).drop (o + [f u].length) = (L.set k u).map f := by
      refine ⟨by simp; omega, ?_⟩
      rw [ho', List.map_set, List.set_eq_take_append_cons_drop, if_pos (by simpa using h)]
      simp
    refine ⟨.skip, w.setRow b ((L.set k u).map f).toArray, _, .inl rfl, ?_, hp.setRow, K⟩
    simp [execOp, hx.ok n a fr, hy.ok n a fr, run_store_own (P := P) (ty := ty) (cs := [f u]) (r := (L.set k u).map f) hw (by simp [hsz]) hlay]
theorem JC.reown {c : Code} {bt : TypeId} {vs : List Value} {Δ : List Fact} (b : Nat) (vs' : List Value) [hO : Own Γ b bt vs Δ] (h : vs = vs') (k : JC P n w0 F c Q e (.own b bt vs' :: Δ)) : JC P n w0 F c Q e Γ :=
  JC.more (fun w ho => by rw [← h]; exact ho.perm hO.ok) k
end
instance : NatI (2 : Int) 2 := ⟨rfl⟩
instance : NatI (3 : Int) 3 := ⟨rfl⟩
instance : NatI (4 : Int) 4 := ⟨rfl⟩
instance : NatI (5 : Int) 5 := ⟨rfl⟩
instance : NatI (6 : Int) 6 := ⟨rfl⟩
instance : NatI (7 : Int) 7 := ⟨rfl⟩
instance : NatI (8 : Int) 8 := ⟨rfl⟩
instance : NatI (15 : Int) 15 := ⟨rfl⟩
instance : NatI (16 : Int) 16 := ⟨rfl⟩
instance : NatI (32 : Int) 32 := ⟨rfl⟩
instance : NatI (56 : Int) 56 := ⟨rfl⟩
instance : NatI (63 : Int) 63 := ⟨rfl⟩
instance : NatI (64 : Int) 64 := ⟨rfl⟩
section
variable {P : Program} {n : Nn} {w0 : World} {F : Nat → Prop} {ops : Array Oper} {i d : Nat} {t : TypeId} {pos : String} {aft : Array Edge} {g : Option (Nat × Bool)} {os : List Oper} {Q : Cont} {e : E} {Γ : List Fact} [Dr]
theorem JR.sliceMid {α : Type} [ic : Cell α] {x lo hi' : Operand} {v : Value} {L : List α} {kk k2 : IntKind} {j j2 : Int} {l k : Nat} {ty el : TypeId} {ed : TypeDesc} {sz by_ es eb : Nat} {z ez : Value}
    [hx : Ev e x v] [hL : HasSl Γ v α ic L] [hi : Ev e lo (.int kk j)] [hk : NatI j l] [hi2 : Ev e hi' (.int k2 j2)] [hk2 : NatI j2 k] [hT : Ty P ty (.slice el) sz by_ z] [hE : Ty P el ed es eb ez] (hd : Nat.blt d n.s = true) (hes : es = Cell.sz α) (h : l ≤ k ∧ k ≤ L.length)
    (K : ∀ a c, JO P n w0 F ops (i + 1) os Q ((d, .slice a ((L.drop l).take (k - l)).length c) :: e) (.st (sl a c ((L.drop l).take (k - l))) :: Γ)) : JR P n w0 F ops i ⟨some d, .slice ty x (some lo) (some hi') none, t, pos, aft, g⟩ os Q e Γ :=
  JR.value hd fun a w fr ho => by
    obtain ⟨a0, c, rfl, hsl⟩ := hL.holds ho
    have hlc : L.length ≤ c := hsl.1
    have h1 := run_und (P := P) (t := ty) w
    have h2 := run_size (P := P) (t := el) w
    have hj := hk.ok
    have hj2 := hk2.ok
    subst hj hj2
    have hd1 := sl_drop hsl (show l ≤ L.length by omega)
    have hd2 := sl_take hd1 (k := k - l) (c' := c - l) (by rw [List.length_drop]; omega) ⟨by omega, Nat.le_refl _⟩
    have hlen : ((L.drop l).take (k - l)).length = k - l := by rw [List.length_take, List.length_drop]; omega
    refine ⟨_, w, _, ?_, ho.addSl hd2, K _ _⟩
    have hb2 : (Instr.sliceBound (.int k2 (k : Int)) c .sliceAcap).run P w = .ok k w := by
      simp [Instr.sliceBound, asIntOf]
      omega
    have hb : (Instr.sliceBound (.int kk (l : Int)) k .sliceB).run P w = .ok l w := by
      simp [Instr.sliceBound, asIntOf]
      omega
    rw [hlen]
    simp [execOp, hx.ok n a fr, hi.ok n a fr, hi2.ok n a fr, Instr.sliceAt, Instr.slice, h1, h2, Instr.sliceBounds, hb, hb2, hes]
    by_cases hck : c = l
    · simp [hck]
    · rw [if_neg hck, if_neg (by omega)]
theorem JR.arrayPtr {x : Operand} {v : Value} {L : List UInt8} {ty el : TypeId} {m sz by_ : Nat} {z : Value}
    [hx : Ev e x v] [hL : HasSl Γ v UInt8 inferInstance L] [hT : Ty P ty (.array m el) sz by_ z] (hd : Nat.blt d n.s = true) (h : L.length = m ∧ 0 < m)
    (K : ∀ b o, JO P n w0 F ops (i + 1) os Q ((d, .pointer (some ⟨b, o, none⟩)) :: e) (.st (ro b o (L.map byteV)) :: Γ)) : JR P n w0 F ops i ⟨some d, .sliceToArrayPointer ty x, t, pos, aft, g⟩ os Q e Γ :=
  JR.value hd fun a w fr ho => by
    obtain ⟨a0, c, rfl, hsl⟩ := hL.holds ho
    have h1 := run_und (P := P) (t := ty) w
    have hne : L ≠ [] := by intro h0; subst h0; simp at h; omega
    obtain ⟨b, off, rfl, hb, hlt, hrow⟩ := hsl.2.2.2 hne
    refine ⟨.pointer (some ⟨b, off, none⟩), w, _, ?_, ho.add (A := ro b off (L.map byteV)) ⟨hb, hlt, ?_⟩, K b off⟩
    · have : ¬ L.length < m := by omega
      simp [execOp, hx.ok n a fr, Instr.arrayAt, h1, this]
    · intro j u hu
      rw [List.getElem?_map] at hu
      cases hq : L[j]? with
      | none => rw [hq] at hu; cases hu
      | some q =>
        rw [hq] at hu
        obtain ⟨hjl, hju⟩ := List.getElem?_eq_some_iff.1 hq
        injection hu with hu
        subst hu hju
        exact sl_byte hsl j hjl
end
section
variable {P : Program} {n : Nn} {w0 : World} {F : Nat → Prop} {ops : Array Oper} {i d : Nat} {t : TypeId} {pos : String} {aft : Array Edge} {g : Option (Nat × Bool)} {os : List Oper} {Q : Cont} {e : E} {Γ : List Fact} [Dr]
end
section
variable {P : Program} {n : Nn} {w0 : World} {F : Nat → Prop} {ops : Array Oper} {i d : Nat} {t : TypeId} {pos : String} {aft : Array Edge} {g : Option (Nat × Bool)} {os : List Oper} {Q : Cont} {e : E} {Γ : List Fact}
theorem run_room_src {w : World} (t tx ty e : TypeId) (i : TypeInfo) (ht : P.underlying t = some (.slice e)) (hi : P.info? e = some i)
    (g sLen sCap : Nat) (cur : Array Value) (hg : w.heap[g]? = some (.cells cur e (0, 0))) (x : Value) (m : Nat) (news : List Value) (hs : Src P i.size tx x m news w)
    (hroom : sLen + m ≤ sCap) (hfit : sLen * i.size + news.length ≤ cur.size) :
    (Builtin.append_ #[t, tx] ty #[.slice (some ⟨g, 0, none⟩) sLen sCap, x]).run P w =
      .ok (.slice (some ⟨g, 0, none⟩) (sLen + m) sCap) (w.setRow g (cur.toList.take (sLen * i.size) ++ news ++ cur.toList.drop (sLen * i.size + news.length)).toArray) := by
  have hst := run_storeCells_at P g (sLen * i.size) e news 0 cur w hg (by simpa using hfit) hs.one
  simp only [Nat.add_zero] at hst
  rcases hs.kind with ⟨e', hk⟩ | hk <;> simp [Builtin.append_, run_underlying ht, run_underlying hk, sizeOf, typeInfo, hi, hs.len, hroom, hs.cells, Addr.add_lit, hst]
end
section
variable {P : Program} {n : Nn} {w0 : World} {F : Nat → Prop} {ops : Array Oper} {i d : Nat} {t : TypeId} {pos : String} {aft : Array Edge} {g : Option (Nat × Bool)} {os : List Oper} {Q : Cont} {e : E} {Γ : List Fact} [Dr]
set_option maxHeartbeats 400000 in
theorem append_hold_src {α : Type} [Cell α] {w : World} {Δ : List Fact} {a0 : Option Addr} {c0 : Nat} {el ty tx : TypeId} {L : List α} {ed : TypeDesc} {sz by_ es eb : Nat} {z ez : Value} {ecs : List Value} {x : Value} {m : Nat}
    (ho : Hold w0 F (.res (buf a0 c0 el L) :: Δ) w) (r' : List (α × Cell.Ix α)) (hm : r'.length = m) (hS : Src P (Cell.sz α) tx x m (flat r') w)
    (hfac : ∀ p ∈ r', ∀ A ∈ Cell.facts p.1 p.2, A.holds (fp w0 F (.res (buf a0 c0 el L) :: Δ)) w)
    [hT : Ty P ty (.slice el) sz by_ z] [hE : Ty P el ed es eb ez] [hz : Cel ez ecs] (hes : es = Cell.sz α ∧ ecs.length = es ∧ eb ≤ 4096) (hl : L.length + m ≤ 34359738368) :
    ∃ a1 k1 w', (Builtin.append_ #[ty, tx] t #[.slice a0 L.length c0, x]).run P w = .ok (.slice a1 (L ++ r'.map (·.1)).length k1) w' ∧ Hold w0 F (.res (buf a1 k1 el (L ++ r'.map (·.1))) :: Δ) w' := by
  obtain ⟨h0, q, hq, hown, hfacts⟩ : (buf a0 c0 el L).holds _ w := ho.sat (.res (buf a0 c0 el L)) (by simp)
  obtain ⟨ti, hti, hti1, hti2, hti3⟩ := hE.some
  have hqL : q.length = L.length := by rw [← hq]; simp
  have hlen : (L ++ r'.map (·.1)).length = L.length + m := by simp [hm]
  have hmap : (q ++ r').map (·.1) = L ++ r'.map (·.1) := by simp [hq]
  have hflat : flat (q ++ r') = flat q ++ flat r' := flat_append q r'
  have hfl : (flat r').length = m * ti.size := by rw [flat_length, hm, hti1, hes.1]
  have hflq : (flat q).length = L.length * ti.size := by rw [flat_length, hqL, hti1, hes.1]
  have hb48 : (L.length + m) * ti.bytes ≤ 140737488355328 := by rw [hti2]; have := Nat.mul_le_mul hl hes.2.2; omega
  have hzs : ez.cells.size = ti.size := by rw [cells_eq (v := ez) (cs := ecs), hti1]; simpa using hes.2.1
  have hsz1 : ti.size = Cell.sz α := by rw [hti1, hes.1]
  have hS : Src P ti.size tx x m (flat r') w := by rw [hsz1]; exact hS
  -- a new block
  have grown : ∀ (old : Nat), old < L.length + m →
      Hold w0 F (.res (buf (some ⟨w.heap.size, 0, none⟩) (grownCap w (L.length + m) old el) el (L ++ r'.map (·.1))) :: Δ)
        (w.drew.alloc (.cells ((flat q ++ flat r').toArray ++ Builtin.zeroCells ez.cells (grownCap w (L.length + m) old el - (L.length + m))) el)) := by
    intro old hold
    have hge := grownCap_ge w (L.length + m) old el
    have hcm : grownCap w (L.length + m) old el ≤ maxLen := grownCap_le_maxLen w (L.length + m) old el (by simp only [maxLen]; omega)
    have hbel : Bel w.heap.size w (w.drew.alloc (.cells ((flat q ++ flat r').toArray ++ Builtin.zeroCells ez.cells (grownCap w (L.length + m) old el - (L.length + m))) el)) :=
      ((Bel.refl _ _).drew).alloc (Nat.le_refl _) _
    refine ho.tail.call (B := [.res (buf (some ⟨w.heap.size, 0, none⟩) (grownCap w (L.length + m) old el) el (L ++ r'.map (·.1)))]) hbel ⟨fun f hf => ?_, by simp, fun f hf k hk => ?_⟩
    · simp only [List.mem_singleton] at hf; subst hf
      refine ⟨by rw [hlen]; simp only [lim]; omega, q ++ r', hmap, ⟨by rw [flat_length, hlen]; simp [hqL, hm], .inr ⟨w.heap.size, _, _, rfl, Nat.zero_le _, heap_alloc_new w.drew _, by rw [hlen]; exact hge, hcm, ?_, ?_⟩⟩, fun p hp A hA => ?_⟩
      · simp only [Array.size_append, List.size_toArray, size_zeroCells, hzs, List.length_append, hfl, hflq, ← Nat.add_mul, ← hsz1]
        congr 1
        omega
      · simp only [Array.toList_append, hflat]
        rw [hlen]
        exact List.take_left' (by rw [List.length_append, hfl, hflq, ← Nat.add_mul, hsz1])
      · have hA' : A.holds (fp w0 F (.res (buf a0 c0 el L) :: Δ)) w := by
          rcases List.mem_append.1 hp with hp | hp
          · exact hfacts p hp A hA
          · exact hfac p hp A hA
        refine Fact.sat_keep (f := .st A) hA' (fun k hk hlt => ⟨.inl ⟨hk.1, fun f hf => hk.2 f (by simp [hf])⟩, fun f hf => ?_⟩) (fun k hlt _ => hbel.block k hlt)
        simp only [List.mem_singleton] at hf; subst hf
        rintro ⟨a', ha', rfl⟩
        injection ha' with ha'
        subst ha'
        simp at hlt
    · simp only [List.mem_singleton] at hf; subst hf
      obtain ⟨a', ha', rfl⟩ := hk
      injection ha' with ha'
      subst ha'
      exact Nat.le_refl _
  rcases hown.2 with ⟨hv, hn⟩ | ⟨gb, cap, cur, hv, _, hg, hnc, hcm, hcs, htake⟩
  · injection hv with e1 e2 e3
    subst e1 e3
    have hL0 : L = [] := List.eq_nil_of_length_eq_zero hn
    subst hL0
    have hq0 : q = [] := List.eq_nil_of_length_eq_zero (by simpa using hqL)
    subst hq0
    by_cases h0m : m = 0
    · subst h0m
      have hr0 : r' = [] := List.eq_nil_of_length_eq_zero hm
      subst hr0
      refine ⟨none, 0, w, ?_, ho⟩
      rcases hS.kind with ⟨e', hk⟩ | hk <;> simp [Builtin.append_, run_underlying hT.und, run_underlying hk, sizeOf, typeInfo, hti, hS.len, hS.cells]
    · have hr := run_append_grow_src (P := P) w ty tx t el ti ez hT.und hti hti3 none 0 0 [] (by simp [Builtin.firstCells]) x m (flat r') hS (by omega) (by omega) (growslice_fits (by omega) (by simpa using hb48))
      have hgr := grown 0 (by simp; omega)
      simp only [Nat.zero_add, List.nil_append] at hr
      refine ⟨some ⟨w.heap.size, 0, none⟩, grownCap w m 0 el, w.drew.alloc (.cells ((flat r').toArray ++ Builtin.zeroCells ez.cells (grownCap w m 0 el - m)) el), ?_, ?_⟩
      · rw [show ([] ++ List.map (fun x => x.1) r' : List α).length = m by simp [hm]]
        exact hr
      · simpa [flat] using hgr
  · injection hv with e1 e2 e3
    subst e1 e3
    by_cases hroom : L.length + m ≤ c0
    · have hfit : L.length * ti.size + (flat r').length ≤ cur.size := by rw [hfl, hcs, ← Nat.add_mul, hsz1]; exact Nat.mul_le_mul_right _ hroom
      have hr := run_room_src (P := P) (w := w) ty tx t el ti hT.und hti gb L.length c0 cur hg x m (flat r') hS hroom hfit
      refine ⟨some ⟨gb, 0, none⟩, c0, _, by rw [hlen]; exact hr, ?_⟩
      have howns : ∀ (X : List α) k, (buf (some ⟨gb, 0, none⟩) c0 el X).owns k ↔ k = gb := by
        intro X k
        constructor
        · rintro ⟨a', ha', rfl⟩; injection ha' with ha'; subst ha'; rfl
        · rintro rfl; exact ⟨_, rfl, rfl⟩
      have hheap : ∀ k, k ≠ gb → (w.setRow gb (cur.toList.take (L.length * ti.size) ++ flat r' ++ cur.toList.drop (L.length * ti.size + (flat r').length)).toArray).heap[k]? = w.heap[k]? := fun k hk => by
        simp only [World.setRow, Array.getElem?_modify]; rw [if_neg (by omega)]
      refine ho.swap (b := gb) (howns L) (howns _) rfl rfl rfl (by simp) hheap ?_
      refine ⟨by rw [hlen]; simp only [lim]; omega, q ++ r', hmap, ⟨by rw [flat_length, hlen]; simp [hqL, hm], .inr ⟨gb, c0, _, rfl, Nat.zero_le _, setRow_heap w gb cur _ el _ hg, by rw [hlen]; exact hroom, hcm, ?_, ?_⟩⟩, fun p hp A hA => ?_⟩
      · simp only [List.size_toArray, List.length_append, List.length_take, List.length_drop, Array.length_toList]
        omega
      · rw [hflat, ← htake, hlen, ← hsz1]
        simp only []
        refine List.take_left' ?_
        have e9 : cur.toList.length = cur.size := by simp
        rw [List.length_append, List.length_take, hfl, Nat.add_mul]
        omega
      · have hA' : A.holds (fp w0 F (.res (buf (some ⟨gb, 0, none⟩) c0 el L) :: Δ)) w := by
          rcases List.mem_append.1 hp with hp | hp
          · exact hfacts p hp A hA
          · exact hfac p hp A hA
        refine Fact.sat_keep (f := .st A) hA' (fun k hk hlt => ⟨hk.1, fun f hf => ?_⟩) (fun k hlt hk => ?_)
        · rcases List.mem_cons.1 hf with rfl | hf
          · exact fun h => hk.2 (.res (buf (some ⟨gb, 0, none⟩) c0 el L)) (by simp) ((howns L k).2 ((howns _ k).1 h))
          · exact hk.2 f (by simp [hf])
        · have hk' := hk.resolve_right (by simp [Fact.owns])
          exact hheap k (fun e => hk'.2 (.res (buf (some ⟨gb, 0, none⟩) c0 el L)) (by simp) ((howns L k).2 e))
    · have holds : ∀ j u, (flat q)[j]? = some u → w.cell? ((⟨gb, 0, none⟩ : Addr).add j) = some u := by
        intro j u hu
        rw [Addr.add_mid, Nat.zero_add, cell_of_row w gb j cur el _ hg]
        rw [← htake, List.getElem?_take] at hu
        split at hu
        · simpa using hu
        · cases hu
      have hold := run_firstCells_some (P := P) w.drew ti.size L.length ⟨gb, 0, none⟩ L.length c0 (flat q) hflq (by simpa using holds)
      have hr := run_append_grow_src (P := P) w ty tx t el ti ez hT.und hti hti3 (some ⟨gb, 0, none⟩) L.length c0 (flat q) hold x m (flat r') hS (by omega) (by omega) (growslice_fits (by omega) hb48)
      refine ⟨some ⟨w.heap.size, 0, none⟩, grownCap w (L.length + m) c0 el, _, ?_, grown c0 (by omega)⟩
      rw [hlen]; exact hr
def bytesOf (s : ByteArray) : List UInt8 := s.data.toList
end
section
variable {P : Program} {n : Nn} {w0 : World} {F : Nat → Prop} {ops : Array Oper} {i d : Nat} {t : TypeId} {pos : String} {aft : Array Edge} {g : Option (Nat × Bool)} {os : List Oper} {Q : Cont} {e : E} {Γ : List Fact}
theorem bytesOf_length (s : ByteArray) : (bytesOf s).length = s.size := by simp [bytesOf]
end
section
variable {P : Program} {n : Nn} {w0 : World} {F : Nat → Prop} {ops : Array Oper} {i d : Nat} {t : TypeId} {pos : String} {aft : Array Edge} {g : Option (Nat × Bool)} {os : List Oper} {Q : Cont} {e : E} {Γ : List Fact} [Dr]
def bytesIx (L : List UInt8) : List (UInt8 × Cell.Ix UInt8) := L.map (fun b => (b, ()))
end
section
variable {P : Program} {n : Nn} {w0 : World} {F : Nat → Prop} {ops : Array Oper} {i d : Nat} {t : TypeId} {pos : String} {aft : Array Edge} {g : Option (Nat × Bool)} {os : List Oper} {Q : Cont} {e : E} {Γ : List Fact}
theorem bytesIx_length (L : List UInt8) : (bytesIx L).length = L.length := by simp [bytesIx]
end
section
variable {P : Program} {n : Nn} {w0 : World} {F : Nat → Prop} {ops : Array Oper} {i d : Nat} {t : TypeId} {pos : String} {aft : Array Edge} {g : Option (Nat × Bool)} {os : List Oper} {Q : Cont} {e : E} {Γ : List Fact} [Dr]
end
section
variable {P : Program} {n : Nn} {w0 : World} {F : Nat → Prop} {ops : Array Oper} {i d : Nat} {t : TypeId} {pos : String} {aft : Array Edge} {g : Option (Nat × Bool)} {os : List Oper} {Q : Cont} {e : E} {Γ : List Fact}
theorem flat_bytes (L : List UInt8) : flat (bytesIx L) = L.map byteV := by
  induction L with
  | nil => rfl
  | cons b L ih => simp only [bytesIx, List.map_cons, flat] at ih ⊢; rw [ih]; rfl
end
section
variable {P : Program} {n : Nn} {w0 : World} {F : Nat → Prop} {ops : Array Oper} {i d : Nat} {t : TypeId} {pos : String} {aft : Array Edge} {g : Option (Nat × Bool)} {os : List Oper} {Q : Cont} {e : E} {Γ : List Fact} [Dr]
end
section
variable {P : Program} {n : Nn} {w0 : World} {F : Nat → Prop} {ops : Array Oper} {i d : Nat} {t : TypeId} {pos : String} {aft : Array Edge} {g : Option (Nat × Bool)} {os : List Oper} {Q : Cont} {e : E} {Γ : List Fact}
theorem map_bytes (L : List UInt8) : (bytesIx L).map (·.1) = L := by simp [bytesIx, Function.comp_def]
end
section
variable {P : Program} {n : Nn} {w0 : World} {F : Nat → Prop} {ops : Array Oper} {i d : Nat} {t : TypeId} {pos : String} {aft : Array Edge} {g : Option (Nat × Bool)} {os : List Oper} {Q : Cont} {e : E} {Γ : List Fact} [Dr]
theorem JR.appendStr {x y : Operand} {v : Value} {s : ByteArray} {L : List UInt8} {el ty tx : TypeId} {ed : TypeDesc} {sz by_ sz2 by2 es eb : Nat} {z z2 ez : Value} {ecs : List Value} {Δ : List Fact}
    [hx : Ev e x v] [hB : HasBuf Γ v UInt8 inferInstance el L Δ] [hy : Ev e y (.string s)] [hT : Ty P ty (.slice el) sz by_ z] [hU : Ty P tx .string sz2 by2 z2] [hE : Ty P el ed es eb ez] [hz : Cel ez ecs]
    (hd : Nat.blt d n.s = true) (hes : es = 1 ∧ ecs.length = es ∧ eb ≤ 4096) (hl : L.length + s.size ≤ 34359738368)
    (K : ∀ a c, JO P n w0 F ops (i + 1) os Q ((d, .slice a (L ++ bytesOf s).length c) :: e) (.res (buf a c el (L ++ bytesOf s)) :: Δ)) :
    JR P n w0 F ops i ⟨some d, .call ⟨.builtin .append, #[x, y], #[ty, tx]⟩, t, pos, aft, g⟩ os Q e Γ :=
  JR.value hd fun a w fr ho => by
    obtain ⟨a0, c0, rfl, hperm⟩ := hB.ok
    have hsrc : Src P (Cell.sz UInt8) tx (.string s) s.size (flat (bytesIx (bytesOf s))) w := by
      rw [flat_bytes]; exact Src.ofString w hU.und s
    obtain ⟨a1, k1, w', hrun, hw'⟩ := append_hold_src (P := P) (t := t) (ty := ty) (tx := tx) (ho.perm hperm) (bytesIx (bytesOf s)) (by rw [bytesIx_length, bytesOf_length]) hsrc (fun p hp A hA => by simp [Cell.facts] at hA) hes (by omega)
    rw [map_bytes] at hrun hw'
    refine ⟨_, w', _, ?_, hw', K a1 k1⟩
    simp [execOp, resolve_builtin, invoke, builtin, hx.ok n a fr, hy.ok n a fr] at hrun ⊢
    simp [hrun]
theorem JR.appendZeros {α : Type} [ic : Cell α] {x y : Operand} {kk k2 : IntKind} {j : Int} {k : Nat} {ty tx el : TypeId} {ed : TypeDesc} {sz by_ sz2 by2 es eb : Nat} {z z2 ez : Value} {ecs : List Value}
    [hx : Ev e x (.slice none 0 0)] [hy : Ev e y (.int kk j)] [hk : NatI j k] [hT : Ty P ty (.slice el) sz by_ z] [hU : Ty P tx (.int k2) sz2 by2 z2] [hE : Ty P el ed es eb ez] [hz : Cel ez ecs]
    (hd : Nat.blt d n.s = true) (hes : es = Cell.sz α ∧ ecs.length = es ∧ eb ≤ 4096) (hl : 0 < k ∧ k ≤ 34359738368)
    (K : ∀ b c, k ≤ c → JO P n w0 F ops (i + 1) os Q ((d, .slice (some ⟨b, 0, none⟩) k c) :: e) (.res (buf (α := α) (some ⟨b, 0, none⟩) c el []) :: Γ)) :
    JR P n w0 F ops i ⟨some d, .call ⟨.builtin .append, #[x, y], #[ty, tx]⟩, t, pos, aft, g⟩ os Q e Γ :=
  JR.value hd fun a w fr ho => by
    obtain ⟨ti, hti, hti1, hti2, hti3⟩ := hE.some
    have hj := hk.ok
    subst hj
    have hb48 : k * ti.bytes ≤ 281474976710656 := by rw [hti2]; have := Nat.mul_le_mul hl.2 hes.2.2; omega
    have hr := Lib.run_append_nil_zeros (P := P) w ty tx t el ti ez kk k2 hT.und hU.und hti hti3 k hl.1 (by rw [hti1, hes.1]; exact Cell.pos) (by omega) hb48
    have hge := grownCap_ge w k 0 el
    have hcm : grownCap w k 0 el ≤ maxLen := grownCap_le_maxLen w k 0 el (by simp only [maxLen]; omega)
    have hzs : ez.cells.size = ti.size := by rw [cells_eq (v := ez) (cs := ecs), hti1]; simpa using hes.2.1
    have hsz1 : ti.size = Cell.sz α := by rw [hti1, hes.1]
    refine ⟨_, w.drew.alloc (.cells (Builtin.zeroCells ez.cells k ++ Builtin.zeroCells ez.cells (grownCap w k 0 el - k)) el), _, ?_, ?_, K w.heap.size (grownCap w k 0 el) hge⟩
    · simp [execOp, resolve_builtin, invoke, builtin, hx.ok n a fr, hy.ok n a fr] at hr ⊢
      simp [hr]
    · have hd' : Hold w0 F Γ w.drew := ho.drew
      refine hd'.push (f := .res (buf (α := α) (some ⟨w.heap.size, 0, none⟩) (grownCap w k 0 el) el [])) (o := .cells (Builtin.zeroCells ez.cells k ++ Builtin.zeroCells ez.cells (grownCap w k 0 el - k)) el) (fun k' => ⟨?_, ?_⟩) (fun F' w' hw => ?_)
      · rintro ⟨a', ha', rfl⟩; injection ha' with ha'; subst ha'; rfl
      · rintro rfl; exact ⟨_, rfl, rfl⟩
      · refine ⟨by simp [lim], [], rfl, ⟨by simp [flat], .inr ⟨w.heap.size, _, _, rfl, Nat.zero_le _, hw, Nat.zero_le _, hcm, ?_, by simp [flat]⟩⟩, by simp⟩
        simp only [Array.size_append, size_zeroCells, hzs, ← Nat.add_mul, ← hsz1]
        congr 1
        omega
end
section
variable {P : Program} {n : Nn} {w0 : World} {F : Nat → Prop} {ops : Array Oper} {i d : Nat} {t : TypeId} {pos : String} {aft : Array Edge} {g : Option (Nat × Bool)} {os : List Oper} {Q : Cont} {e : E} {Γ : List Fact}
theorem madeBytes (c : Nat) : (madeCells (Value.cells (byteV 0)) (c * 1)) = ((List.replicate c (0 : UInt8)).map byteV).toArray := by
  apply Array.ext
  · simp [size_madeCells]
  · intro i h1 h2
    simp [madeCells, Value.cells, byteV, Nat.mod_one]
end
section
variable {P : Program} {n : Nn} {w0 : World} {F : Nat → Prop} {ops : Array Oper} {i d : Nat} {t : TypeId} {pos : String} {aft : Array Edge} {g : Option (Nat × Bool)} {os : List Oper} {Q : Cont} {e : E} {Γ : List Fact} [Dr]
theorem JR.makeBytes {x y : Operand} {kk k2 : IntKind} {j j2 : Int} {l c : Nat} {ty el : TypeId} {ed : TypeDesc} {sz by_ : Nat} {z : Value}
    [hx : Ev e x (.int kk j)] [hk : NatI j l] [hy : Ev e y (.int k2 j2)] [hk2 : NatI j2 c] [hT : Ty P ty (.slice el) sz by_ z] [hE : Ty P el ed 1 1 (byteV 0)]
    (hd : Nat.blt d n.s = true) (hl : l ≤ c ∧ c ≤ 34359738368)
    (K : ∀ b, JO P n w0 F ops (i + 1) os Q ((d, .slice (some ⟨b, 0, none⟩) (List.replicate l (0 : UInt8)).length c) :: e) (.res (buf (some ⟨b, 0, none⟩) c el (List.replicate l (0 : UInt8))) :: Γ)) :
    JR P n w0 F ops i ⟨some d, .makeSlice ty x y, t, pos, aft, g⟩ os Q e Γ :=
  JR.value hd fun a w fr ho => by
    obtain ⟨ti, hti, hti1, hti2, hti3⟩ := hE.some
    have hj := hk.ok
    have hj2 := hk2.ok
    subst hj hj2
    have hr := run_make (P := P) w ty el ti (byteV 0) hT.und hti hti3 kk k2 (l : Int) (c : Int) (by omega) (by omega) (by rw [hti2]; omega) (by omega)
    simp only [Int.toNat_natCast, hti1, madeBytes] at hr
    refine ⟨_, w.alloc (.cells ((List.replicate c (0 : UInt8)).map byteV).toArray el), _, ?_, ?_, K w.heap.size⟩
    · simp [execOp, hx.ok n a fr, hy.ok n a fr, hr]
    · refine ho.push (f := .res (buf (some ⟨w.heap.size, 0, none⟩) c el (List.replicate l (0 : UInt8)))) (o := .cells ((List.replicate c (0 : UInt8)).map byteV).toArray el) (fun k' => ⟨?_, ?_⟩) (fun F' w' hw => ?_)
      · rintro ⟨a', ha', rfl⟩; injection ha' with ha'; subst ha'; rfl
      · rintro rfl; exact ⟨_, rfl, rfl⟩
      · refine ⟨by simp [lim]; omega, bytesIx (List.replicate l (0 : UInt8)), map_bytes _, ⟨by rw [flat_bytes]; simp [Cell.sz], .inr ⟨w.heap.size, _, _, rfl, Nat.zero_le _, hw, by simp; omega, by simp [maxLen]; omega, by simp [Cell.sz], ?_⟩⟩, fun p hp A hA => by simp [Cell.facts] at hA⟩
        rw [flat_bytes]
        simp [Cell.sz, List.take_replicate]
        omega
theorem OpV.sliceArrFrom {x lo : Operand} {ty el : TypeId} {b o m l sz by_ es eb : Nat} {z ez : Value} {ed : TypeDesc} {kk : IntKind} {j : Int} [hx : Ev e x (.pointer (some ⟨b, o, none⟩))] [hi : Ev e lo (.int kk j)] [hk : NatI j l]
    [hT : Ty P ty (.array m el) sz by_ z] [hE : Ty P el ed es eb ez] (hm : l < m) (hes : es = 1) : OpV P n w0 F ⟨d, .slice ty x (some lo) none none, t, pos, aft, g⟩ e Γ (.slice (some ⟨b, o + l, none⟩) (m - l) (m - l)) :=
  fun a w fr _ => by
    have h1 := run_und (P := P) (t := ty) w
    have h2 := run_size (P := P) (t := el) w
    have hj := hk.ok
    subst hj hes
    have h3 : (Instr.sliceBound (.int kk (l : Int)) m .sliceB).run P w = .ok l w := by
      simp [Instr.sliceBound, asIntOf]
      omega
    have h4 : ¬ m = l := by omega
    simp [execOp, hx.ok n a fr, hi.ok n a fr, Instr.sliceAt, h1, h2, Instr.sureAddr, Instr.sliceBounds, h3, h4, Addr.add_mid]
theorem OpV.sliceArrTo {x hi' : Operand} {ty el : TypeId} {b o m k sz by_ es eb : Nat} {z ez : Value} {ed : TypeDesc} {kk : IntKind} {j : Int} [hx : Ev e x (.pointer (some ⟨b, o, none⟩))] [hi : Ev e hi' (.int kk j)] [hk : NatI j k]
    [hT : Ty P ty (.array m el) sz by_ z] [hE : Ty P el ed es eb ez] (hm : k ≤ m) : OpV P n w0 F ⟨d, .slice ty x none (some hi') none, t, pos, aft, g⟩ e Γ (.slice (some ⟨b, o, none⟩) k m) :=
  fun a w fr _ => by
    have h1 := run_und (P := P) (t := ty) w
    have h2 := run_size (P := P) (t := el) w
    have hj := hk.ok
    subst hj
    have h3 : (Instr.sliceBound (.int kk (k : Int)) m .sliceAlen).run P w = .ok k w := by
      simp [Instr.sliceBound, asIntOf]
      omega
    simp [execOp, hx.ok n a fr, hi.ok n a fr, Instr.sliceAt, h1, h2, Instr.sureAddr, Instr.sliceBounds, h3, Addr.add]
theorem copy_own_run {x y : Operand} {b o dl dc b2 o2 sl_ sc : Nat} {vs us cs : List Value} {bt ty ty2 el : TypeId} {ed : TypeDesc} {sz by_ eb p : Nat} {z ez : Value} {Δ : List Fact} {a : Act} {w : World} {d : Option Nat}
    [hx : Ev e x (.slice (some ⟨b, o, none⟩) dl dc)] [hO : Own Γ b bt vs Δ] [hy : Ev e y (.slice (some ⟨b2, o2, none⟩) sl_ sc)] [hA : At Γ b2 p us] [hT : Ty P ty (.slice el) sz by_ z] [hE : Ty P el ed 1 eb ez]
    (hcs : (us.drop (o2 - p)).take (Nat.min sl_ dl) = cs) (hp : p ≤ o2) (hlen : cs.length = Nat.min sl_ dl) (hfit : o + cs.length ≤ vs.length) (h1 : One cs) (fr : Fr n e a) (ho : Hold w0 F Γ w) :
    (execOp a.eval ⟨d, .call ⟨.builtin .copy, #[x, y], #[ty, ty2]⟩, t, pos, aft, g⟩).run P w = .ok (.value (goInt cs.length)) (w.setRow b (vs.take o ++ cs ++ vs.drop (o + cs.length)).toArray) ∧ Hold w0 F (.own b bt (vs.take o ++ cs ++ vs.drop (o + cs.length)) :: Δ) (w.setRow b (vs.take o ++ cs ++ vs.drop (o + cs.length)).toArray) := by
  have hpm := ho.perm hO.ok
  have hw : w.heap[b]? = some (.cells vs.toArray bt (0, 0)) := hpm.sat (.own b bt vs) (by simp)
  have hr := rangeAt_seg (hA.ok w0 F w ho) hcs
  rw [show p + (o2 - p) = o2 by omega] at hr
  obtain ⟨ti, hti, hti1, _, _⟩ := hE.some
  have hrun := run_copy_row (P := P) w ty ty2 t el b o dl dc ⟨b2, o2, none⟩ sl_ sc vs.toArray bt cs hT.und (by rw [hti]; simp [hti1]) hw hlen (fun j v hv => by rw [Addr.add_mid]; exact hr j v hv) (by simpa using hfit) h1.ok
  refine ⟨?_, hpm.setRow⟩
  simp [execOp, resolve_builtin, invoke, builtin, hx.ok n a fr, hy.ok n a fr] at hrun ⊢
  simp [hrun]
theorem JR.copyOwn {x y : Operand} {b o dl dc b2 o2 sl_ sc : Nat} {vs us cs : List Value} {bt ty ty2 el : TypeId} {ed : TypeDesc} {sz by_ eb p : Nat} {z ez : Value} {Δ : List Fact}
    [hx : Ev e x (.slice (some ⟨b, o, none⟩) dl dc)] [hO : Own Γ b bt vs Δ] [hy : Ev e y (.slice (some ⟨b2, o2, none⟩) sl_ sc)] [hA : At Γ b2 p us] [hT : Ty P ty (.slice el) sz by_ z] [hE : Ty P el ed 1 eb ez]
    (hd : Nat.blt d n.s = true) (hcs : (us.drop (o2 - p)).take (Nat.min sl_ dl) = cs) (hp : p ≤ o2) (hlen : cs.length = Nat.min sl_ dl) (hfit : o + cs.length ≤ vs.length) (h1 : One cs)
    (K : JO P n w0 F ops (i + 1) os Q ((d, goInt cs.length) :: e) (.own b bt (vs.take o ++ cs ++ vs.drop (o + cs.length)) :: Δ)) :
    JR P n w0 F ops i ⟨some d, .call ⟨.builtin .copy, #[x, y], #[ty, ty2]⟩, t, pos, aft, g⟩ os Q e Γ :=
  JR.value hd fun a w fr ho => by
    obtain ⟨hr, hh⟩ := copy_own_run (P := P) (x := x) (y := y) (b := b) (o := o) (b2 := b2) (o2 := o2) (us := us) (t := t) (pos := pos) (aft := aft) (g := g) (hT := hT) (hE := hE) (ty2 := ty2) (d := some d) hcs hp hlen hfit h1 fr ho
    exact ⟨_, _, _, hr, hh, K⟩
theorem JM.reslot {ops : List Oper} {m fuel : Nat} {done : List Bool} (s : Nat) {v : Value} (u : Value) [hs : Lk e s v] (h : v = u) (k : JM P n w0 F ops m fuel done Q ((s, u) :: e) Γ) : JM P n w0 F ops m fuel done Q e Γ :=
  fun a w fr ho => k a w (fr.again (by rw [← h]; exact hs.ok)) ho
theorem JQ.reslot {ops os : List Oper} {K : E → Prop} (s : Nat) {v : Value} (u : Value) [hs : Lk e s v] (h : v = u) (k : JQ P n w0 F ops os K ((s, u) :: e) Γ) : JQ P n w0 F ops os K e Γ :=
  fun a fr => k a (fr.again (by rw [← h]; exact hs.ok))
theorem JO.reown {bt : TypeId} {vs : List Value} {Δ : List Fact} (b : Nat) (vs' : List Value) [hO : Own Γ b bt vs Δ] (h : vs = vs') (k : JO P n w0 F ops i os Q e (.own b bt vs' :: Δ)) : JO P n w0 F ops i os Q e Γ :=
  JO.more (fun w ho => by rw [← h]; exact ho.perm hO.ok) k
theorem JR.copyBuf {x y : Operand} {v u : Value} {L M : List UInt8} {el ty ty2 : TypeId} {ed : TypeDesc} {sz by_ eb : Nat} {z ez : Value} {Δ : List Fact}
    [hx : Ev e x v] [hB : HasBuf Γ v UInt8 inferInstance el L Δ] [hy : Ev e y u] [hS : HasSl Γ u UInt8 inferInstance M] [hT : Ty P ty (.slice el) sz by_ z] [hE : Ty P el ed 1 eb ez]
    (hd : Nat.blt d n.s = true) (hl : L.length = M.length)
    (K : ∀ a c, v = .slice a M.length c → JO P n w0 F ops (i + 1) os Q ((d, .int .i64 (M.length : Int)) :: e) (.res (buf a c el M) :: Δ)) :
    JR P n w0 F ops i ⟨some d, .call ⟨.builtin .copy, #[x, y], #[ty, ty2]⟩, t, pos, aft, g⟩ os Q e Γ :=
  JR.value hd fun a w fr ho => by
    obtain ⟨a0, c0, rfl, hperm⟩ := hB.ok
    obtain ⟨a1, c1, rfl, hsl⟩ := hS.holds ho
    obtain ⟨ti, hti, hti1, _, _⟩ := hE.some
    have hsz : (P.info? el).map (·.size) = some 1 := by rw [hti]; simp [hti1]
    have hp := ho.perm hperm
    obtain ⟨h0, q, hq, hown, _⟩ : (buf a0 c0 el L).holds _ w := hp.sat (.res (buf a0 c0 el L)) (by simp)
    by_cases hM : M = []
    · subst hM
      have hL : L = [] := List.eq_nil_of_length_eq_zero (by simpa using hl)
      subst hL
      have hrun := run_copy_none (P := P) w ty ty2 t el a0 a1 0 c0 0 c1 hT.und hsz rfl
      refine ⟨_, w, _, ?_, hp, K a0 c0 rfl⟩
      simp [execOp, resolve_builtin, invoke, builtin, hx.ok n a fr, hy.ok n a fr] at hrun ⊢
      simp [hrun]
      rfl
    · have hsl' := sl_perm hsl hperm
      obtain ⟨b1, o1, rfl, hF, hlt, hrow⟩ := hsl'.2.2.2 hM
      rcases hown.2 with ⟨hv, hn⟩ | ⟨gb, cap, cur, hv, _, hg, hnc, hcm, hcs, htake⟩
      · exact (hM (List.eq_nil_of_length_eq_zero (by omega))).elim
      · injection hv with e1 e2 e3
        subst e1 e3
        have hsrc : ∀ j v, (M.map byteV)[j]? = some v → w.cell? ((⟨b1, o1, none⟩ : Addr).add j) = some v := by
          intro j v hv
          rw [List.getElem?_map] at hv
          cases hq' : M[j]? with
          | none => rw [hq'] at hv; cases hv
          | some q' =>
            rw [hq'] at hv
            obtain ⟨hjl, hju⟩ := List.getElem?_eq_some_iff.1 hq'
            injection hv with hv
            subst hv hju
            rw [Addr.add_mid]
            exact sl_byte hsl' j hjl
        have hone : ∀ v ∈ M.map byteV, v.oneCell' = true := one_bytes.ok
        have hcur : cur.size = c0 := by simpa [Cell.sz] using hcs
        have hrun := run_copy_row (P := P) w ty ty2 t el gb 0 L.length c0 ⟨b1, o1, none⟩ M.length c1 cur el (M.map byteV) hT.und hsz hg (by simp [hl]) hsrc (by simp; omega) hone
        refine ⟨.int .i64 (M.length : Int), w.setRow gb ((M.map byteV) ++ cur.toList.drop M.length).toArray, _, ?_, ?_, K (some ⟨gb, 0, none⟩) c0 (by rw [hl])⟩
        · simp [execOp, resolve_builtin, invoke, builtin, hx.ok n a fr, hy.ok n a fr] at hrun ⊢
          simp [hrun, goInt]
        · have howns : ∀ (X : List UInt8) k, (buf (some ⟨gb, 0, none⟩) c0 el X).owns k ↔ k = gb := by
            intro X k
            constructor
            · rintro ⟨a', ha', rfl⟩; injection ha' with ha'; subst ha'; rfl
            · rintro rfl; exact ⟨_, rfl, rfl⟩
          refine hp.swap (b := gb) (howns L) (howns M) rfl rfl rfl (by simp) (fun k hk => by simp only [World.setRow, Array.getElem?_modify]; rw [if_neg (by omega)]) ?_
          refine ⟨by rw [← hl]; exact h0, bytesIx M, map_bytes _, ⟨by rw [flat_bytes]; simp [Cell.sz], .inr ⟨gb, c0, _, rfl, Nat.zero_le _, setRow_heap w gb cur _ el _ hg, by omega, hcm, ?_, ?_⟩⟩, fun p hp A hA => by simp [Cell.facts] at hA⟩
          · simp [Cell.sz]; omega
          · rw [flat_bytes]
            simp [Cell.sz]
end
abbrev MkY := Option Addr × Nat
structure Mk where
  i : Nat
  d : Nat
  o : Oper
  v : MkY → Value
  B : MkY → List Fact
def doneWith : List Bool → Nat → List Nat → List Bool
  | [], _, _ => []
  | b :: r, k, T => (b || T.contains k) :: doneWith r (k + 1) T
theorem doneWith_set (i : Nat) (T : List Nat) : ∀ (done : List Bool) (k : Nat), (doneWith done k T).set i true = doneWith done k ((k + i) :: T) := by
  have key : ∀ (done : List Bool) (k i : Nat), i < k → doneWith done k (i :: T) = doneWith done k T := by
    intro done
    induction done with
    | nil => intro k i _; rfl
    | cons b r ih =>
      intro k i h
      simp only [doneWith, ih (k + 1) i (by omega), List.contains_cons]
      congr 2
      rw [show (k == i) = false by simp; omega]
      simp
  intro done
  induction done generalizing i with
  | nil => intro k; rfl
  | cons b r ih =>
    intro k
    cases i with
    | zero => simp [doneWith, key r (k + 1) k (by omega)]
    | succ i =>
      simp only [doneWith, List.set_cons_succ, ih i (k + 1), List.contains_cons]
      rw [show (k == k + (i + 1)) = false by simp, show k + 1 + i = k + (i + 1) by omega]
      simp
theorem doneWith_congr {T T' : List Nat} (h : ∀ k, k ∈ T ↔ k ∈ T') : ∀ (done : List Bool) (k : Nat), doneWith done k T = doneWith done k T'
  | [], _ => rfl
  | b :: r, k => by
    simp only [doneWith, doneWith_congr h r (k + 1)]
    congr 2
    rw [Bool.eq_iff_iff, List.contains_iff_mem, List.contains_iff_mem]
    exact h k
theorem doneWith_nil : ∀ (done : List Bool) (k : Nat), doneWith done k [] = done
  | [], _ => rfl
  | b :: r, k => by simp [doneWith, doneWith_nil r (k + 1)]
def subs : List Nat → List (List Nat)
  | [] => [[]]
  | a :: l => subs l ++ (subs l).map (a :: ·)
theorem filter_subs (p : Nat → Bool) : ∀ l : List Nat, l.filter p ∈ subs l
  | [] => by simp [subs]
  | a :: l => by
    have ih := filter_subs p l
    simp only [subs, List.filter_cons, List.mem_append, List.mem_map]
    split
    · exact .inr ⟨_, ih, rfl⟩
    · exact .inl ih
theorem beq_ne {d i : Nat} (h : d ≠ i) : Nat.beq d i = false := by
  rw [← Bool.not_eq_true]
  exact fun e => h (Nat.eq_of_beq_eq_true e)
def anyOrderBut (ops : List Oper) (done : List Bool) (m s : Nat) (is : List Nat) : Bool :=
  is.all (fun i => Nat.blt i m) && decide is.Nodup && ((subs is).all fun T => (is.filter (fun i => !T.contains i) == [s]) || ((is.filter (fun i => !T.contains i)).isEmpty || (Region.ready .any ⟨ops⟩ ⟨doneWith done 0 T⟩) == is.filter (fun i => !T.contains i)))
def slotsOk (e : E) (n : Nat) : List Nat → Bool
  | [] => true
  | d :: r => (look e d).isNone && Nat.blt d n && !r.contains d && slotsOk e n r
def slotsOf (S : List (Mk × MkY)) : E := S.map (fun p => (p.1.d, p.1.v p.2))
def factsOf (S : List (Mk × MkY)) : List Fact := S.flatMap (fun p => p.1.B p.2)
theorem look_append {S e : E} {i : Nat} {u : Value} (h : look (S ++ e) i = some u) : (i, u) ∈ S ∨ look e i = some u := by
  induction S with
  | nil => exact .inr h
  | cons p S ih =>
    obtain ⟨d, v⟩ := p
    simp only [List.cons_append, look] at h
    cases hb : Nat.beq d i with
    | true =>
      rw [hb] at h
      simp only [cond_true, Option.some.injEq] at h
      have := Nat.eq_of_beq_eq_true hb
      subst this h
      exact .inl (by simp)
    | false =>
      rw [hb] at h
      rcases ih h with h | h
      · exact .inl (by simp [h])
      · exact .inr h
theorem look_of_mem {S e : E} (hn : (S.map (·.1)).Nodup) {i : Nat} {u : Value} (h : (i, u) ∈ S) : look (S ++ e) i = some u := by
  induction S with
  | nil => cases h
  | cons p S ih =>
    obtain ⟨d, v⟩ := p
    simp only [List.map_cons, List.nodup_cons] at hn
    simp only [List.cons_append, look]
    rcases List.mem_cons.1 h with h | h
    · injection h with h1 h2
      subst h1 h2
      simp
    · have : Nat.beq d i = false := beq_ne (fun e => hn.1 (by subst e; exact List.mem_map.2 ⟨_, h, rfl⟩))
      rw [this]
      exact ih hn.2 h
theorem look_fresh {S e : E} {i : Nat} {u : Value} (hS : ∀ p ∈ S, look e p.1 = none) (h : look e i = some u) : look (S ++ e) i = some u := by
  induction S with
  | nil => exact h
  | cons p S ih =>
    obtain ⟨d, v⟩ := p
    simp only [List.cons_append, look]
    have : Nat.beq d i = false := beq_ne (fun e' => by subst e'; have := hS (d, v) (by simp); rw [h] at this; cases this)
    rw [this]
    exact ih (fun p hp => hS p (by simp [hp]))
theorem Fr.rest {n : Nn} {S e : E} {a : Act} (h : Fr n (S ++ e) a) (hS : ∀ p ∈ S, look e p.1 = none) : Fr n e a :=
  ⟨h.defers, h.size, fun i u hu => h.slot i u (look_fresh hS hu)⟩
theorem Fr.swapS {n : Nn} {S S' e : E} {a : Act} (h : Fr n (S ++ e) a) (hS : ∀ p ∈ S, look e p.1 = none) (hn : (S.map (·.1)).Nodup) (hp : S.Perm S') : Fr n (S' ++ e) a :=
  ⟨h.defers, h.size, fun i u hu => by
    rcases look_append hu with hu | hu
    · exact h.slot i u (look_of_mem hn (hp.mem_iff.2 hu))
    · exact h.slot i u (look_fresh hS hu)⟩
theorem perm_lift {α β : Type} {f : α → β} {l l' : List β} (h : l.Perm l') : ∀ (S : List α), S.map f = l → ∃ S', S.Perm S' ∧ S'.map f = l' := by
  induction h with
  | nil => intro S hS; exact ⟨S, .refl _, hS⟩
  | cons x _ ih =>
    intro S hS
    cases S with
    | nil => cases hS
    | cons s S =>
      simp only [List.map_cons, List.cons.injEq] at hS
      obtain ⟨S', h1, h2⟩ := ih S hS.2
      exact ⟨s :: S', h1.cons s, by simp [hS.1, h2]⟩
  | swap x y l =>
    intro S hS
    match S, hS with
    | s :: s' :: S, hS =>
      simp only [List.map_cons, List.cons.injEq] at hS
      exact ⟨s' :: s :: S, List.Perm.swap _ _ _, by simp [hS]⟩
  | trans _ _ ih1 ih2 =>
    intro S hS
    obtain ⟨S', h1, h2⟩ := ih1 S hS
    obtain ⟨S2, h3, h4⟩ := ih2 S' h2
    exact ⟨S2, h1.trans h3, h4⟩
theorem factsOf_perm {S S' : List (Mk × MkY)} (h : S.Perm S') : (factsOf S).Perm (factsOf S') := by
  induction h with
  | nil => exact .refl _
  | cons x _ ih => exact List.Perm.append_left _ ih
  | swap x y l =>
    simp only [factsOf, List.flatMap_cons, ← List.append_assoc]
    exact List.Perm.append_right _ List.perm_append_comm
  | trans _ _ ih1 ih2 => exact ih1.trans ih2
section
variable {P : Program} {n : Nn} {w0 : World} {F : Nat → Prop} {ops : List Oper} {m fuel i d : Nat} {done done' : List Bool} {t : TypeId} {pos : String} {aft : Array Edge} {g : Option (Nat × Bool)} {Q : Cont} {e : E} {Γ : List Fact} [Dr]
def Mk.ok (P : Program) (n : Nn) (w0 : World) (F : Nat → Prop) (ops : List Oper) (e : E) (Γ : List Fact) (k : Mk) : Prop :=
  ops[k.i]? = some k.o ∧ k.o.guard = none ∧ k.o.dst = some k.d ∧
    ∀ X a w, Fr n e a → Hold w0 F (X ++ Γ) w → k.o.wp P a w (fun a' w' => Bel w.heap.size w w' ∧ ∃ y, a' = a.put (some k.d) (k.v y) ∧ Fresh w.heap.size (fp w0 F (X ++ Γ)) (k.B y) w') noExit
end
section
variable {P : Program} {n : Nn} {w0 : World} {F : Nat → Prop} {ops : List Oper} {m fuel i d : Nat} {done done' : List Bool} {t : TypeId} {pos : String} {aft : Array Edge} {g : Option (Nat × Bool)} {Q : Cont} {e : E} {Γ : List Fact}
theorem slotsOk_spec {ds : List Nat} (h : slotsOk e n.s ds = true) : ds.Nodup ∧ ∀ d ∈ ds, look e d = none ∧ Nat.blt d n.s = true := by
  induction ds with
  | nil => exact ⟨List.nodup_nil, by simp⟩
  | cons d r ih =>
    simp only [slotsOk, Bool.and_eq_true, Bool.not_eq_true'] at h
    obtain ⟨⟨⟨h1, h2⟩, h3⟩, h4⟩ := h
    obtain ⟨h5, h6⟩ := ih h4
    refine ⟨List.nodup_cons.2 ⟨by simpa using h3, h5⟩, fun d' hd' => ?_⟩
    rcases List.mem_cons.1 hd' with rfl | hd'
    · exact ⟨by simpa using h1, h2⟩
    · exact h6 d' hd'
end
section
variable {P : Program} {n : Nn} {w0 : World} {F : Nat → Prop} {ops : List Oper} {m fuel i d : Nat} {done done' : List Bool} {t : TypeId} {pos : String} {aft : Array Edge} {g : Option (Nat × Bool)} {Q : Cont} {e : E} {Γ : List Fact} [Dr]
theorem JM.makersBut (s : Mk) (ms1 : List Mk) (hms : ∀ k ∈ s :: ms1, k.ok P n w0 F ops e Γ) (hord : anyOrderBut ops done m s.i ((s :: ms1).map (·.i)) = true) (hsl : slotsOk e n.s ((s :: ms1).map (·.d)) = true)
    (K : ∀ S : List (Mk × MkY), S.map (·.1) = s :: ms1 → JM P n w0 F ops m fuel (doneWith done 0 ((s :: ms1).map (·.i))) Q (slotsOf S ++ e) (factsOf S ++ Γ))
    (K2 : ∀ S : List (Mk × MkY), S.map (·.1) = ms1 → JM P n w0 F ops m (fuel + 1) (doneWith done 0 (ms1.map (·.i))) Q (slotsOf S ++ e) (factsOf S ++ Γ)) :
    JM P n w0 F ops m (fuel + (ms1.length + 1)) done Q e Γ := by
  obtain ⟨ms, hmsdef⟩ : ∃ ms, ms = s :: ms1 := ⟨_, rfl⟩
  rw [← hmsdef] at hms hord hsl K
  obtain ⟨hnd, hfr⟩ := slotsOk_spec hsl
  simp only [anyOrderBut, Bool.and_eq_true, List.all_eq_true] at hord
  obtain ⟨⟨hm, hnodup⟩, hord⟩ := hord
  have hnodup : (ms.map (·.i)).Nodup := of_decide_eq_true hnodup
  have core : ∀ (rem : List Mk) (S : List (Mk × MkY)), (S.map (·.1) ++ rem).Perm ms →
      JM P n w0 F ops m (fuel + rem.length) (doneWith done 0 (S.map (·.1.i))) Q (slotsOf S ++ e) (factsOf S ++ Γ) := by
    intro rem
    induction hk : rem.length generalizing rem with
    | zero =>
      intro S hp
      have hr : rem = [] := List.eq_nil_of_length_eq_zero hk
      subst hr
      rw [List.append_nil] at hp
      obtain ⟨S', h1, h2⟩ := perm_lift hp S rfl
      have hdone : doneWith done 0 (S.map (·.1.i)) = doneWith done 0 (ms.map (·.i)) := doneWith_congr (fun k => by
        have h3 : (S.map (·.1.i)).Perm (ms.map (·.i)) := by
          have := hp.map (·.i)
          simpa [Function.comp_def] using this
        exact h3.mem_iff) _ _
      rw [hdone]
      have hK := K S' h2
      intro a w fr ho
      have hd1 : ((slotsOf S).map (·.1)).Perm (ms.map (·.d)) := by
        have := hp.map (·.d)
        simpa [slotsOf, Function.comp_def] using this
      refine hK a w (fr.swapS (fun p hp' => ?_) (hd1.nodup_iff.2 hnd) (h1.map _)) (ho.perm ((factsOf_perm h1).append_right Γ))
      exact (hfr p.1 (hd1.mem_iff.1 (List.mem_map_of_mem hp'))).1
    | succ r ih =>
      intro S hp
      by_cases hlast : rem.map (·.i) = [s.i]
      · -- only the one that may stay behind is left
        obtain ⟨q, hq, hqi⟩ : ∃ q, rem = [q] ∧ q.i = s.i := by
          cases rem with
          | nil => cases hlast
          | cons q rem =>
            simp only [List.map_cons, List.cons.injEq, List.map_eq_nil_iff] at hlast
            exact ⟨q, by rw [hlast.2], hlast.1⟩
        subst hq
        have hqs : q = s := by
          have h1 : q ∈ ms := hp.mem_iff.1 (by simp)
          rw [hmsdef] at h1
          rcases List.mem_cons.1 h1 with h1 | h1
          · exact h1
          · rw [hmsdef] at hnodup
            simp only [List.map_cons, List.nodup_cons] at hnodup
            exact (hnodup.1 (by rw [← hqi]; exact List.mem_map_of_mem h1)).elim
        subst hqs
        have hp1 : (S.map (·.1)).Perm ms1 := by
          rw [hmsdef] at hp
          exact List.Perm.cons_inv ((List.perm_append_comm (l₁ := [q])).trans hp)
        obtain ⟨S', h1, h2⟩ := perm_lift hp1 S rfl
        have hr : r = 0 := by simpa using hk.symm
        subst hr
        have hdone : doneWith done 0 (S.map (·.1.i)) = doneWith done 0 (ms1.map (·.i)) := doneWith_congr (fun k => by
          have h3 : (S.map (·.1.i)).Perm (ms1.map (·.i)) := by
            have := hp1.map (·.i)
            simpa [Function.comp_def] using this
          exact h3.mem_iff) _ _
        rw [hdone]
        have hK := K2 S' h2
        intro a w fr ho
        have hd1 : ((slotsOf S).map (·.1)).Perm (ms1.map (·.d)) := by
          have := hp1.map (·.d)
          simpa [slotsOf, Function.comp_def] using this
        have hnd1 : (ms1.map (·.d)).Nodup := by
          rw [hmsdef] at hnd
          exact (List.nodup_cons.1 hnd).2
        refine hK a w (fr.swapS (fun p hp' => ?_) (hd1.nodup_iff.2 hnd1) (h1.map _)) (ho.perm ((factsOf_perm h1).append_right Γ))
        refine (hfr p.1 ?_).1
        rw [hmsdef]
        exact List.mem_cons_of_mem _ (hd1.mem_iff.1 (List.mem_map_of_mem hp'))
      rw [show fuel + (r + 1) = (fuel + r) + 1 by omega]
      have hmem : ∀ k, k ∈ S.map (·.1) ++ rem → k ∈ ms := fun k hk => hp.mem_iff.1 hk
      -- what may come next
      have hT : doneWith done 0 (S.map (·.1.i)) = doneWith done 0 ((ms.map (·.i)).filter (fun i => (S.map (·.1.i)).contains i)) := doneWith_congr (fun k => by
        simp only [List.mem_filter, List.contains_iff_mem]
        refine ⟨fun h => ⟨?_, h⟩, fun h => h.2⟩
        obtain ⟨p, hp', rfl⟩ := List.mem_map.1 h
        exact List.mem_map_of_mem (hmem p.1 (List.mem_append_left _ (List.mem_map_of_mem hp')))) _ _
      have hready := hord _ (filter_subs (fun i => (S.map (·.1.i)).contains i) (ms.map (·.i)))
      have hperm : (S.map (·.1.i) ++ rem.map (·.i)).Perm (ms.map (·.i)) := by
        have := hp.map (·.i)
        simpa [Function.comp_def] using this
      have hnot : ∀ k ∈ rem, k.i ∉ S.map (·.1.i) := fun k hk hS =>
        (List.nodup_append.1 (hperm.nodup_iff.2 hnodup)).2.2 _ hS _ (List.mem_map_of_mem hk) rfl
      have hmemr : ∀ i, i ∈ (ms.map (·.i)).filter (fun i => !((ms.map (·.i)).filter (fun i => (S.map (·.1.i)).contains i)).contains i) ↔ ∃ k ∈ rem, k.i = i := by
        intro i
        simp only [List.mem_filter, Bool.not_eq_true', List.contains_eq_mem, decide_eq_false_iff_not, decide_eq_true_eq]
        constructor
        · rintro ⟨h1, h2⟩
          obtain ⟨k, hk, rfl⟩ := List.mem_map.1 h1
          rcases List.mem_append.1 (hp.mem_iff.2 hk) with h | h
          · obtain ⟨p, hp', rfl⟩ := List.mem_map.1 h
            exact (h2 ⟨h1, List.mem_map_of_mem (f := fun p => p.1.i) hp'⟩).elim
          · exact ⟨k, h, rfl⟩
        · rintro ⟨k, hk, rfl⟩
          exact ⟨List.mem_map_of_mem (hmem k (List.mem_append_right _ hk)), fun h => hnot k hk h.2⟩
      have hready : Region.ready .any ⟨ops⟩ ⟨doneWith done 0 (S.map (·.1.i))⟩ = (ms.map (·.i)).filter (fun i => !((ms.map (·.i)).filter (fun i => (S.map (·.1.i)).contains i)).contains i) := by
        rw [hT]
        rw [Bool.or_eq_true] at hready
        rcases hready with h | h
        · exfalso
          have h := eq_of_beq h
          refine hlast ?_
          have hn2 : (rem.map (·.i)).Nodup := (List.nodup_append.1 (hperm.nodup_iff.2 hnodup)).2.1
          have h5 : ∀ i, i ∈ rem.map (·.i) ↔ i = s.i := fun i => by
            have := hmemr i
            rw [h] at this
            simp only [List.mem_singleton] at this
            rw [this, List.mem_map]
          revert hn2 h5
          generalize rem.map (·.i) = lr
          intro hn2 h5
          cases lr with
          | nil => exact absurd ((h5 s.i).2 rfl) (by simp)
          | cons x lr =>
            cases lr with
            | nil => rw [(h5 x).1 (by simp)]
            | cons y l =>
              have e1 := (h5 x).1 (by simp)
              have e2 := (h5 y).1 (by simp)
              rw [e1, e2] at hn2
              simp at hn2
        rw [Bool.or_eq_true] at h
        rcases h with h | h
        · exfalso
          have h1 := (hmemr _).2 ⟨rem.head (by intro h0; rw [h0] at hk; cases hk), List.head_mem _, rfl⟩
          rw [List.isEmpty_iff.1 h] at h1
          cases h1
        · exact eq_of_beq h
      refine JM.all hready ?_ fun i hi => ?_
      · cases rem with
        | nil => cases hk
        | cons k rem =>
          rw [← Bool.not_eq_true]
          intro hemp
          have h1 := (hmemr k.i).2 ⟨k, by simp, rfl⟩
          rw [List.isEmpty_iff.1 hemp] at h1
          cases h1
      · obtain ⟨k, hkr, rfl⟩ := (hmemr i).1 hi
        have hkm := hmem k (List.mem_append_right _ hkr)
        obtain ⟨h1, h2, h3, h4⟩ := hms k hkm
        refine ⟨Nat.blt_eq.mp (hm _ (List.mem_map_of_mem hkm)), k.o, h1, by rw [h2]; rfl, fun a w fr ho => ?_⟩
        obtain ⟨s, t, rfl⟩ := List.append_of_mem hkr
        have hSfr : ∀ p ∈ slotsOf S, look e p.1 = none := by
          intro p hp'
          obtain ⟨q, hq, rfl⟩ := List.mem_map.1 hp'
          exact (hfr q.1.d (List.mem_map_of_mem (hmem q.1 (List.mem_append_left _ (List.mem_map_of_mem hq))))).1
        refine Oper.wp_mono (fun a' w' h => ⟨h.1, ?_⟩) (h4 (factsOf S) a w (fr.rest hSfr) ho)
        obtain ⟨y, rfl, hfresh⟩ := h.2
        refine ⟨(k.d, k.v y) :: (slotsOf S ++ e), k.B y ++ (factsOf S ++ Γ), ?_, fr.put (hfr k.d (List.mem_map_of_mem hkm)).2 _, ho.call h.1 hfresh⟩
        have hih := ih (s ++ t) (by simp at hk ⊢; omega) ((k, y) :: S) (by
          refine List.Perm.trans ?_ hp
          simp only [List.map_cons, List.cons_append]
          rw [← List.append_assoc, ← List.append_assoc]
          exact List.perm_middle.symm)
        have hd : (doneWith done 0 (S.map (·.1.i))).set k.i true = doneWith done 0 (((k, y) :: S).map (·.1.i)) := by
          rw [doneWith_set, Nat.zero_add]; rfl
        rw [hd]
        simpa [slotsOf, factsOf] using hih
  have hc := core ms [] (by simp)
  rw [hmsdef] at hc
  simpa [doneWith_nil, slotsOf, factsOf] using hc
def Mk.val (i d : Nat) (o : Oper) (v : Value) : Mk := ⟨i, d, o, fun _ => v, fun _ => []⟩
theorem Mk.val_ok {i d : Nat} {op : Op} {v : Value} (hi : ops[i]? = some ⟨some d, op, t, pos, aft, none⟩) (h : OpV P n w0 F ⟨some d, op, t, pos, aft, none⟩ e Γ v) : (Mk.val i d ⟨some d, op, t, pos, aft, none⟩ v).ok P n w0 F ops e Γ :=
  ⟨hi, rfl, rfl, fun X a w fr ho => by
    show Oper.wp P ⟨some d, op, t, pos, aft, none⟩ a w _ _
    unfold Oper.wp
    rw [h a w fr ((ho.perm List.perm_append_comm).left)]
    exact ⟨Bel.refl _ _, (none, 0), rfl, by simp [Mk.val], by simp [Mk.val], by simp [Mk.val]⟩⟩
def Mk.alloc (i d : Nat) (ty t : TypeId) (pos : String) (aft : Array Edge) (cs : List Value) : Mk :=
  ⟨i, d, ⟨some d, .alloc ty, t, pos, aft, none⟩, fun y => .pointer (some ⟨y.2, 0, none⟩), fun y => [.own y.2 ty cs]⟩
theorem Mk.alloc_ok {i d : Nat} {ty t : TypeId} {pos : String} {aft : Array Edge} {cs : List Value} {td : TypeDesc} {sz by_ : Nat} {z : Value} [hT : Ty P ty td sz by_ z] [hc : Cel z cs]
    (hi : ops[i]? = some ⟨some d, .alloc ty, t, pos, aft, none⟩) : (Mk.alloc i d ty t pos aft cs).ok P n w0 F ops e Γ :=
  ⟨hi, rfl, rfl, fun X a w fr ho => by
    have hrun : (execOp a.eval ⟨some d, .alloc ty, t, pos, aft, none⟩).run P w = .ok (.value (.pointer (some ⟨w.heap.size, 0, none⟩))) (w.alloc (.cells cs.toArray ty (0, 0))) := by
      simp only [execOp, Instr.alloc, Sem.run_bind, run_zero (P := P) (t := ty) w, Result.andThen_ok, newVar, newRow, cells_eq (v := z) (cs := cs), run_newObj, Sem.run_pure]
      rfl
    show Oper.wp P ⟨some d, .alloc ty, t, pos, aft, none⟩ a w _ _
    unfold Oper.wp
    rw [hrun]
    refine ⟨(Bel.refl _ _).alloc (Nat.le_refl _) _, (none, w.heap.size), rfl, ?_⟩
    refine ⟨fun f hf => ?_, by simp [Mk.alloc], fun f hf k hk => ?_⟩
    · simp only [Mk.alloc, List.mem_singleton] at hf; subst hf
      show (w.heap.push _)[w.heap.size]? = _
      simp
    · simp only [Mk.alloc, List.mem_singleton] at hf; subst hf
      have : k = w.heap.size := hk
      omega⟩
end
section
variable {P : Program} {n : Nn} {w0 : World} {F : Nat → Prop} {ops : List Oper} {m fuel i d : Nat} {done done' : List Bool} {t : TypeId} {pos : String} {aft : Array Edge} {g : Option (Nat × Bool)} {Q : Cont} {e : E} {Γ : List Fact}
theorem fst_cons {S : List (Mk × MkY)} {k : Mk} {r : List Mk} (h : S.map (·.1) = k :: r) : ∃ y S', S = (k, y) :: S' ∧ S'.map (·.1) = r := by
  cases S with
  | nil => cases h
  | cons p S =>
    obtain ⟨k', y⟩ := p
    simp only [List.map_cons, List.cons.injEq] at h
    obtain ⟨rfl, h⟩ := h
    exact ⟨y, S, rfl, h⟩
end
section
variable {P : Program} {n : Nn} {w0 : World} {F : Nat → Prop} {ops : List Oper} {m fuel i d : Nat} {done done' : List Bool} {t : TypeId} {pos : String} {aft : Array Edge} {g : Option (Nat × Bool)} {Q : Cont} {e : E} {Γ : List Fact} [Dr]
end
section
variable {P : Program} {n : Nn} {w0 : World} {F : Nat → Prop} {ops : List Oper} {m fuel i d : Nat} {done done' : List Bool} {t : TypeId} {pos : String} {aft : Array Edge} {g : Option (Nat × Bool)} {Q : Cont} {e : E} {Γ : List Fact}
theorem fst_nil {S : List (Mk × MkY)} (h : S.map (·.1) = []) : S = [] := by simpa using h
end
section
variable {P : Program} {n : Nn} {w0 : World} {F : Nat → Prop} {ops : List Oper} {m fuel i d : Nat} {done done' : List Bool} {t : TypeId} {pos : String} {aft : Array Edge} {g : Option (Nat × Bool)} {Q : Cont} {e : E} {Γ : List Fact} [Dr]
theorem JM.allocsBut {op : Op} {v : Value} {i0 i1 i2 i3 d0 d1 d2 d3 : Nat} {y1 y2 y3 t1 t2 t3 : TypeId} {p1 p2 p3 : String} {f1 f2 f3 : Array Edge} {c1 c2 c3 : List Value} {td1 td2 td3 : TypeDesc} {s1 s2 s3 b1 b2 b3 : Nat} {z1 z2 z3 : Value} {done2 : List Bool}
    (hi0 : ops[i0]? = some ⟨some d0, op, t, pos, aft, none⟩) (h0 : OpV P n w0 F ⟨some d0, op, t, pos, aft, none⟩ e Γ v)
    (hi1 : ops[i1]? = some ⟨some d1, .alloc y1, t1, p1, f1, none⟩) (hi2 : ops[i2]? = some ⟨some d2, .alloc y2, t2, p2, f2, none⟩) (hi3 : ops[i3]? = some ⟨some d3, .alloc y3, t3, p3, f3, none⟩)
    [hT1 : Ty P y1 td1 s1 b1 z1] [hc1 : Cel z1 c1] [hT2 : Ty P y2 td2 s2 b2 z2] [hc2 : Cel z2 c2] [hT3 : Ty P y3 td3 s3 b3 z3] [hc3 : Cel z3 c3]
    (hord : anyOrderBut ops done m i0 [i0, i1, i2, i3] = true) (hsl : slotsOk e n.s [d0, d1, d2, d3] = true) (hd : doneWith done 0 [i0, i1, i2, i3] = done') (hd2 : doneWith done 0 [i1, i2, i3] = done2)
    (K : ∀ q1 q2 q3, JM P n w0 F ops m fuel done' Q ((d0, v) :: (d1, .pointer (some ⟨q1, 0, none⟩)) :: (d2, .pointer (some ⟨q2, 0, none⟩)) :: (d3, .pointer (some ⟨q3, 0, none⟩)) :: e) (.own q1 y1 c1 :: .own q2 y2 c2 :: .own q3 y3 c3 :: Γ))
    (K2 : ∀ q1 q2 q3, JM P n w0 F ops m (fuel + 1) done2 Q ((d1, .pointer (some ⟨q1, 0, none⟩)) :: (d2, .pointer (some ⟨q2, 0, none⟩)) :: (d3, .pointer (some ⟨q3, 0, none⟩)) :: e) (.own q1 y1 c1 :: .own q2 y2 c2 :: .own q3 y3 c3 :: Γ)) :
    JM P n w0 F ops m (fuel + 1 + 1 + 1 + 1) done Q e Γ := by
  have key := JM.makersBut (P := P) (n := n) (w0 := w0) (F := F) (ops := ops) (m := m) (fuel := fuel) (done := done) (Q := Q) (e := e) (Γ := Γ) (Mk.val i0 d0 ⟨some d0, op, t, pos, aft, none⟩ v) [Mk.alloc i1 d1 y1 t1 p1 f1 c1, Mk.alloc i2 d2 y2 t2 p2 f2 c2, Mk.alloc i3 d3 y3 t3 p3 f3 c3]
  simp only [List.map_cons, List.map_nil, Mk.alloc, Mk.val, List.length_cons, List.length_nil, Nat.zero_add] at key
  refine key ?_ hord hsl ?_ ?_
  · intro k hk
    simp only [List.mem_cons, List.not_mem_nil, or_false] at hk
    rcases hk with rfl | rfl | rfl | rfl
    · exact Mk.val_ok hi0 h0
    · exact Mk.alloc_ok hi1
    · exact Mk.alloc_ok hi2
    · exact Mk.alloc_ok hi3
  · intro S hS
    obtain ⟨q0, S0, rfl, hS0⟩ := fst_cons hS
    obtain ⟨q1, S1, rfl, hS1⟩ := fst_cons hS0
    obtain ⟨q2, S2, rfl, hS2⟩ := fst_cons hS1
    obtain ⟨q3, S3, rfl, hS3⟩ := fst_cons hS2
    obtain rfl := fst_nil hS3
    rw [hd]
    exact K q1.2 q2.2 q3.2
  · intro S hS
    obtain ⟨q1, S1, rfl, hS1⟩ := fst_cons hS
    obtain ⟨q2, S2, rfl, hS2⟩ := fst_cons hS1
    obtain ⟨q3, S3, rfl, hS3⟩ := fst_cons hS2
    obtain rfl := fst_nil hS3
    rw [hd2]
    exact K2 q1.2 q2.2 q3.2
end
section
variable {P : Program} {n : Nn} {w0 : World} {F : Nat → Prop} {ops : Array Oper} {i d : Nat} {t : TypeId} {pos : String} {aft : Array Edge} {g : Option (Nat × Bool)} {os : List Oper} {Q : Cont} {e : E} {Γ : List Fact} [Dr]
theorem appendBytes_run {x y : Operand} {v : Value} {L M : List UInt8} {el ty : TypeId} {ed : TypeDesc} {sz by_ es eb b o p m c1 : Nat} {z ez : Value} {ecs us : List Value} {Δ : List Fact} {a : Act} {w : World} {d : Option Nat}
    [hx : Ev e x v] [hB : HasBuf Γ v UInt8 inferInstance el L Δ] [hy : Ev e y (.slice (some ⟨b, o, none⟩) m c1)] [hA : At Γ b p us] [hT : Ty P ty (.slice el) sz by_ z] [hE : Ty P el ed es eb ez] [hz : Cel ez ecs]
    (hus : us = M.map byteV) (ho' : o = p) (hm : M.length = m) (hes : es = 1 ∧ ecs.length = es ∧ eb ≤ 4096) (hl : L.length + m ≤ 34359738368) (fr : Fr n e a) (ho : Hold w0 F Γ w) :
    ∃ a2 k2 w', (execOp a.eval ⟨d, .call ⟨.builtin .append, #[x, y], #[ty, ty]⟩, t, pos, aft, g⟩).run P w = .ok (.value (.slice a2 (L ++ M).length k2)) w' ∧ Hold w0 F (.res (buf a2 k2 el (L ++ M)) :: Δ) w' := by
  obtain ⟨a0, c0, rfl, hperm⟩ := hB.ok
  have hr := hA.ok w0 F w ho
  subst hus ho'
  obtain ⟨a2, k2, w', e1, e2⟩ := append_hold (P := P) (t := t) (ty := ty) (ad := ⟨b, o, none⟩) (m := m) (c1 := c1) (ho.perm hperm) (bytesIx M) (fun j u hu => by rw [Addr.add_mid]; rw [flat_bytes] at hu; exact hr j u hu)
    (flat_one _) (by rw [bytesIx_length, hm]) (fun p hp A hA => by simp [Cell.facts] at hA) hes hl
  rw [map_bytes] at e1 e2
  refine ⟨a2, k2, w', ?_, e2⟩
  simp [execOp, resolve_builtin, invoke, builtin, hx.ok n a fr, hy.ok n a fr] at e1 ⊢
  simp [e1]
theorem JR.appendBytes {x y : Operand} {v : Value} {L M : List UInt8} {el ty : TypeId} {ed : TypeDesc} {sz by_ es eb b o p m c1 : Nat} {z ez : Value} {ecs us : List Value} {Δ : List Fact}
    [hx : Ev e x v] [hB : HasBuf Γ v UInt8 inferInstance el L Δ] [hy : Ev e y (.slice (some ⟨b, o, none⟩) m c1)] [hA : At Γ b p us] [hT : Ty P ty (.slice el) sz by_ z] [hE : Ty P el ed es eb ez] [hz : Cel ez ecs]
    (hd : Nat.blt d n.s = true) (hus : us = M.map byteV) (ho' : o = p) (hm : M.length = m) (hes : es = 1 ∧ ecs.length = es ∧ eb ≤ 4096) (hl : L.length + m ≤ 34359738368)
    (K : ∀ a c, JO P n w0 F ops (i + 1) os Q ((d, .slice a (L ++ M).length c) :: e) (.res (buf a c el (L ++ M)) :: Δ)) :
    JR P n w0 F ops i ⟨some d, .call ⟨.builtin .append, #[x, y], #[ty, ty]⟩, t, pos, aft, g⟩ os Q e Γ :=
  JR.value hd fun a w fr ho => by
    obtain ⟨a2, k2, w', hr, hh⟩ := appendBytes_run (P := P) (x := x) (y := y) (b := b) (o := o) (us := us) (t := t) (pos := pos) (aft := aft) (g := g) (hT := hT) (hE := hE) (hz := hz) (d := some d) hus ho' hm hes hl fr ho
    exact ⟨_, _, _, hr, hh, K a2 k2⟩
theorem OpV.cap {x : Operand} {ty el : TypeId} {a0 : Option Addr} {m c sz by_ : Nat} {z : Value} {d : Option Nat} [hx : Ev e x (.slice a0 m c)] [hT : Ty P ty (.slice el) sz by_ z] :
    OpV P n w0 F ⟨d, .call ⟨.builtin .cap, #[x], #[ty]⟩, t, pos, aft, g⟩ e Γ (.int .i64 (c : Int)) :=
  fun a w fr _ => by
    have h1 := run_und (P := P) (t := ty) w
    simp [execOp, resolve_builtin, invoke, builtin, Builtin.cap_, hx.ok n a fr, h1, goInt]
theorem OpV.lookupNo {K : Type} [DecidableEq K] {kv : K → Value} {x y : Operand} {ty kt el : TypeId} {ed : TypeDesc} {sz by_ b s2 b2 : Nat} {zz z v : Value} {M : List (K × Value)} (k : K) {d : Option Nat}
    [hT : Ty P ty (.map kt el) sz by_ zz] [hE : Ty P el ed s2 b2 z] [hK : MKey P kt kv] [hx : Ev e x (.map (some b))] [hy : Ev e y (kv k)] [hM : RdM Γ b (ents kv M) M.length]
    (hnd : (M.map (·.1)).Nodup) (h1 : (gotten M k).getD z = v) : OpV P n w0 F ⟨d, .lookup ty x y false, t, pos, aft, g⟩ e Γ v := by
  have := OpV.lookup_ (P := P) (n := n) (w0 := w0) (F := F) (t := t) (pos := pos) (aft := aft) (g := g) (e := e) (Γ := Γ) (x := x) (y := y) (ty := ty) (M := M) (k := k) (c := false) (d := d) hnd
  rw [h1] at this
  exact this
theorem OpV.fieldV {x : Operand} {ty f : Nat} {u v : Value} {d : Option Nat} [hx : Ev e x u] (hv : ∀ w, (Instr.field ty u f).run P w = .ok v w) : OpV P n w0 F ⟨d, .field ty x f, t, pos, aft, g⟩ e Γ v :=
  fun a w fr _ => by simp [execOp, hx.ok n a fr, hv]
end
section
variable {P : Program} {n : Nn} {w0 : World} {F : Nat → Prop} {ops : Array Oper} {i d : Nat} {t : TypeId} {pos : String} {aft : Array Edge} {g : Option (Nat × Bool)} {os : List Oper} {Q : Cont} {e : E} {Γ : List Fact} [Dr]
def fromA (a0 : Option Addr) (c l s : Nat) : Option Addr := if c - l = 0 ∧ c = l then a0 else a0.map (·.add (l * s))
theorem OpV.sliceFromA {x lo : Operand} {a0 : Option Addr} {m c l s : Nat} {kk : IntKind} {j : Int} {ty el : TypeId} {ed : TypeDesc} {sz by_ es eb : Nat} {z ez : Value} {d : Option Nat}
    [hx : Ev e x (.slice a0 m c)] [hi : Ev e lo (.int kk j)] [hk : NatI j l] [hT : Ty P ty (.slice el) sz by_ z] [hE : Ty P el ed es eb ez] (hes : es = s) (h : ∀ w, Hold w0 F Γ w → l ≤ m ∧ m ≤ c) :
    OpV P n w0 F ⟨d, .slice ty x (some lo) none none, t, pos, aft, g⟩ e Γ (.slice (fromA a0 c l s) (m - l) (c - l)) :=
  fun a w fr ho => by
    have hlc := h w ho
    have h1 := run_und (P := P) (t := ty) w
    have h2 := run_size (P := P) (t := el) w
    have hj := hk.ok
    subst hj hes
    have hb : (Instr.sliceBound (.int kk (l : Int)) m .sliceB).run P w = .ok l w := by
      simp [Instr.sliceBound, asIntOf]
      omega
    simp [execOp, hx.ok n a fr, hi.ok n a fr, Instr.sliceAt, Instr.slice, h1, h2, Instr.sliceBounds, hb, fromA]
    by_cases hck : c = l
    · simp [hck]
    · rw [if_neg hck, if_neg (by omega)]
end
section
variable {P : Program} {n : Nn} {w0 : World} {F : Nat → Prop} {ops : Array Oper} {i d : Nat} {t : TypeId} {pos : String} {aft : Array Edge} {g : Option (Nat × Bool)} {os : List Oper} {Q : Cont} {e : E} {Γ : List Fact}
theorem sl_from {α : Type} [ic : Cell α] {G : Nat → Prop} {w : World} {a : Option Addr} {c : Nat} {L : List α} (h : (sl a c L).holds G w) {k : Nat} (hk : k ≤ L.length) : (sl (fromA a c k (Cell.sz α)) (c - k) (L.drop k)).holds G w := sl_drop h hk
end
section
variable {P : Program} {n : Nn} {w0 : World} {F : Nat → Prop} {ops : Array Oper} {i d : Nat} {t : TypeId} {pos : String} {aft : Array Edge} {g : Option (Nat × Bool)} {os : List Oper} {Q : Cont} {e : E} {Γ : List Fact} [Dr]
theorem JS.appendNil {α : Type} [ic : Cell α] {x y : Operand} {u : Value} {L' : List α} {el ty : TypeId} {ed : TypeDesc} {sz by_ es eb : Nat} {z ez : Value} {ecs : List Value} {K : E → List Fact → Prop}
    [hx : Ev e x (.slice none 0 0)] [hy : Ev e y u] [hS : HasSl Γ u α ic L'] [hT : Ty P ty (.slice el) sz by_ z] [hE : Ty P el ed es eb ez] [hz : Cel ez ecs]
    (hd : Nat.blt d n.s = true) (hes : es = Cell.sz α ∧ ecs.length = es ∧ eb ≤ 4096) (hl : L'.length ≤ 34359738368)
    (k : ∀ a c, K ((d, .slice a L'.length c) :: e) (.res (buf a c el L') :: Γ)) :
    JS P n w0 F ⟨some d, .call ⟨.builtin .append, #[x, y], #[ty, ty]⟩, t, pos, aft, g⟩ e Γ K :=
  JS.value hd fun a w fr ho => by
    obtain ⟨a1, c1, rfl, hsl⟩ := hS.holds ho
    by_cases hL : L' = []
    · subst hL
      obtain ⟨ti, hti, hti1, hti2, hti3⟩ := hE.some
      refine ⟨.slice none 0 0, w, _, ?_, Bel.refl _ _, ho.res (R := buf (α := α) none 0 el []) (fun k hk => by obtain ⟨a, h, _⟩ := hk; cases h) buf_nil, k none 0⟩
      cases a1 <;> simp [execOp, resolve_builtin, invoke, builtin, hx.ok n a fr, hy.ok n a fr, Builtin.append_, run_underlying hT.und, sizeOf, typeInfo, hti, Builtin.lenOf, Builtin.firstCells, loadCells, loadCellsFrom]
    · obtain ⟨b, off, rfl, hF, hlt, hrow⟩ := hsl.2.2.2 hL
      obtain ⟨r, hr1, hr2, hr3⟩ := row_list L' off hrow
      have hm : r.length = L'.length := by rw [← hr1]; simp
      obtain ⟨ti, hti, hti1, hti2, hti3⟩ := hE.some
      have hfl : (flat r).length = L'.length * ti.size := by rw [flat_length, hm, hti1, hes.1]
      have h0 : 0 < L'.length := List.length_pos_iff.2 hL
      have hb48 : L'.length * ti.bytes ≤ 281474976710656 := by rw [hti2]; have := Nat.mul_le_mul hl hes.2.2; omega
      have hr := run_append_nil (P := P) w ty t el ti ez hT.und hti hti3 ⟨b, off, none⟩ L'.length c1 (flat r) hfl (fun j u hu => by rw [Addr.add_mid]; exact hr2 j u hu) (by omega) (by omega) hb48
      have hge := grownCap_ge w L'.length 0 el
      have hcm : grownCap w L'.length 0 el ≤ maxLen := grownCap_le_maxLen w L'.length 0 el (by simp only [maxLen]; omega)
      have hzs : ez.cells.size = ti.size := by rw [cells_eq (v := ez) (cs := ecs), hti1]; simpa using hes.2.1
      have hsz1 : ti.size = Cell.sz α := by rw [hti1, hes.1]
      have hbel : Bel w.heap.size w (w.drew.alloc (.cells ((flat r).toArray ++ Builtin.zeroCells ez.cells (grownCap w L'.length 0 el - L'.length)) el)) := ((Bel.refl _ _).drew).alloc (Nat.le_refl _) _
      refine ⟨_, _, _, ?_, hbel, ho.call (B := [.res (buf (some ⟨w.heap.size, 0, none⟩) (grownCap w L'.length 0 el) el L')]) hbel ⟨fun f hf => ?_, by simp, fun f hf k' hk => ?_⟩, k (some ⟨w.heap.size, 0, none⟩) (grownCap w L'.length 0 el)⟩
      · simp [execOp, resolve_builtin, invoke, builtin, hx.ok n a fr, hy.ok n a fr] at hr ⊢
        simp [hr]
      · simp only [List.mem_singleton] at hf; subst hf
        refine ⟨by simp only [lim]; omega, r, hr1, ⟨by rw [flat_length, hm], .inr ⟨w.heap.size, _, _, rfl, Nat.zero_le _, heap_alloc_new w.drew _, hge, hcm, ?_, ?_⟩⟩, fun p hp A hA => ?_⟩
        · simp only [Array.size_append, List.size_toArray, size_zeroCells, hzs, hfl, ← Nat.add_mul, ← hsz1]
          congr 1
          omega
        · simp only [Array.toList_append]
          exact List.take_left' (by rw [hfl, hsz1])
        · refine Fact.sat_keep (f := .st A) (hr3 p hp A hA) (fun k' hk hlt => ⟨.inl hk, fun f hf => ?_⟩) (fun k' hlt _ => hbel.block k' hlt)
          simp only [List.mem_singleton] at hf; subst hf
          rintro ⟨a', ha', rfl⟩
          injection ha' with ha'
          subst ha'
          simp at hlt
      · simp only [List.mem_singleton] at hf; subst hf
        obtain ⟨a', ha', rfl⟩ := hk
        injection ha' with ha'
        subst ha'
        exact Nat.le_refl _
end
section
variable {P : Program} {n : Nn} {w0 : World} {F : Nat → Prop} {ops : List Oper} {m fuel i d : Nat} {done done' : List Bool} {t : TypeId} {pos : String} {aft : Array Edge} {g : Option (Nat × Bool)} {Q : Cont} {e : E} {Γ : List Fact} [Dr]
theorem JM.both {o o' : Oper} (i j : Nat) (hr : Region.ready .any ⟨ops⟩ ⟨done⟩ = [i, j]) (him : Nat.ble m i = true) (hjm : Nat.ble m j = true) (hi : ops[i]? = some o) (hj : ops[j]? = some o') (hg : gtest ops e o.guard = some true) (hg' : gtest ops e o'.guard = some true)
    (h : JR P n w0 F ⟨[o]⟩ 0 o [] (fun x e' Γ' => x = .normal ∧ JM P n w0 F ops m fuel (done.set i true) Q e' Γ') e Γ)
    (h' : JR P n w0 F ⟨[o']⟩ 0 o' [] (fun x e' Γ' => x = .normal ∧ JM P n w0 F ops m fuel (done.set j true) Q e' Γ') e Γ) : JM P n w0 F ops m (fuel + 1) done Q e Γ := by
  intro a w fr ho
  refine ⟨fun h0 => ?_, fun k hk => ?_⟩
  · rw [h0] at hr; cases hr
  · rw [hr] at hk
    simp only [List.mem_cons, List.not_mem_nil, or_false] at hk
    rcases hk with rfl | rfl
    · rw [if_neg (by have := Nat.le_of_ble_eq_true him; omega)]
      exact tailOp k hi hg h a w fr ho
    · rw [if_neg (by have := Nat.le_of_ble_eq_true hjm; omega)]
      exact tailOp k hj hg' h' a w fr ho
end
class Suf (Γ Δ : List Fact) : Prop where
  ok : ∃ R, Γ.Perm (Δ ++ R)
instance (priority := 1000) Suf.hit {Γ : List Fact} : Suf Γ Γ := ⟨[], by simp⟩
instance (priority := 100) Suf.miss {Γ Δ : List Fact} {g : Fact} [h : Suf Γ Δ] : Suf (g :: Γ) Δ :=
  ⟨let ⟨R, hR⟩ := h.ok; ⟨g :: R, (hR.cons g).trans (List.perm_middle.symm)⟩⟩
instance (priority := 10) Sub.suf {Γ Δ : List Fact} [h : Suf Γ Δ] : Sub Γ Δ := ⟨h.ok⟩
abbrev natV (k : Nat) : Value := .int .i64 (k : Int)
instance {k : Nat} : Cel (natV k) [natV k] := ⟨rfl⟩
section
variable {P : Program} {n : Nn} {w0 : World} {F : Nat → Prop} {ops : Array Oper} {i d : Nat} {t : TypeId} {pos : String} {aft : Array Edge} {g : Option (Nat × Bool)} {os : List Oper} {Q : Cont} {e : E} {Γ : List Fact} [Dr]
end
section
variable {P : Program} {n : Nn} {w0 : World} {F : Nat → Prop} {ops : Array Oper} {i d : Nat} {t : TypeId} {pos : String} {aft : Array Edge} {g : Option (Nat × Bool)} {os : List Oper} {Q : Cont} {e : E} {Γ : List Fact}
theorem madeInts (c : Nat) : (madeCells (Value.cells (.int .i64 0)) (c * 1)) = ((List.replicate c 0).map natV).toArray := by
  apply Array.ext
  · simp [size_madeCells]
  · intro i h1 h2
    simp [madeCells, Value.cells, Nat.mod_one]
end
section
variable {P : Program} {n : Nn} {w0 : World} {F : Nat → Prop} {ops : Array Oper} {i d : Nat} {t : TypeId} {pos : String} {aft : Array Edge} {g : Option (Nat × Bool)} {os : List Oper} {Q : Cont} {e : E} {Γ : List Fact} [Dr]
theorem JR.makeInts {x y : Operand} {kk k2 : IntKind} {j j2 : Int} {l l2 : Nat} {ty el : TypeId} {ed : TypeDesc} {sz by_ : Nat} {z : Value}
    [hx : Ev e x (.int kk j)] [hk : NatI j l] [hy : Ev e y (.int k2 j2)] [hk2 : NatI j2 l2] [hT : Ty P ty (.slice el) sz by_ z] [hE : Ty P el ed 1 8 (.int .i64 0)]
    (hd : Nat.blt d n.s = true) (he : l = l2) (hl : l ≤ 1073741824)
    (K : ∀ b, JO P n w0 F ops (i + 1) os Q ((d, .slice (some ⟨b, 0, none⟩) l l) :: e) (.own b el ((List.replicate l 0).map natV) :: Γ)) :
    JR P n w0 F ops i ⟨some d, .makeSlice ty x y, t, pos, aft, g⟩ os Q e Γ :=
  JR.value hd fun a w fr ho => by
    subst he
    obtain ⟨ti, hti, hti1, hti2, hti3⟩ := hE.some
    have hj := hk.ok
    have hj2 := hk2.ok
    subst hj hj2
    have hr := run_make (P := P) w ty el ti (.int .i64 0) hT.und hti hti3 kk k2 (l : Int) (l : Int) (by omega) (by omega) (by rw [hti2]; omega) (by omega)
    simp only [Int.toNat_natCast, hti1, madeInts] at hr
    refine ⟨_, w.alloc (.cells ((List.replicate l 0).map natV).toArray el), _, ?_, ho.alloc el ((List.replicate l 0).map natV), K w.heap.size⟩
    simp [execOp, hx.ok n a fr, hy.ok n a fr, hr]
end
section
variable {P : Program} {n : Nn} {w0 : World} {F : Nat → Prop} {i d : Nat} {t : TypeId} {pos : String} {aft : Array Edge} {g : Option (Nat × Bool)} {Q : Cont} {e : E} {Γ : List Fact} [Dr]
def gskip (ops : List Oper) (e : E) : Option (Nat × Bool) → Bool
  | none => false
  | some (j, _) =>
    match ops[j]? with
    | some o => match o.dst with
      | some d => match look e d with
        | some (.tuple _) => true
        | _ => false
      | none => false
    | none => false
end
section
variable {P : Program} {n : Nn} {w0 : World} {F : Nat → Prop} {i d : Nat} {t : TypeId} {pos : String} {aft : Array Edge} {g : Option (Nat × Bool)} {Q : Cont} {e : E} {Γ : List Fact}
theorem gskip_ok {ops : List Oper} {e : E} {o : Oper} {a : Act} (h : gskip ops e o.guard = true) (fr : Fr n e a) : Region.wanted o (yielded ⟨ops⟩ a.tmps) = false := by
  unfold gskip at h
  unfold Region.wanted
  split at h
  · cases h
  · rename_i j want hg
    rw [hg]
    split at h
    · rename_i o' ho'
      split at h
      · rename_i d hd
        split at h
        · rename_i b hb
          have := fr.slot _ _ hb
          simp only [yielded]
          have e1 : ((⟨ops⟩ : Array Oper)[j]?) = some o' := by simpa using ho'
          rw [e1]
          simp [hd, this]
        · cases h
      · cases h
    · cases h
end
section
variable {P : Program} {n : Nn} {w0 : World} {F : Nat → Prop} {i d : Nat} {t : TypeId} {pos : String} {aft : Array Edge} {g : Option (Nat × Bool)} {Q : Cont} {e : E} {Γ : List Fact} [Dr]
theorem Wx {ops : List Oper} {op : Op} {os : List Oper} (hg : gskip ops e g = true) (hd : Nat.blt d n.s = true)
    (h : JO P n w0 F ⟨ops⟩ (i + 1) os Q ((d, undef) :: e) Γ) : JO P n w0 F ⟨ops⟩ i (⟨some d, op, t, pos, aft, g⟩ :: os) Q e Γ := by
  intro hdr a w fr ho
  obtain ⟨h1, h2⟩ := drop_at hdr
  simp only [List.length_cons, List.range'_succ, wpOps]
  rw [h1]
  simp only [gskip_ok (o := ⟨some d, op, t, pos, aft, g⟩) hg fr, Bool.false_eq_true, if_false]
  exact h h2 _ w (fr.put hd _) ho
theorem WA {ops os : List Oper} {K : E → Prop} {op : Op} (hg : gskip ops e g = true) (hd : Nat.blt d n.s = true) (k : JQ P n w0 F ops os K ((d, undef) :: e) Γ) :
    JQ P n w0 F ops (⟨some d, op, t, pos, aft, g⟩ :: os) K e Γ := by
  intro a fr
  unfold wpQuiet
  rw [gskip_ok (o := ⟨some d, op, t, pos, aft, g⟩) hg fr, if_neg (by decide)]
  exact k _ (fr.put hd _)
end
class W32 (p : Int) (a : outParam UInt32) : Prop where
  ok : p = (a.toNat : Int)
instance (priority := 1000) {a : UInt32} : W32 (a.toNat : Int) a := ⟨rfl⟩
instance : W32 (16777216 : Int) 16777216 := ⟨rfl⟩
instance : W32 (65536 : Int) 65536 := ⟨rfl⟩
instance : W32 (256 : Int) 256 := ⟨rfl⟩
instance : W32 (1024 : Int) 1024 := ⟨rfl⟩
instance : W32 (8 : Int) 8 := ⟨rfl⟩
class W64 (p : Int) (a : outParam UInt64) : Prop where
  ok : p = (a.toNat : Int)
instance (priority := 1000) {a : UInt64} : W64 (a.toNat : Int) a := ⟨rfl⟩
instance : W64 (256 : Int) 256 := ⟨rfl⟩
instance : W64 (128 : Int) 128 := ⟨rfl⟩
instance : W64 (127 : Int) 127 := ⟨rfl⟩
instance : W64 (8 : Int) 8 := ⟨rfl⟩
instance : W64 (2 : Int) 2 := ⟨rfl⟩
instance : W64 (1 : Int) 1 := ⟨rfl⟩
theorem JR.reslot [Dr] {P : Program} {n : Nn} {w0 : World} {F : Nat → Prop} {ops : Array Oper} {i : Nat} {o : Oper} {os : List Oper} {Q : Cont} {e : E} {Γ : List Fact} (s : Nat) {v : Value} (u : Value) [hs : Lk e s v] (h : v = u) (k : JR P n w0 F ops i o os Q ((s, u) :: e) Γ) : JR P n w0 F ops i o os Q e Γ :=
  fun hd a w fr ho => k hd a w (fr.again (by rw [← h]; exact hs.ok)) ho
theorem JR.reown [Dr] {P : Program} {n : Nn} {w0 : World} {F : Nat → Prop} {ops : Array Oper} {i : Nat} {o : Oper} {os : List Oper} {Q : Cont} {e : E} {Γ : List Fact} {bt : TypeId} {vs : List Value} {Δ : List Fact} (b : Nat) (us : List Value) [h : Own Γ b bt vs Δ] (he : vs = us) (k : JR P n w0 F ops i o os Q e (.own b bt us :: Δ)) : JR P n w0 F ops i o os Q e Γ :=
  JR.more (fun w ho => by subst he; exact ho.perm h.ok) k
theorem OpV.sliceMidA [Dr] {P : Program} {n : Nn} {w0 : World} {F : Nat → Prop} {t : TypeId} {pos : String} {aft : Array Edge} {g : Option (Nat × Bool)} {e : E} {Γ : List Fact} {x lo hi' : Operand} {a0 : Option Addr} {m c l h s : Nat} {kk k2 : IntKind} {j j2 : Int} {ty el : TypeId} {ed : TypeDesc} {sz by_ es eb : Nat} {z ez : Value} {d : Option Nat}
    [hx : Ev e x (.slice a0 m c)] [hi : Ev e lo (.int kk j)] [hk : NatI j l] [hi2 : Ev e hi' (.int k2 j2)] [hk2 : NatI j2 h] [hT : Ty P ty (.slice el) sz by_ z] [hE : Ty P el ed es eb ez] (hes : es = s) (hh : ∀ w, Hold w0 F Γ w → l ≤ h ∧ h ≤ c) :
    OpV P n w0 F ⟨d, .slice ty x (some lo) (some hi') none, t, pos, aft, g⟩ e Γ (.slice (fromA a0 c l s) (h - l) (c - l)) :=
  fun a w fr ho => by
    have hlc := hh w ho
    have h1 := run_und (P := P) (t := ty) w
    have h2 := run_size (P := P) (t := el) w
    have hj := hk.ok
    have hj2 := hk2.ok
    subst hj hj2 hes
    have hb : (Instr.sliceBound (.int k2 (h : Int)) c .sliceAcap).run P w = .ok h w := by
      simp [Instr.sliceBound, asIntOf]
      omega
    have hb2 : (Instr.sliceBound (.int kk (l : Int)) h .sliceB).run P w = .ok l w := by
      simp [Instr.sliceBound, asIntOf]
      omega
    simp [execOp, hx.ok n a fr, hi.ok n a fr, hi2.ok n a fr, Instr.sliceAt, Instr.slice, h1, h2, Instr.sliceBounds, hb, hb2, fromA]
    by_cases hck : c = l
    · simp [hck]
    · rw [if_neg hck, if_neg (by omega)]
section
variable {P : Program} {n : Nn} {w0 : World} {F : Nat → Prop} {d : Option Nat} {t : TypeId} {pos : String} {aft : Array Edge} {g : Option (Nat × Bool)} {e : E} {Γ : List Fact} [Dr]
  {x y : Operand} {ty yt : TypeId}
theorem OpV.mul32 {p q : Int} {a b : UInt32} [hx : Ev e x (.int .u32 p)] [hp : W32 p a] [hy : Ev e y (.int .u32 q)] [hq : W32 q b] : OpV P n w0 F ⟨d, .binOp .mul ty x y yt, t, pos, aft, g⟩ e Γ (w32 (a * b)) := by
  have := OpV.mulw (P := P) (n := n) (w0 := w0) (F := F) (d := d) (t := t) (pos := pos) (aft := aft) (g := g) (e := e) (Γ := Γ) (x := x) (y := y) (ty := ty) (yt := yt) (kk := .u32) (p := p) (q := q)
  rwa [hp.ok, hq.ok, ← Int.natCast_mul, wrap32, ← show (a * b).toNat = (a.toNat * b.toNat) % 4294967296 from UInt32.toNat_mul a b] at this
theorem OpV.sub32 {p q : Int} {a b : UInt32} [hx : Ev e x (.int .u32 p)] [hp : W32 p a] [hy : Ev e y (.int .u32 q)] [hq : W32 q b] : OpV P n w0 F ⟨d, .binOp .sub ty x y yt, t, pos, aft, g⟩ e Γ (w32 (a - b)) := by
  have := OpV.subw (P := P) (n := n) (w0 := w0) (F := F) (d := d) (t := t) (pos := pos) (aft := aft) (g := g) (e := e) (Γ := Γ) (x := x) (y := y) (ty := ty) (yt := yt) (kk := .u32) (p := p) (q := q)
  have h1 : IntKind.u32.wrap (p - q) = ((a - b).toNat : Int) := by
    rw [hp.ok, hq.ok]
    have e1 : IntKind.u32.wrap ((a.toNat : Int) - (b.toNat : Int)) = ((a.toNat : Int) - (b.toNat : Int)) % 4294967296 := by simp [IntKind.wrap, IntKind.bits, IntKind.signed]
    rw [e1, UInt32.toNat_sub]
    have := a.toNat_lt
    have := b.toNat_lt
    omega
  rwa [h1] at this
theorem OpV.quo32 {p q : Int} {a b : UInt32} [hx : Ev e x (.int .u32 p)] [hp : W32 p a] [hy : Ev e y (.int .u32 q)] [hq : W32 q b] (h : b ≠ 0) : OpV P n w0 F ⟨d, .binOp .quo ty x y yt, t, pos, aft, g⟩ e Γ (w32 (a / b)) := by
  have hb : b.toNat ≠ 0 := fun h0 => h (UInt32.toNat_inj.1 h0)
  have := OpV.quo (P := P) (n := n) (w0 := w0) (F := F) (d := d) (t := t) (pos := pos) (aft := aft) (g := g) (e := e) (Γ := Γ) (x := x) (y := y) (ty := ty) (yt := yt) (kk := .u32) (p := p) (q := q) (by rw [hq.ok]; omega)
  rwa [hp.ok, hq.ok, Int.tdiv_eq_ediv_of_nonneg (Int.natCast_nonneg _), ← Int.natCast_ediv, ← UInt32.toNat_div, wrapw32] at this
theorem OpV.rem32 {p q : Int} {a b : UInt32} [hx : Ev e x (.int .u32 p)] [hp : W32 p a] [hy : Ev e y (.int .u32 q)] [hq : W32 q b] (h : b ≠ 0) : OpV P n w0 F ⟨d, .binOp .rem ty x y yt, t, pos, aft, g⟩ e Γ (w32 (a % b)) := by
  have hb : b.toNat ≠ 0 := fun h0 => h (UInt32.toNat_inj.1 h0)
  have := OpV.rem (P := P) (n := n) (w0 := w0) (F := F) (d := d) (t := t) (pos := pos) (aft := aft) (g := g) (e := e) (Γ := Γ) (x := x) (y := y) (ty := ty) (yt := yt) (kk := .u32) (p := p) (q := q) (by rw [hq.ok]; omega)
  rwa [hp.ok, hq.ok, Int.tmod_eq_emod_of_nonneg (Int.natCast_nonneg _), ← Int.natCast_emod, ← UInt32.toNat_mod] at this
theorem OpV.mul64 {p q : Int} {a b : UInt64} [hx : Ev e x (.int .u64 p)] [hp : W64 p a] [hy : Ev e y (.int .u64 q)] [hq : W64 q b] : OpV P n w0 F ⟨d, .binOp .mul ty x y yt, t, pos, aft, g⟩ e Γ (w64 (a * b)) := by
  have := OpV.mulw (P := P) (n := n) (w0 := w0) (F := F) (d := d) (t := t) (pos := pos) (aft := aft) (g := g) (e := e) (Γ := Γ) (x := x) (y := y) (ty := ty) (yt := yt) (kk := .u64) (p := p) (q := q)
  rwa [hp.ok, hq.ok, ← Int.natCast_mul, wrap64, ← show (a * b).toNat = (a.toNat * b.toNat) % 18446744073709551616 from UInt64.toNat_mul a b] at this
theorem OpV.quo64 {p q : Int} {a b : UInt64} [hx : Ev e x (.int .u64 p)] [hp : W64 p a] [hy : Ev e y (.int .u64 q)] [hq : W64 q b] (h : b ≠ 0) : OpV P n w0 F ⟨d, .binOp .quo ty x y yt, t, pos, aft, g⟩ e Γ (w64 (a / b)) := by
  have hb : b.toNat ≠ 0 := fun h0 => h (UInt64.toNat_inj.1 h0)
  have := OpV.quo (P := P) (n := n) (w0 := w0) (F := F) (d := d) (t := t) (pos := pos) (aft := aft) (g := g) (e := e) (Γ := Γ) (x := x) (y := y) (ty := ty) (yt := yt) (kk := .u64) (p := p) (q := q) (by rw [hq.ok]; omega)
  rwa [hp.ok, hq.ok, Int.tdiv_eq_ediv_of_nonneg (Int.natCast_nonneg _), ← Int.natCast_ediv, ← UInt64.toNat_div, wrapw64] at this
theorem OpV.rem64 {p q : Int} {a b : UInt64} [hx : Ev e x (.int .u64 p)] [hp : W64 p a] [hy : Ev e y (.int .u64 q)] [hq : W64 q b] (h : b ≠ 0) : OpV P n w0 F ⟨d, .binOp .rem ty x y yt, t, pos, aft, g⟩ e Γ (w64 (a % b)) := by
  have hb : b.toNat ≠ 0 := fun h0 => h (UInt64.toNat_inj.1 h0)
  have := OpV.rem (P := P) (n := n) (w0 := w0) (F := F) (d := d) (t := t) (pos := pos) (aft := aft) (g := g) (e := e) (Γ := Γ) (x := x) (y := y) (ty := ty) (yt := yt) (kk := .u64) (p := p) (q := q) (by rw [hq.ok]; omega)
  rwa [hp.ok, hq.ok, Int.tmod_eq_emod_of_nonneg (Int.natCast_nonneg _), ← Int.natCast_emod, ← UInt64.toNat_mod] at this
end
abbrev pan (v : Value) : List PanicEntry := [{ v := v, recovered := false }]
section
variable {P : Program} {n : Nn} {w0 : World} {F : Nat → Prop} {ops : Array Oper} {i : Nat} {t : TypeId} {pos : String} {aft : Array Edge} {g : Option (Nat × Bool)} {os : List Oper} {Q : Cont} {e : E} {Γ : List Fact} [Dr]
theorem JR.callP {dst : Option Nat} {f : Operand} {args : Array Operand} {ats : Array TypeId} {fid : FuncId} {caps vs us : List Value} {ch : List PanicEntry} {Γp : List Fact}
    [hf : Fun e f fid caps] [hv : ArgVs e args.toList vs] [hu : App vs caps us] [hb : Body P fid]
    (hg : ∀ w, Hold w0 F Γ w → Calls P fid ⟨us⟩ w fun x w' => x = .panicked ch ∧ Hold w0 F Γp w') (k : Q (.panic ch) e Γp) :
    JR P n w0 F ops i ⟨dst, .call ⟨.value f, args, ats⟩, t, pos, aft, g⟩ os Q e Γ := by
  intro hdr a w fr ho
  unfold Oper.wp
  rw [run_call fr hf hv hu hb]
  refine Calls.mono (hg w ho) ?_
  rintro x w' ⟨rfl, ho'⟩
  exact ⟨e, Γp, k, fr, ho'⟩
theorem JR.panic {dst : Option Nat} {x : Operand} {ty : TypeId} {v : Value} [hx : Ev e x (.iface ty v)] (k : Q (.panic (pan (.iface ty v))) e Γ) :
    JR P n w0 F ops i ⟨dst, .panic x, t, pos, aft, g⟩ os Q e Γ := by
  intro hdr a w fr ho
  unfold Oper.wp
  have h1 : (execOp a.eval ⟨dst, .panic x, t, pos, aft, g⟩).run P w = .halt (.panic (.iface ty v)) w := by
    simp only [execOp, hx.ok n a fr, Sem.run_bind, run_panic_iface]
    rfl
  rw [h1]
  exact ⟨e, Γ, k, fr, ho⟩
end
section
variable {w0 : World} {F : Nat → Prop} {Q : Cont} {e : E} {Γ : List Fact} {next : E → List Fact → Prop} {c : List PanicEntry}
theorem CT.panic (h : Q (.panic c) e Γ) : andThen next Q (.panic c) e Γ := h
theorem CT.blockPanic {id : Nat} (h : Q (.panic c) e Γ) : inBlock id Q (.panic c) e Γ := h
end
section
variable {P : Program} {w0 : World} {F : Nat → Prop} {e : E} {Γ : List Fact} [Dr]
def panTo (w0 : World) (F : Nat → Prop) (ch : List PanicEntry) (B : List Fact) : Cont := fun x e Γ => x = .panic ch ∧ ∀ w, Hold w0 F Γ w → Hold w0 F B w
theorem CT.doneN {rs : List ResultVar} {vs : List Value} {Y : Type} {v : Y → Value} {B : Y → List Fact} (y : Y) [hr : ResVs P e Γ rs vs] (hv : packed vs = v y) (hB : ∀ w, Hold w0 F Γ w → Hold w0 F (B y) w) : retTo P w0 F rs v B .normal e Γ :=
  ⟨.inr rfl, y, vs, hr, hv, hB⟩
theorem CT.gone {ch : List PanicEntry} {B : List Fact} (h : ∀ w, Hold w0 F Γ w → Hold w0 F B w) : panTo w0 F ch B (.panic ch) e Γ := ⟨rfl, h⟩
theorem panics_of {f : FuncId} {fn : Func} {c : Code} {args : List Value} {w : World} {ch : List PanicEntry} {B : List Fact} {m : Nat}
    (hf : P.funcs[f]? = some fn) (hb : fn.body = some c) (hn : fn.ntmps = m) (hl : Nat.ble args.length m = true) (Γ : List Fact) (ho : Hold w0 F Γ w)
    (h : JC P ⟨m, []⟩ w0 F c (panTo w0 F ch B) (enum 0 args) Γ) : Calls P f ⟨args⟩ w fun x w' => x = .panicked ch ∧ Hold w0 F B w' := by
  refine calls_of_wp hf hb ?_
  rw [hn]
  refine wp_mono (h _ w (Fr.start hl) ho) ?_
  rintro x a w' ⟨e, Γ', ⟨rfl, hB⟩, fr, ho'⟩
  exact ⟨fr.defers, rfl, hB w' ho'⟩
end
section
variable {P : Program} {n : Nn} {w0 : World} {F : Nat → Prop} {d : Option Nat} {t : TypeId} {pos : String} {aft : Array Edge} {g : Option (Nat × Bool)} {e : E} {Γ : List Fact} [Dr]
theorem OpV.nilCheck {x : Operand} {b o : Nat} [hx : Ev e x (.pointer (some ⟨b, o, none⟩))] : OpV P n w0 F ⟨d, .nilCheck x, t, pos, aft, g⟩ e Γ (.pointer (some ⟨b, o, none⟩)) :=
  fun a w fr _ => by simp [execOp, hx.ok n a fr]
theorem OpV.makeIface {x : Operand} {ty : TypeId} {v : Value} [hx : Ev e x v] (h : P.concrete ty = true) : OpV P n w0 F ⟨d, .makeInterface ty x, t, pos, aft, g⟩ e Γ (.iface ty v) :=
  fun a w fr _ => by simp [execOp, hx.ok n a fr, run_makeInterface w ty v h]
theorem OpV.sliceArrAll {x : Operand} {ty el : TypeId} {b o m sz by_ es eb : Nat} {z ez : Value} {ed : TypeDesc} [hx : Ev e x (.pointer (some ⟨b, o, none⟩))]
    [hT : Ty P ty (.array m el) sz by_ z] [hE : Ty P el ed es eb ez] : OpV P n w0 F ⟨d, .slice ty x none none none, t, pos, aft, g⟩ e Γ (.slice (some ⟨b, o, none⟩) m m) :=
  fun a w fr _ => by
    have h1 := run_und (P := P) (t := ty) w
    have h2 := run_size (P := P) (t := el) w
    simp [execOp, hx.ok n a fr, Instr.sliceAt, h1, h2, Instr.sureAddr, Instr.sliceBounds, Addr.add]
end
section
variable {P : Program} {n : Nn} {w0 : World} {F : Nat → Prop} {ops : Array Oper} {i d : Nat} {t : TypeId} {pos : String} {aft : Array Edge} {g : Option (Nat × Bool)} {os : List Oper} {Q : Cont} {e : E} {Γ : List Fact} [Dr]
theorem JR.copyFrom {x y : Operand} {b dl dc : Nat} {vs : List Value} {v : Value} {L : List UInt8} {bt ty ty2 el : TypeId} {ed : TypeDesc} {sz by_ eb : Nat} {z ez : Value} {Δ : List Fact}
    [hx : Ev e x (.slice (some ⟨b, 0, none⟩) dl dc)] [hO : Own Γ b bt vs Δ] [hy : Ev e y v] [hS : HasSl Γ v UInt8 inferInstance L] [hT : Ty P ty (.slice el) sz by_ z] [hE : Ty P el ed 1 eb ez]
    (hd : Nat.blt d n.s = true) (hdl : dl ≤ L.length) (h0 : 0 < dl) (hvs : vs.length = dl)
    (K : JO P n w0 F ops (i + 1) os Q ((d, .int .i64 (dl : Int)) :: e) (.own b bt ((L.take dl).map byteV) :: Δ)) :
    JR P n w0 F ops i ⟨some d, .call ⟨.builtin .copy, #[x, y], #[ty, ty2]⟩, t, pos, aft, g⟩ os Q e Γ :=
  JR.value hd fun a w fr ho => by
    obtain ⟨a0, c0, rfl, hsl⟩ := hS.holds ho
    obtain ⟨ti, hti, hti1, _, _⟩ := hE.some
    have hpm := ho.perm hO.ok
    have hw : w.heap[b]? = some (.cells vs.toArray bt (0, 0)) := hpm.sat (.own b bt vs) (by simp)
    have hne : L ≠ [] := by rintro rfl; simp at hdl; omega
    obtain ⟨bs, off, rfl, _, _, hr⟩ := hsl.2.2.2 hne
    have hcl : ((L.take dl).map byteV).length = dl := by rw [List.length_map, List.length_take]; omega
    have hcells : ∀ j u, ((L.take dl).map byteV)[j]? = some u → w.cell? ((⟨bs, off, none⟩ : Addr).add j) = some u := fun j u hu => by
      have hj : j < dl := by
        rw [← hcl]
        exact (List.getElem?_eq_some_iff.1 hu).1
      have hjL : j < L.length := by omega
      obtain ⟨y, h1, _⟩ := hr j hjL
      have h2 := h1 0 (byteV L[j]) rfl
      have e1 : off + j * Cell.sz UInt8 + 0 = off + j := by show off + j * 1 + 0 = off + j; omega
      rw [e1] at h2
      rw [Addr.add_mid, h2]
      rw [List.getElem?_map, List.getElem?_take_of_lt hj, List.getElem?_eq_getElem hjL] at hu
      simpa using hu
    have hone : One ((L.take dl).map byteV) := ⟨fun u hu => by simp only [List.mem_map] at hu; obtain ⟨b, _, rfl⟩ := hu; rfl⟩
    have hrun := run_copy_row (P := P) w ty ty2 t el b 0 dl dc ⟨bs, off, none⟩ L.length c0 vs.toArray bt ((L.take dl).map byteV) hT.und (by rw [hti]; simp [hti1]) hw (by rw [hcl]; exact (Nat.min_eq_right hdl).symm) hcells (by rw [hcl]; simp [hvs]) hone.ok
    have hrow : vs.take 0 ++ (L.take dl).map byteV ++ vs.drop (0 + ((L.take dl).map byteV).length) = (L.take dl).map byteV := by
      rw [hcl, List.take_zero, Nat.zero_add, List.drop_eq_nil_of_le (by omega), List.nil_append, List.append_nil]
    refine ⟨_, w.setRow b ((L.take dl).map byteV).toArray, _, ?_, hpm.setRow, K⟩
    simp [execOp, resolve_builtin, invoke, builtin, hx.ok n a fr, hy.ok n a fr] at hrun ⊢
    simp [hrun]
    rw [Nat.min_eq_left hdl, List.drop_eq_nil_of_le (by omega), List.append_nil]
    exact ⟨rfl, rfl⟩
end
section
variable {P : Program} {n : Nn} {w0 : World} {F : Nat → Prop} {ops : Array Oper} {i d : Nat} {t : TypeId} {pos : String} {aft : Array Edge} {g : Option (Nat × Bool)} {os : List Oper} {Q : Cont} {e : E} {Γ : List Fact} [Dr]
def endTo (P : Program) (w0 : World) (F : Nat → Prop) (rs : List ResultVar) {Y : Type} (v : Y → Value) (B : Y → List Fact) (φ : Prop) (ch : List PanicEntry) (Bp : List Fact) : Cont := fun x e Γ =>
  retTo P w0 F rs v B x e Γ ∨ (φ ∧ panTo w0 F ch Bp x e Γ)
def Ends (P : Program) (f : FuncId) (args : List Value) (w w0 : World) (F : Nat → Prop) {Y : Type} (v : Y → Value) (B : Y → List Fact) (φ : Prop) (ch : List PanicEntry) (Bp : List Fact) : Prop :=
  Calls P f ⟨args⟩ w fun x w' => (∃ y, x = .returned (v y) ∧ Hold w0 F (B y) w') ∨ (φ ∧ x = .panicked ch ∧ Hold w0 F Bp w')
theorem ends_of {f : FuncId} {fn : Func} {c : Code} {rs : List ResultVar} {args : List Value} {w : World} {Y : Type} {v : Y → Value} {B : Y → List Fact} {φ : Prop} {ch : List PanicEntry} {Bp : List Fact} {m : Nat}
    (hf : P.funcs[f]? = some fn) (hb : fn.body = some c) (hn : fn.ntmps = m) (hr : fn.results = ⟨rs⟩) (hl : Nat.ble args.length m = true) (Γ : List Fact) (ho : Hold w0 F Γ w)
    (h : JC P ⟨m, []⟩ w0 F c (endTo P w0 F rs v B φ ch Bp) (enum 0 args) Γ) : Ends P f args w w0 F v B φ ch Bp := by
  refine calls_of_wp hf hb ?_
  rw [hn]
  refine wp_mono (h _ w (Fr.start hl) ho) ?_
  rintro x a w' ⟨e, Γ', hq, fr, ho'⟩
  rcases hq with ⟨hx, y, vs, hres, hpk, hB⟩ | ⟨hφ, rfl, hB⟩
  · have hrun := run_results (P := P) hr hres fr ho'
    have hrest : ∃ v', (results fn a.tmps).run P w' = .ok v' w' ∧ ((∃ y, Ending.returned v' = .returned (v y) ∧ Hold w0 F (B y) w') ∨ (φ ∧ Ending.returned v' = .panicked ch ∧ Hold w0 F Bp w')) :=
      ⟨_, hrun, .inl ⟨y, by rw [hpk], hB w' ho'⟩⟩
    rcases hx with rfl | rfl <;> exact ⟨fr.defers, hrest⟩
  · exact ⟨fr.defers, .inr ⟨hφ, rfl, hB w' ho'⟩⟩
theorem JR.callE {f : Operand} {args : Array Operand} {ats : Array TypeId} {fid : FuncId} {caps vs us : List Value} {Y : Type} {v : Y → Value} {B : Y → List Fact} {φ : Prop} {ch : List PanicEntry} {Bp : List Fact}
    [hf : Fun e f fid caps] [hv : ArgVs e args.toList vs] [hu : App vs caps us] [hb : Body P fid] (hd : Nat.blt d n.s = true)
    (hg : ∀ w, Hold w0 F Γ w → Ends P fid us w w0 F v B φ ch Bp) (k : ∀ y, JO P n w0 F ops (i + 1) os Q ((d, v y) :: e) (B y)) (kp : φ → Q (.panic ch) e Bp) :
    JR P n w0 F ops i ⟨some d, .call ⟨.value f, args, ats⟩, t, pos, aft, g⟩ os Q e Γ := by
  intro hdr a w fr ho
  unfold Oper.wp
  rw [run_call fr hf hv hu hb]
  refine Calls.mono (hg w ho) ?_
  rintro x w' (⟨y, rfl, ho'⟩ | ⟨hφ, rfl, ho'⟩)
  · exact k y (drop_at hdr).2 _ w' (fr.put hd _) ho'
  · exact ⟨e, Bp, kp hφ, fr, ho'⟩
def JX (P : Program) (n : Nn) (w0 : World) (F : Nat → Prop) (c : Code) (Q : Nn → Cont) (e : E) (Γ : List Fact) : Prop :=
  ∀ a w, Fr n e a → Hold w0 F Γ w → c.wp P (fun x a w => ∃ n' e Γ, Q n' x e Γ ∧ Fr n' e a ∧ Hold w0 F Γ w) a w
theorem JX.seq {Q : Nn → Cont} {x y : Code} (h : JC P n w0 F x (fun z e' Γ' => z = .normal ∧ JX P n w0 F y Q e' Γ') e Γ) : JX P n w0 F (.seq x y) Q e Γ := by
  intro a w fr ho
  refine wp_seq (wp_mono (h a w fr ho) ?_)
  rintro z a w ⟨e, Γ, ⟨rfl, hq⟩, fr, ho⟩
  exact hq a w fr ho
theorem JX.defer {Q : Nn → Cont} {id : Nat} {y : Code} {fn : Fn} {caps : Array Operand} {us : List Value} {t1 t2 : TypeId} {p1 p2 : String} {f1 f2 : Array Edge} {ats : Array TypeId} [hc : ArgVs e caps.toList us] (hd : Nat.blt d n.s = true)
    (h : JC P ⟨n.s, ⟨.fn fn ⟨us⟩, #[]⟩ :: n.ds⟩ w0 F y (Q ⟨n.s, ⟨.fn fn ⟨us⟩, #[]⟩ :: n.ds⟩) ((d, .func fn #[] ⟨us⟩) :: e) Γ) :
    JX P n w0 F (.seq (.region id ⟨[⟨some d, .makeFunc fn #[] caps, t1, p1, f1, none⟩, ⟨none, .defer ⟨.value (.tmp d), #[], ats⟩, t2, p2, f2, none⟩]⟩ false) y) Q e Γ := by
  intro a w fr ho
  have e1 : caps.map a.eval = ⟨us⟩ := by apply Array.ext'; simp [hc.ok n a fr]
  have hev := (fr.put hd (.func fn #[] ⟨us⟩))
  refine wp_seq (wp_region ?_)
  have hr : List.range (Array.size (⟨[⟨some d, .makeFunc fn #[] caps, t1, p1, f1, none⟩, ⟨none, .defer ⟨.value (.tmp d), #[], ats⟩, t2, p2, f2, none⟩]⟩ : Array Oper)) = [0, 1] := rfl
  rw [hr]
  have h1 : (execOp a.eval ⟨some d, .makeFunc fn #[] caps, t1, p1, f1, none⟩).run P w = .ok (.value (.func fn #[] ⟨us⟩)) w := by
    simp only [execOp]
    rw [e1]
    have e2 : Array.map a.eval #[] = #[] := by simp
    rw [e2]
    rfl
  have h2 : (execOp (a.put (some d) (.func fn #[] ⟨us⟩)).eval ⟨none, .defer ⟨.value (.tmp d), #[], ats⟩, t2, p2, f2, none⟩).run P w = .ok (.defer ⟨.fn fn ⟨us⟩, #[]⟩) w := by
    have h3 : (a.put (some d) (.func fn #[] ⟨us⟩)).eval (.tmp d) = .func fn #[] ⟨us⟩ := (inferInstance : Ev ((d, .func fn #[] ⟨us⟩) :: e) (.tmp d) (.func fn #[] ⟨us⟩)).ok n _ hev
    simp [execOp, h3, resolve, Deferred.ofValue]
  have hw : ∀ y (o : Oper), o.guard = none → Region.wanted o y = true := fun y o h => by unfold Region.wanted; rw [h]
  unfold wpOps
  show (if Region.wanted ⟨some d, .makeFunc fn #[] caps, t1, p1, f1, none⟩ _ then Oper.wp P ⟨some d, .makeFunc fn #[] caps, t1, p1, f1, none⟩ a w (wpOps P _ _ [1]) _ ∨ _ else _ : Prop)
  rw [if_pos (hw _ _ rfl)]
  refine .inl ?_
  unfold Oper.wp
  rw [h1, Oper.upon_value]
  unfold wpOps
  show (if Region.wanted ⟨none, .defer ⟨.value (.tmp d), #[], ats⟩, t2, p2, f2, none⟩ _ then Oper.wp P ⟨none, .defer ⟨.value (.tmp d), #[], ats⟩, t2, p2, f2, none⟩ _ w (wpOps P _ _ []) _ ∨ _ else _ : Prop)
  rw [if_pos (hw _ _ rfl)]
  refine .inl ?_
  unfold Oper.wp
  rw [h2, Oper.upon_defer]
  unfold wpOps
  refine wp_mono (h _ w ?_ ho) (fun x a w ⟨e, Γ, hq⟩ => ⟨_, e, Γ, hq⟩)
  have h4 : Fr ⟨n.s, ⟨.fn fn ⟨us⟩, #[]⟩ :: n.ds⟩ ((d, .func fn #[] ⟨us⟩) :: e) ⟨(a.put (some d) (.func fn #[] ⟨us⟩)).tmps, ⟨.fn fn ⟨us⟩, #[]⟩ :: (a.put (some d) (.func fn #[] ⟨us⟩)).defers⟩ :=
    ⟨by rw [hev.defers], hev.size, hev.slot⟩
  exact h4
end
section
variable {P : Program}
theorem run_equal_arr {t el : TypeId} {sz by_ es eb m : Nat} {z ez : Value} (h : Ty P t (.array m el) sz by_ z) (hE : Ty P el (.int .u8) es eb ez) (hs : es = 1) (xs ys : List UInt8) (h1 : xs.length = m) (h2 : ys.length = m) (w : World) :
    (Op.equal t (.agg ⟨xs.map byteV⟩) (.agg ⟨ys.map byteV⟩)).run P w = .ok (decide (xs = ys)) w := by
  obtain ⟨i, hi, _⟩ := hE.some
  have e0 := run_equalIn_array (P := P) w 9999 (i := i) ⟨xs.map byteV⟩ ⟨ys.map byteV⟩ h.und hi
  have e2 := eqItems_bytes hE hs 9998 xs ys (by rw [h1, h2]) w m m (by rw [h1]; omega) (by rw [h1]; exact Nat.le_refl _)
  have e1 : List.range m = List.range' (m - m) m := by
    have h0 : m - m = 0 := Nat.sub_self m
    rw [h0]; exact List.range_eq_range'
  unfold Op.equal
  rw [show Op.maxDepth = 9999 + 1 from rfl, e0, e1]
  rw [e2]
  have e3 : decide (List.take m (List.drop (m - m) xs) = List.take m (List.drop (m - m) ys)) = decide (xs = ys) := by
    have ha : List.take m (List.drop (m - m) xs) = xs := by simp [List.take_of_length_le, h1]
    have hb : List.take m (List.drop (m - m) ys) = ys := by simp [List.take_of_length_le, h2]
    rw [ha, hb]
  rw [e3]
end
section
variable {P : Program} {n : Nn} {w0 : World} {F : Nat → Prop} {d : Option Nat} {t : TypeId} {pos : String} {aft : Array Edge} {g : Option (Nat × Bool)} {e : E} {Γ : List Fact} [Dr]
theorem OpV.neqArr {x y : Operand} {ty yt el : TypeId} {u v : List Value} {sz by_ eb m : Nat} {z ez : Value} [hx : Ev e x (.agg ⟨u⟩)] [hy : Ev e y (.agg ⟨v⟩)] [hp : Plain P ty] [hT : Ty P ty (.array m el) sz by_ z] [hE : Ty P el (.int .u8) 1 eb ez] (xs ys : List UInt8)
    (h1 : xs.length = m) (h2 : ys.length = m) (hu : u = xs.map byteV) (hv : v = ys.map byteV) :
    OpV P n w0 F ⟨d, .binOp .neq ty x y yt, t, pos, aft, g⟩ e Γ (.bool (!decide (xs = ys))) := by
  subst hu hv
  exact OpV.neqAgg fun w => run_equal_arr hT hE rfl xs ys h1 h2 w
theorem OpV.arrayPtrV {x : Operand} {ty el : TypeId} {b o m k c sz by_ : Nat} {z : Value} [hx : Ev e x (.slice (some ⟨b, o, none⟩) k c)] [hT : Ty P ty (.array m el) sz by_ z] (h : m ≤ k) :
    OpV P n w0 F ⟨d, .sliceToArrayPointer ty x, t, pos, aft, g⟩ e Γ (.pointer (some ⟨b, o, none⟩)) :=
  fun a w fr _ => by
    have h1 := run_und (P := P) (t := ty) w
    have : ¬ k < m := by omega
    simp [execOp, hx.ok n a fr, Instr.arrayAt, h1, this]
end
theorem sl_mid {α : Type} [ic : Cell α] {G : Nat → Prop} {w : World} {a : Option Addr} {c : Nat} {L : List α} (h : (sl a c L).holds G w) {l m : Nat} (hk : l + m ≤ L.length) : (sl (fromA a c l (Cell.sz α)) (c - l) ((L.drop l).take m)).holds G w := by
  have hc := h.1
  exact sl_take (sl_from h (by omega)) (by rw [List.length_drop]; omega) ⟨by omega, Nat.le_refl _⟩
section
variable {P : Program} {n : Nn} {w0 : World} {F : Nat → Prop} {Q : Cont} {e : E} {Γ : List Fact} [Dr]
theorem JC.know {c : Code} {p : Prop} (h : ∀ w, Hold w0 F Γ w → p) (k : p → JC P n w0 F c Q e Γ) : JC P n w0 F c Q e Γ := fun a w fr ho => k (h w ho) a w fr ho
end
theorem sl_some {α : Type} [ic : Cell α] {G : Nat → Prop} {w : World} {a : Option Addr} {c : Nat} {L : List α} (h : (sl a c L).holds G w) (hne : L ≠ []) : ∃ b off, a = some ⟨b, off, none⟩ :=
  let ⟨b, off, h1, _⟩ := h.2.2.2 hne; ⟨b, off, h1⟩
theorem sl_ro {G : Nat → Prop} {w : World} {b off c : Nat} {L : List UInt8} (h : (sl (some ⟨b, off, none⟩) c L).holds G w) (hne : L ≠ []) : (ro b off (L.map byteV)).holds G w := by
  obtain ⟨b', off', he, hb, hlt, hrow⟩ := h.2.2.2 hne
  injection he with he
  injection he with h1 h2
  subst h1 h2
  refine ⟨hb, hlt, ?_⟩
  intro j u hu
  rw [List.getElem?_map] at hu
  cases hq : L[j]? with
  | none => rw [hq] at hu; cases hu
  | some q =>
    rw [hq] at hu
    obtain ⟨hjl, hju⟩ := List.getElem?_eq_some_iff.1 hq
    injection hu with hu
    subst hu hju
    exact sl_byte h j hjl
end Ab
end Go.Proofs.YtdgeffphifgflaaGreat
namespace Go.Proofs.YtdgeffphifgflaaGreat
namespace Ab
open Go Go.RowKit
set_option linter.unusedVariables false
variable {F : Fence} {n : Nat} {P : Program}
set_option maxHeartbeats 1000000 in
theorem wpIn_rangeFunc_box {α : Type} {g : Operand} {ps : Array Tmp} {assign body : Code} {Q : Exit → Act → World → Prop} {a : Act} {w : World}
    (hro : F.round = none) (h1 : 1 ≤ n) {gf : Nat} {lb : Array Value} (hg : a.eval g = .func (.func gf) #[] lb) (hFg : F.fn gf) (eg : ∀ args w, (callFunc gf args).run P w = .ok (.enter gf args) w)
    {encs : α → Array Value} {xs : List α} {bx : Nat} {t : TypeId} {vx : Value}
    (hseq : ∀ (l : Nat) (J : List α → World → Prop), (∀ s W v, J s W → Boxed W bx t v → ∀ v', J s (W.setCell ⟨bx, 0, none⟩ v')) →
      (∀ pre x W v, pre ++ [x] <+: xs → J pre W → Boxed W bx t v → YieldAt F (n - 1 - 1) P l (encs x) W fun e W' => e = .returned (.bool true) ∧ J (pre ++ [x]) W' ∧ Boxed W' bx t v) →
      ∀ W, Boxed W bx t vx → J [] W → CallsIn F (n - 1) P gf (#[.func (.yield l) #[] #[]] ++ lb) W fun e W' => (∃ v, e = .returned v) ∧ J xs W')
    (hps : ∀ x, (encs x).size = ps.size) (hbx : Boxed w bx t vx)
    (I : List α → World → Prop) (hIp : ∀ s W k o o', I s W → w.heap.size ≤ k → W.heap[k]? = some o → o.isCells = false → I s (W.putObj k o')) (hIa : ∀ s W o, I s W → w.heap.size ≤ W.heap.size → I s (W.alloc o))
    (hIx : ∀ s W v, I s W → Boxed W bx t v → ∀ v', I s (W.setCell ⟨bx, 0, none⟩ v')) (h0 : I [] w) (a₁ : α → Act)
    (hassign : ∀ (l : Nat) (x : α) (W : World) (K : Act → World → Prop), K (a₁ x) W →
      assign.wpIn (F.inRound l) (n - 1 - 1) P (Exit.then K (fun _ _ _ => False)) { tmps := (ps.zip (encs x)).foldl (fun t (p, v) => t.setIfInBounds p v) a.tmps, defers := [] } W)
    (hbody : ∀ (l : Nat) (pre : List α) (x : α) (W : World) (v : Value), pre ++ [x] <+: xs → I pre W → Boxed W bx t v → w.heap.size ≤ W.heap.size → body.wpIn (F.inRound l) (n - 1 - 1) P (ownPostK (fun _ W' => Boxed W' bx t v) I (fun _ _ _ => False) (pre ++ [x]) W) (a₁ x) W)
    (hdone : ∀ (D : Nat) (W : World), I xs W → w.heap.size ≤ D → W.heap[D]? = some (.deferred (some [])) → Q .normal { a with defers := { target := .collected D, args := #[] } :: a.defers } W) :
    (Code.rangeFunc g ps assign body).wpIn F n P Q a w := by
  refine wpIn_rangeFunc ?_
  intro fn hfn
  rw [hro]
  obtain ⟨rec, hrec⟩ : ∃ rec : LoopState → Option Code → Loop, rec = fun st pe => { state := st, pending := pe, fn, tmps := a.tmps, params := ps, assign, body, defers := w.heap.size } := ⟨_, rfl⟩
  obtain ⟨W1, hW1⟩ : ∃ W1, (w.alloc (.deferred (some []))).alloc (.loop (rec .ready none)) = W1 := ⟨_, rfl⟩
  have hL1 : W1.heap[w.heap.size + 1]? = some (.loop (rec .ready none)) := by
    rw [← hW1]; have := World.alloc_heap_new (w.alloc (.deferred (some []))) (.loop (rec .ready none)); rwa [World.size_alloc] at this
  have hK1 : W1.heap[w.heap.size]? = some (.deferred (some [])) := by
    rw [← hW1]; exact (Below.heap_alloc _ _ _ (by simp)).trans (World.alloc_heap_new w _)
  have hI1 : I [] W1 := by rw [← hW1]; exact hIa _ _ _ (hIa _ _ _ h0 (Nat.le_refl _)) (by simp)
  have hbx1 : Boxed W1 bx t vx := by rw [← hW1]; exact (hbx.alloc _).alloc _
  have hblt : bx < w.heap.size := hbx.lt
  refine ⟨w.heap.size + 1, [{ target := .collected w.heap.size, args := #[] }], W1, { target := .fn (.func gf) lb, args := #[.func (.yield (w.heap.size + 1)) #[] #[]] }, W1, gf,
    #[.func (.yield (w.heap.size + 1)) #[] #[]] ++ lb, W1, ?_, ?_, ?_, ?_, fun _ => h1, ?_⟩
  · rw [← hW1, hrec]; exact run_enterLoop_outer _ _ _ _ _
  · simp only [resolve, hg]
    simp [go_sem]
  · intro f' hf'; simp [Target.leads] at hf'; subst hf'; exact hFg
  · simp [invoke, go_sem, eg]
  · have bput : ∀ (W : World) (k : Nat) (o o' : Obj) (v : Value), Boxed W bx t v → w.heap.size ≤ k → Boxed (W.putObj k o') bx t v := fun W k o o' v hb hk => (World.putObj_heap_other (by omega)).trans hb
    refine (hseq (w.heap.size + 1)
      (fun pre W => I pre W ∧ W.heap[w.heap.size + 1]? = some (.loop (rec .ready none)) ∧ W.heap[w.heap.size]? = some (.deferred (some [])))
      ?_ ?_ W1 hbx1 ⟨hI1, hL1, hK1⟩).mono ?_
    · rintro s W v ⟨hi, hl, hk⟩ hb v'
      exact ⟨hIx s W v hi hb v', (Below.heap_setCell W ⟨bx, 0, none⟩ v' _ (by simp; omega)).trans hl, (Below.heap_setCell W ⟨bx, 0, none⟩ v' _ (by simp; omega)).trans hk⟩
    · rintro pre x W v hpre ⟨hi, hl, hk⟩ hb
      have hlt : w.heap.size + 1 < W.heap.size := (Array.getElem?_eq_some_iff.1 hl).1
      have hy := run_yield (P := P) (args := encs x) hl (by rw [hrec]; exact hps x)
      rw [hrec] at hy
      refine ⟨fn, _, assign, body, hy, roundIn_of_wpIn hfn (hassign _ x W _ ⟨_, run_beginRound hl (by rw [hrec]), ?_⟩)⟩
      have hl2 : (W.putObj (w.heap.size + 1) (.loop { rec .ready none with state := .busy })).heap[w.heap.size + 1]? = some (.loop { rec .ready none with state := .busy }) := World.putObj_heap_same hlt
      have hk2 : (W.putObj (w.heap.size + 1) (.loop { rec .ready none with state := .busy })).heap[w.heap.size]? = some (.deferred (some [])) := (World.putObj_heap_other (by omega)).trans hk
      have hb2 : Boxed (W.putObj (w.heap.size + 1) (.loop { rec .ready none with state := .busy })) bx t v := bput _ _ (.loop (rec .ready none)) _ _ hb (by omega)
      refine wpIn_mono (hbody _ pre x _ v hpre (hIp _ _ _ _ _ hi (by omega) hl rfl) hb2 (by simp; omega)) ?_
      rintro e a3 W3 hp
      cases e with
      | normal =>
        obtain ⟨hk3, hb3, hi3⟩ := hp
        have hl3 := hk3.same _ _ hl2 rfl
        have hend := run_endRound (P := P) none hl3
        rw [hrec] at hend
        have hl4 : (W3.putObj (w.heap.size + 1) (.loop (rec .ready none))).heap[w.heap.size + 1]? = some (.loop (rec .ready none)) := World.putObj_heap_same (Array.getElem?_eq_some_iff.1 hl3).1
        refine ⟨_, _, hend, rfl, ⟨hIp _ _ _ _ _ hi3 (by omega) hl3 rfl, ?_, (World.putObj_heap_other (by omega)).trans (hk3.same _ _ hk2 rfl)⟩, bput _ _ (.loop (rec .ready none)) _ _ hb3 (by omega)⟩
        rw [hrec] at hl4 ⊢
        exact hl4
      | ret => exact hp.2.elim
      | exit id => exact hp.2.elim
      | goto t => exact hp.2.elim
      | panic ch => exact hp.elim
      | outgrown => exact hp.elim
    · rintro e W2 ⟨⟨v, rfl⟩, hi, hl, hk⟩
      exact ⟨none, _, by have := run_endLoop (P := P) hl (by rw [hrec]; simp); rw [hrec] at this; exact this, hdone _ _ (hIp _ _ _ _ _ hi (by omega) hl rfl) (Nat.le_refl _) ((World.putObj_heap_other (by omega)).trans hk)⟩
end Ab
end Go.Proofs.YtdgeffphifgflaaGreat
namespace Go.Proofs.YtdgeffphifgflaaGreat
namespace Ab
open Go
instance : Ty Tryz.prog 1 (TypeDesc.func #[] #[] false) 1 8 (.nilFunc) := ⟨Tryz.underlying1, by kernel_rfl⟩
instance : Ty Tryz.prog 2 (TypeDesc.int IntKind.i64) 1 8 (.int .i64 0) := ⟨Tryz.underlying2, by kernel_rfl⟩
instance : Ty Tryz.prog 3 (TypeDesc.int IntKind.i64) 1 8 (.int .i64 0) := ⟨Tryz.underlying3, by kernel_rfl⟩
instance : Ty Tryz.prog 4 (TypeDesc.bool) 1 1 (.bool false) := ⟨Tryz.underlying4, by kernel_rfl⟩
instance : Ty Tryz.prog 5 (TypeDesc.int IntKind.u8) 1 1 (.int .u8 0) := ⟨Tryz.underlying5, by kernel_rfl⟩
instance : Ty Tryz.prog 6 (TypeDesc.int IntKind.u8) 1 1 (.int .u8 0) := ⟨Tryz.underlying6, by kernel_rfl⟩
instance : Ty Tryz.prog 7 (TypeDesc.struct #[{ name := "x", type := 2, offset := 0, embedded := false, tag := "", pkgPath := "runtime", byteOffset := 0 }, { name := "y", type := 3, offset := 1, embedded := false, tag := "", pkgPath := "runtime", byteOffset := 8 }, { name := "signed", type := 4, offset := 2, embedded := false, tag := "", pkgPath := "runtime", byteOffset := 16 }, { name := "code", type := 6, offset := 3, embedded := false, tag := "", pkgPath := "runtime", byteOffset := 17 }]) 4 24 (.agg ⟨[.int .i64 0, .int .i64 0, .bool false, .int .u8 0]⟩) := ⟨Tryz.underlying7, by kernel_rfl⟩
instance : Ty Tryz.prog 8 (TypeDesc.struct #[{ name := "x", type := 2, offset := 0, embedded := false, tag := "", pkgPath := "runtime", byteOffset := 0 }, { name := "y", type := 3, offset := 1, embedded := false, tag := "", pkgPath := "runtime", byteOffset := 8 }, { name := "signed", type := 4, offset := 2, embedded := false, tag := "", pkgPath := "runtime", byteOffset := 16 }, { name := "code", type := 6, offset := 3, embedded := false, tag := "", pkgPath := "runtime", byteOffset := 17 }]) 4 24 (.agg ⟨[.int .i64 0, .int .i64 0, .bool false, .int .u8 0]⟩) := ⟨Tryz.underlying8, by kernel_rfl⟩
instance : Ty Tryz.prog 9 (TypeDesc.string) 1 16 (.string .empty) := ⟨Tryz.underlying9, by kernel_rfl⟩
instance : Ty Tryz.prog 10 (TypeDesc.string) 1 16 (.string .empty) := ⟨Tryz.underlying10, by kernel_rfl⟩
instance : Ty Tryz.prog 11 (TypeDesc.string) 1 16 (.string .empty) := ⟨Tryz.underlying11, by kernel_rfl⟩
instance : Ty Tryz.prog 12 (TypeDesc.int IntKind.u64) 1 8 (.int .u64 0) := ⟨Tryz.underlying12, by kernel_rfl⟩
instance : Ty Tryz.prog 13 (TypeDesc.struct #[{ name := "msg", type := 9, offset := 0, embedded := false, tag := "", pkgPath := "runtime", byteOffset := 0 }, { name := "addr", type := 12, offset := 1, embedded := false, tag := "", pkgPath := "runtime", byteOffset := 16 }]) 2 24 (.agg ⟨[.string .empty, .int .u64 0]⟩) := ⟨Tryz.underlying13, by kernel_rfl⟩
instance : Ty Tryz.prog 14 (TypeDesc.struct #[{ name := "msg", type := 9, offset := 0, embedded := false, tag := "", pkgPath := "runtime", byteOffset := 0 }, { name := "addr", type := 12, offset := 1, embedded := false, tag := "", pkgPath := "runtime", byteOffset := 16 }]) 2 24 (.agg ⟨[.string .empty, .int .u64 0]⟩) := ⟨Tryz.underlying14, by kernel_rfl⟩
instance : Ty Tryz.prog 15 (TypeDesc.pointer 261) 1 8 (.pointer none) := ⟨Tryz.underlying15, by kernel_rfl⟩
instance : Ty Tryz.prog 16 (TypeDesc.pointer 264) 1 8 (.pointer none) := ⟨Tryz.underlying16, by kernel_rfl⟩
instance : Ty Tryz.prog 17 (TypeDesc.pointer 273) 1 8 (.pointer none) := ⟨Tryz.underlying17, by kernel_rfl⟩
instance : Ty Tryz.prog 18 (TypeDesc.struct #[{ name := "typ", type := 17, offset := 0, embedded := false, tag := "", pkgPath := "internal/runtime/maps", byteOffset := 0 }]) 1 8 (.agg ⟨[.pointer none]⟩) := ⟨Tryz.underlying18, by kernel_rfl⟩
instance : Ty Tryz.prog 19 (TypeDesc.struct #[{ name := "typ", type := 17, offset := 0, embedded := false, tag := "", pkgPath := "internal/runtime/maps", byteOffset := 0 }]) 1 8 (.agg ⟨[.pointer none]⟩) := ⟨Tryz.underlying19, by kernel_rfl⟩
instance : Ty Tryz.prog 20 (TypeDesc.interface #[]) 1 16 (.nilIface) := ⟨Tryz.underlying20, by kernel_rfl⟩
instance : Ty Tryz.prog 21 (TypeDesc.int IntKind.i32) 1 4 (.int .i32 0) := ⟨Tryz.underlying21, by kernel_rfl⟩
instance : Ty Tryz.prog 22 (TypeDesc.slice 5) 1 24 (.slice none 0 0) := ⟨Tryz.underlying22, by kernel_rfl⟩
instance : Ty Tryz.prog 23 (TypeDesc.struct #[{ name := "Node", type := 3, offset := 0, embedded := false, tag := "", pkgPath := "", byteOffset := 0 }, { name := "Seq", type := 3, offset := 1, embedded := false, tag := "", pkgPath := "", byteOffset := 8 }]) 2 16 (.agg ⟨[.int .i64 0, .int .i64 0]⟩) := ⟨Tryz.underlying23, by kernel_rfl⟩
instance : Ty Tryz.prog 24 (TypeDesc.struct #[{ name := "Node", type := 3, offset := 0, embedded := false, tag := "", pkgPath := "", byteOffset := 0 }, { name := "Seq", type := 3, offset := 1, embedded := false, tag := "", pkgPath := "", byteOffset := 8 }]) 2 16 (.agg ⟨[.int .i64 0, .int .i64 0]⟩) := ⟨Tryz.underlying24, by kernel_rfl⟩
instance : Ty Tryz.prog 25 (TypeDesc.slice 81) 1 24 (.slice none 0 0) := ⟨Tryz.underlying25, by kernel_rfl⟩
instance : Ty Tryz.prog 26 (TypeDesc.struct #[{ name := "Kind", type := 3, offset := 0, embedded := false, tag := "", pkgPath := "", byteOffset := 0 }, { name := "Key", type := 9, offset := 1, embedded := false, tag := "", pkgPath := "", byteOffset := 8 }, { name := "Elem", type := 9, offset := 2, embedded := false, tag := "", pkgPath := "", byteOffset := 24 }, { name := "N", type := 3, offset := 3, embedded := false, tag := "", pkgPath := "", byteOffset := 40 }]) 4 48 (.agg ⟨[.int .i64 0, .string .empty, .string .empty, .int .i64 0]⟩) := ⟨Tryz.underlying26, by kernel_rfl⟩
instance : Ty Tryz.prog 27 (TypeDesc.struct #[{ name := "Kind", type := 3, offset := 0, embedded := false, tag := "", pkgPath := "", byteOffset := 0 }, { name := "Key", type := 9, offset := 1, embedded := false, tag := "", pkgPath := "", byteOffset := 8 }, { name := "Elem", type := 9, offset := 2, embedded := false, tag := "", pkgPath := "", byteOffset := 24 }, { name := "N", type := 3, offset := 3, embedded := false, tag := "", pkgPath := "", byteOffset := 40 }]) 4 48 (.agg ⟨[.int .i64 0, .string .empty, .string .empty, .int .i64 0]⟩) := ⟨Tryz.underlying27, by kernel_rfl⟩
instance : Ty Tryz.prog 28 (TypeDesc.struct #[{ name := "Ev", type := 24, offset := 0, embedded := false, tag := "", pkgPath := "", byteOffset := 0 }, { name := "Gen", type := 3, offset := 2, embedded := false, tag := "", pkgPath := "", byteOffset := 16 }, { name := "Parents", type := 25, offset := 3, embedded := false, tag := "", pkgPath := "", byteOffset := 24 }, { name := "Op", type := 27, offset := 4, embedded := false, tag := "", pkgPath := "", byteOffset := 48 }]) 8 96 (.agg ⟨[.int .i64 0, .int .i64 0, .int .i64 0, .slice none 0 0, .int .i64 0, .string .empty, .string .empty, .int .i64 0]⟩) := ⟨Tryz.underlying28, by kernel_rfl⟩
instance : Ty Tryz.prog 29 (TypeDesc.struct #[{ name := "Ev", type := 24, offset := 0, embedded := false, tag := "", pkgPath := "", byteOffset := 0 }, { name := "Gen", type := 3, offset := 2, embedded := false, tag := "", pkgPath := "", byteOffset := 16 }, { name := "Parents", type := 25, offset := 3, embedded := false, tag := "", pkgPath := "", byteOffset := 24 }, { name := "Op", type := 27, offset := 4, embedded := false, tag := "", pkgPath := "", byteOffset := 48 }]) 8 96 (.agg ⟨[.int .i64 0, .int .i64 0, .int .i64 0, .slice none 0 0, .int .i64 0, .string .empty, .string .empty, .int .i64 0]⟩) := ⟨Tryz.underlying29, by kernel_rfl⟩
instance : Ty Tryz.prog 30 (TypeDesc.func #[] #[4] false) 1 8 (.nilFunc) := ⟨Tryz.underlying30, by kernel_rfl⟩
instance : Ty Tryz.prog 31 (TypeDesc.func #[29] #[4] false) 1 8 (.nilFunc) := ⟨Tryz.underlying31, by kernel_rfl⟩
instance : Ty Tryz.prog 32 (TypeDesc.int IntKind.i64) 1 8 (.int .i64 0) := ⟨Tryz.underlying32, by kernel_rfl⟩
instance : Ty Tryz.prog 34 (TypeDesc.func #[22, 3, 29] #[22, 32] false) 1 8 (.nilFunc) := ⟨Tryz.underlying34, by kernel_rfl⟩
instance : Ty Tryz.prog 35 (TypeDesc.slice 29) 1 24 (.slice none 0 0) := ⟨Tryz.underlying35, by kernel_rfl⟩
instance : Ty Tryz.prog 37 (TypeDesc.func #[22] #[35, 3] false) 1 8 (.nilFunc) := ⟨Tryz.underlying37, by kernel_rfl⟩
instance : Ty Tryz.prog 38 (TypeDesc.func #[35, 35] #[4] false) 1 8 (.nilFunc) := ⟨Tryz.underlying38, by kernel_rfl⟩
instance : Ty Tryz.prog 39 (TypeDesc.func #[22] #[22] false) 1 8 (.nilFunc) := ⟨Tryz.underlying39, by kernel_rfl⟩
instance : Ty Tryz.prog 40 (TypeDesc.func #[35, 3] #[3] false) 1 8 (.nilFunc) := ⟨Tryz.underlying40, by kernel_rfl⟩
instance : Ty Tryz.prog 41 (TypeDesc.func #[22, 3, 29, 3] #[4] false) 1 8 (.nilFunc) := ⟨Tryz.underlying41, by kernel_rfl⟩
instance : Ty Tryz.prog 42 (TypeDesc.func #[35, 3] #[4] false) 1 8 (.nilFunc) := ⟨Tryz.underlying42, by kernel_rfl⟩
instance : Ty Tryz.prog 43 (TypeDesc.func #[35] #[4] false) 1 8 (.nilFunc) := ⟨Tryz.underlying43, by kernel_rfl⟩
instance : Ty Tryz.prog 44 (TypeDesc.func #[35] #[35] false) 1 8 (.nilFunc) := ⟨Tryz.underlying44, by kernel_rfl⟩
instance : Ty Tryz.prog 45 (TypeDesc.slice 3) 1 24 (.slice none 0 0) := ⟨Tryz.underlying45, by kernel_rfl⟩
instance : Ty Tryz.prog 47 (TypeDesc.func #[35] #[22, 45, 4] false) 1 8 (.nilFunc) := ⟨Tryz.underlying47, by kernel_rfl⟩
instance : Ty Tryz.prog 48 (TypeDesc.func #[35, 3, 5] #[4] false) 1 8 (.nilFunc) := ⟨Tryz.underlying48, by kernel_rfl⟩
instance : Ty Tryz.prog 49 (TypeDesc.struct #[{ name := "No", type := 3, offset := 0, embedded := false, tag := "", pkgPath := "", byteOffset := 0 }, { name := "Disk", type := 22, offset := 1, embedded := false, tag := "", pkgPath := "", byteOffset := 8 }, { name := "Room", type := 3, offset := 2, embedded := false, tag := "", pkgPath := "", byteOffset := 32 }, { name := "L", type := 35, offset := 3, embedded := false, tag := "", pkgPath := "", byteOffset := 40 }, { name := "Wait", type := 35, offset := 4, embedded := false, tag := "", pkgPath := "", byteOffset := 64 }, { name := "Seq", type := 3, offset := 5, embedded := false, tag := "", pkgPath := "", byteOffset := 88 }, { name := "Up", type := 4, offset := 6, embedded := false, tag := "", pkgPath := "", byteOffset := 96 }, { name := "Peers", type := 45, offset := 7, embedded := false, tag := "", pkgPath := "", byteOffset := 104 }, { name := "Next", type := 3, offset := 8, embedded := false, tag := "", pkgPath := "", byteOffset := 128 }, { name := "Miss", type := 3, offset := 9, embedded := false, tag := "", pkgPath := "", byteOffset := 136 }]) 10 144 (.agg ⟨[.int .i64 0, .slice none 0 0, .int .i64 0, .slice none 0 0, .slice none 0 0, .int .i64 0, .bool false, .slice none 0 0, .int .i64 0, .int .i64 0]⟩) := ⟨Tryz.underlying49, by kernel_rfl⟩
instance : Ty Tryz.prog 50 (TypeDesc.struct #[{ name := "No", type := 3, offset := 0, embedded := false, tag := "", pkgPath := "", byteOffset := 0 }, { name := "Disk", type := 22, offset := 1, embedded := false, tag := "", pkgPath := "", byteOffset := 8 }, { name := "Room", type := 3, offset := 2, embedded := false, tag := "", pkgPath := "", byteOffset := 32 }, { name := "L", type := 35, offset := 3, embedded := false, tag := "", pkgPath := "", byteOffset := 40 }, { name := "Wait", type := 35, offset := 4, embedded := false, tag := "", pkgPath := "", byteOffset := 64 }, { name := "Seq", type := 3, offset := 5, embedded := false, tag := "", pkgPath := "", byteOffset := 88 }, { name := "Up", type := 4, offset := 6, embedded := false, tag := "", pkgPath := "", byteOffset := 96 }, { name := "Peers", type := 45, offset := 7, embedded := false, tag := "", pkgPath := "", byteOffset := 104 }, { name := "Next", type := 3, offset := 8, embedded := false, tag := "", pkgPath := "", byteOffset := 128 }, { name := "Miss", type := 3, offset := 9, embedded := false, tag := "", pkgPath := "", byteOffset := 136 }]) 10 144 (.agg ⟨[.int .i64 0, .slice none 0 0, .int .i64 0, .slice none 0 0, .slice none 0 0, .int .i64 0, .bool false, .slice none 0 0, .int .i64 0, .int .i64 0]⟩) := ⟨Tryz.underlying50, by kernel_rfl⟩
instance : Ty Tryz.prog 51 (TypeDesc.struct #[{ name := "Kind", type := 3, offset := 0, embedded := false, tag := "", pkgPath := "", byteOffset := 0 }, { name := "IDs", type := 25, offset := 1, embedded := false, tag := "", pkgPath := "", byteOffset := 8 }, { name := "Commits", type := 35, offset := 2, embedded := false, tag := "", pkgPath := "", byteOffset := 32 }]) 3 56 (.agg ⟨[.int .i64 0, .slice none 0 0, .slice none 0 0]⟩) := ⟨Tryz.underlying51, by kernel_rfl⟩
instance : Ty Tryz.prog 52 (TypeDesc.struct #[{ name := "Kind", type := 3, offset := 0, embedded := false, tag := "", pkgPath := "", byteOffset := 0 }, { name := "IDs", type := 25, offset := 1, embedded := false, tag := "", pkgPath := "", byteOffset := 8 }, { name := "Commits", type := 35, offset := 2, embedded := false, tag := "", pkgPath := "", byteOffset := 32 }]) 3 56 (.agg ⟨[.int .i64 0, .slice none 0 0, .slice none 0 0]⟩) := ⟨Tryz.underlying52, by kernel_rfl⟩
instance : Ty Tryz.prog 53 (TypeDesc.func #[50] #[4] false) 1 8 (.nilFunc) := ⟨Tryz.underlying53, by kernel_rfl⟩
instance : Ty Tryz.prog 54 (TypeDesc.func #[52] #[4] false) 1 8 (.nilFunc) := ⟨Tryz.underlying54, by kernel_rfl⟩
instance : Ty Tryz.prog 56 (TypeDesc.func #[50, 52] #[50, 52, 4] false) 1 8 (.nilFunc) := ⟨Tryz.underlying56, by kernel_rfl⟩
instance : Ty Tryz.prog 57 (TypeDesc.func #[50, 50] #[4] false) 1 8 (.nilFunc) := ⟨Tryz.underlying57, by kernel_rfl⟩
instance : Ty Tryz.prog 58 (TypeDesc.func #[52, 52] #[4] false) 1 8 (.nilFunc) := ⟨Tryz.underlying58, by kernel_rfl⟩
instance : Ty Tryz.prog 60 (TypeDesc.func #[50] #[52, 32] false) 1 8 (.nilFunc) := ⟨Tryz.underlying60, by kernel_rfl⟩
instance : Ty Tryz.prog 61 (TypeDesc.func #[50, 52] #[4] false) 1 8 (.nilFunc) := ⟨Tryz.underlying61, by kernel_rfl⟩
instance : Ty Tryz.prog 62 (TypeDesc.int IntKind.u32) 1 4 (.int .u32 0) := ⟨Tryz.underlying62, by kernel_rfl⟩
instance : Ty Tryz.prog 64 (TypeDesc.func #[50, 3, 62] #[50, 3, 52, 4, 62] false) 1 8 (.nilFunc) := ⟨Tryz.underlying64, by kernel_rfl⟩
instance : Ty Tryz.prog 65 (TypeDesc.func #[50, 3, 62] #[4] false) 1 8 (.nilFunc) := ⟨Tryz.underlying65, by kernel_rfl⟩
instance : Ty Tryz.prog 66 (TypeDesc.func #[25] #[4] false) 1 8 (.nilFunc) := ⟨Tryz.underlying66, by kernel_rfl⟩
instance : Ty Tryz.prog 67 (TypeDesc.func #[25, 25] #[25] false) 1 8 (.nilFunc) := ⟨Tryz.underlying67, by kernel_rfl⟩
instance : Ty Tryz.prog 68 (TypeDesc.func #[35] #[25] false) 1 8 (.nilFunc) := ⟨Tryz.underlying68, by kernel_rfl⟩
instance : Ty Tryz.prog 69 (TypeDesc.func #[35, 25] #[35] false) 1 8 (.nilFunc) := ⟨Tryz.underlying69, by kernel_rfl⟩
instance : Ty Tryz.prog 70 (TypeDesc.func #[35, 25] #[25] false) 1 8 (.nilFunc) := ⟨Tryz.underlying70, by kernel_rfl⟩
instance : Ty Tryz.prog 71 (TypeDesc.func #[50, 25] #[4] false) 1 8 (.nilFunc) := ⟨Tryz.underlying71, by kernel_rfl⟩
instance : Ty Tryz.prog 73 (TypeDesc.func #[3, 3] #[50, 4] false) 1 8 (.nilFunc) := ⟨Tryz.underlying73, by kernel_rfl⟩
instance : Ty Tryz.prog 74 (TypeDesc.func #[50, 35] #[50] false) 1 8 (.nilFunc) := ⟨Tryz.underlying74, by kernel_rfl⟩
instance : Ty Tryz.prog 76 (TypeDesc.func #[50, 50, 52] #[50, 50] false) 1 8 (.nilFunc) := ⟨Tryz.underlying76, by kernel_rfl⟩
instance : Ty Tryz.prog 77 (TypeDesc.func #[25, 25] #[4] false) 1 8 (.nilFunc) := ⟨Tryz.underlying77, by kernel_rfl⟩
instance : Ty Tryz.prog 78 (TypeDesc.func #[25] #[25] false) 1 8 (.nilFunc) := ⟨Tryz.underlying78, by kernel_rfl⟩
instance : Ty Tryz.prog 79 (TypeDesc.func #[35, 25, 25] #[4] false) 1 8 (.nilFunc) := ⟨Tryz.underlying79, by kernel_rfl⟩
instance : Ty Tryz.prog 80 (TypeDesc.array 32 5) 32 32 (.agg ⟨List.replicate 32 (.int .u8 0)⟩) := ⟨Tryz.underlying80, by kernel_rfl⟩
instance : Ty Tryz.prog 81 (TypeDesc.array 32 5) 32 32 (.agg ⟨List.replicate 32 (.int .u8 0)⟩) := ⟨Tryz.underlying81, by kernel_rfl⟩
instance : Ty Tryz.prog 83 (TypeDesc.func #[29] #[81, 32] false) 1 8 (.nilFunc) := ⟨Tryz.underlying83, by kernel_rfl⟩
instance : Ty Tryz.prog 84 (TypeDesc.func #[25, 81] #[4] false) 1 8 (.nilFunc) := ⟨Tryz.underlying84, by kernel_rfl⟩
instance : Ty Tryz.prog 85 (TypeDesc.func #[] #[29] false) 1 8 (.nilFunc) := ⟨Tryz.underlying85, by kernel_rfl⟩
instance : Ty Tryz.prog 86 (TypeDesc.func #[29] #[22, 32] false) 1 8 (.nilFunc) := ⟨Tryz.underlying86, by kernel_rfl⟩
instance : Ty Tryz.prog 87 (TypeDesc.func #[22, 3, 22] #[22, 32] false) 1 8 (.nilFunc) := ⟨Tryz.underlying87, by kernel_rfl⟩
instance : Ty Tryz.prog 88 (TypeDesc.func #[147] #[] false) 1 8 (.nilFunc) := ⟨Tryz.underlying88, by kernel_rfl⟩
instance : Ty Tryz.prog 89 (TypeDesc.func #[147] #[] false) 1 8 (.nilFunc) := ⟨Tryz.underlying89, by kernel_rfl⟩
instance : Ty Tryz.prog 90 (TypeDesc.func #[22] #[89] false) 1 8 (.nilFunc) := ⟨Tryz.underlying90, by kernel_rfl⟩
instance : Ty Tryz.prog 91 (TypeDesc.slice 22) 1 24 (.slice none 0 0) := ⟨Tryz.underlying91, by kernel_rfl⟩
instance : Ty Tryz.prog 93 (TypeDesc.func #[22] #[91, 3] false) 1 8 (.nilFunc) := ⟨Tryz.underlying93, by kernel_rfl⟩
instance : Ty Tryz.prog 95 (TypeDesc.func #[22] #[29, 22, 32] false) 1 8 (.nilFunc) := ⟨Tryz.underlying95, by kernel_rfl⟩
instance : Ty Tryz.prog 96 (TypeDesc.func #[22] #[22, 32] false) 1 8 (.nilFunc) := ⟨Tryz.underlying96, by kernel_rfl⟩
instance : Ty Tryz.prog 97 (TypeDesc.func #[29, 29] #[4] false) 1 8 (.nilFunc) := ⟨Tryz.underlying97, by kernel_rfl⟩
instance : Ty Tryz.prog 98 (TypeDesc.map 81 29) 1 8 (.map none) := ⟨Tryz.underlying98, by kernel_rfl⟩
instance : Ty Tryz.prog 99 (TypeDesc.map 81 129) 1 8 (.map none) := ⟨Tryz.underlying99, by kernel_rfl⟩
instance : Ty Tryz.prog 100 (TypeDesc.struct #[{ name := "of", type := 98, offset := 0, embedded := false, tag := "", pkgPath := "anabranch/dag", byteOffset := 0 }, { name := "knows", type := 99, offset := 1, embedded := false, tag := "", pkgPath := "anabranch/dag", byteOffset := 8 }]) 2 16 (.agg ⟨[.map none, .map none]⟩) := ⟨Tryz.underlying100, by kernel_rfl⟩
instance : Ty Tryz.prog 101 (TypeDesc.struct #[{ name := "of", type := 98, offset := 0, embedded := false, tag := "", pkgPath := "anabranch/dag", byteOffset := 0 }, { name := "knows", type := 99, offset := 1, embedded := false, tag := "", pkgPath := "anabranch/dag", byteOffset := 8 }]) 2 16 (.agg ⟨[.map none, .map none]⟩) := ⟨Tryz.underlying101, by kernel_rfl⟩
instance : Ty Tryz.prog 103 (TypeDesc.func #[35] #[101, 25, 4] false) 1 8 (.nilFunc) := ⟨Tryz.underlying103, by kernel_rfl⟩
instance : Ty Tryz.prog 104 (TypeDesc.func #[45, 106] #[] false) 1 8 (.nilFunc) := ⟨Tryz.underlying104, by kernel_rfl⟩
instance : Ty Tryz.prog 105 (TypeDesc.func #[45] #[3] true) 1 8 (.nilFunc) := ⟨Tryz.underlying105, by kernel_rfl⟩
instance : Ty Tryz.prog 106 (TypeDesc.func #[3, 3] #[3] false) 1 8 (.nilFunc) := ⟨Tryz.underlying106, by kernel_rfl⟩
instance : Ty Tryz.prog 107 (TypeDesc.func #[22, 22] #[3] false) 1 8 (.nilFunc) := ⟨Tryz.underlying107, by kernel_rfl⟩
instance : Ty Tryz.prog 108 (TypeDesc.func #[29] #[29] false) 1 8 (.nilFunc) := ⟨Tryz.underlying108, by kernel_rfl⟩
instance : Ty Tryz.prog 109 (TypeDesc.pointer 112) 1 8 (.pointer none) := ⟨Tryz.underlying109, by kernel_rfl⟩
instance : Ty Tryz.prog 110 (TypeDesc.func #[50] #[50] false) 1 8 (.nilFunc) := ⟨Tryz.underlying110, by kernel_rfl⟩
instance : Ty Tryz.prog 111 (TypeDesc.struct #[{ name := "n", type := 50, offset := 0, embedded := false, tag := "", pkgPath := "anabranch/gossip", byteOffset := 0 }, { name := "out", type := 52, offset := 10, embedded := false, tag := "", pkgPath := "anabranch/gossip", byteOffset := 144 }, { name := "tell", type := 4, offset := 13, embedded := false, tag := "", pkgPath := "anabranch/gossip", byteOffset := 200 }]) 14 208 (.agg ⟨[.int .i64 0, .slice none 0 0, .int .i64 0, .slice none 0 0, .slice none 0 0, .int .i64 0, .bool false, .slice none 0 0, .int .i64 0, .int .i64 0, .int .i64 0, .slice none 0 0, .slice none 0 0, .bool false]⟩) := ⟨Tryz.underlying111, by kernel_rfl⟩
instance : Ty Tryz.prog 112 (TypeDesc.struct #[{ name := "n", type := 50, offset := 0, embedded := false, tag := "", pkgPath := "anabranch/gossip", byteOffset := 0 }, { name := "out", type := 52, offset := 10, embedded := false, tag := "", pkgPath := "anabranch/gossip", byteOffset := 144 }, { name := "tell", type := 4, offset := 13, embedded := false, tag := "", pkgPath := "anabranch/gossip", byteOffset := 200 }]) 14 208 (.agg ⟨[.int .i64 0, .slice none 0 0, .int .i64 0, .slice none 0 0, .slice none 0 0, .int .i64 0, .bool false, .slice none 0 0, .int .i64 0, .int .i64 0, .int .i64 0, .slice none 0 0, .slice none 0 0, .bool false]⟩) := ⟨Tryz.underlying112, by kernel_rfl⟩
instance : Ty Tryz.prog 113 (TypeDesc.func #[52] #[] false) 1 8 (.nilFunc) := ⟨Tryz.underlying113, by kernel_rfl⟩
instance : Ty Tryz.prog 114 (TypeDesc.map 3 113) 1 8 (.map none) := ⟨Tryz.underlying114, by kernel_rfl⟩
instance : Ty Tryz.prog 116 (TypeDesc.func #[25] #[52, 4] false) 1 8 (.nilFunc) := ⟨Tryz.underlying116, by kernel_rfl⟩
instance : Ty Tryz.prog 117 (TypeDesc.func #[35, 25, 4] #[52, 4] false) 1 8 (.nilFunc) := ⟨Tryz.underlying117, by kernel_rfl⟩
instance : Ty Tryz.prog 118 (TypeDesc.func #[62] #[62] false) 1 8 (.nilFunc) := ⟨Tryz.underlying118, by kernel_rfl⟩
instance : Ty Tryz.prog 120 (TypeDesc.func #[45, 62] #[3, 4] false) 1 8 (.nilFunc) := ⟨Tryz.underlying120, by kernel_rfl⟩
instance : Ty Tryz.prog 121 (TypeDesc.func #[3] #[3] false) 1 8 (.nilFunc) := ⟨Tryz.underlying121, by kernel_rfl⟩
instance : Ty Tryz.prog 122 (TypeDesc.func #[3, 3] #[4] false) 1 8 (.nilFunc) := ⟨Tryz.underlying122, by kernel_rfl⟩
instance : Ty Tryz.prog 123 (TypeDesc.func #[50, 29] #[4] false) 1 8 (.nilFunc) := ⟨Tryz.underlying123, by kernel_rfl⟩
instance : Ty Tryz.prog 124 (TypeDesc.func #[35, 31] #[4] false) 1 8 (.nilFunc) := ⟨Tryz.underlying124, by kernel_rfl⟩
instance : Ty Tryz.prog 125 (TypeDesc.func #[81, 81] #[4] false) 1 8 (.nilFunc) := ⟨Tryz.underlying125, by kernel_rfl⟩
instance : Ty Tryz.prog 126 (TypeDesc.func #[25, 25, 4] #[25] false) 1 8 (.nilFunc) := ⟨Tryz.underlying126, by kernel_rfl⟩
instance : Ty Tryz.prog 128 (TypeDesc.map 81 4) 1 8 (.map none) := ⟨Tryz.underlying128, by kernel_rfl⟩
instance : Ty Tryz.prog 129 (TypeDesc.map 81 4) 1 8 (.map none) := ⟨Tryz.underlying129, by kernel_rfl⟩
instance : Ty Tryz.prog 130 (TypeDesc.pointer 136) 1 8 (.pointer none) := ⟨Tryz.underlying130, by kernel_rfl⟩
instance : Ty Tryz.prog 131 (TypeDesc.func #[50] #[130] false) 1 8 (.nilFunc) := ⟨Tryz.underlying131, by kernel_rfl⟩
instance : Ty Tryz.prog 132 (TypeDesc.func #[29] #[] false) 1 8 (.nilFunc) := ⟨Tryz.underlying132, by kernel_rfl⟩
instance : Ty Tryz.prog 133 (TypeDesc.struct #[{ name := "Node", type := 50, offset := 0, embedded := true, tag := "", pkgPath := "", byteOffset := 0 }]) 10 144 (.agg ⟨[.int .i64 0, .slice none 0 0, .int .i64 0, .slice none 0 0, .slice none 0 0, .int .i64 0, .bool false, .slice none 0 0, .int .i64 0, .int .i64 0]⟩) := ⟨Tryz.underlying133, by kernel_rfl⟩
instance : Ty Tryz.prog 134 (TypeDesc.struct #[{ name := "Node", type := 50, offset := 0, embedded := true, tag := "", pkgPath := "", byteOffset := 0 }]) 10 144 (.agg ⟨[.int .i64 0, .slice none 0 0, .int .i64 0, .slice none 0 0, .slice none 0 0, .int .i64 0, .bool false, .slice none 0 0, .int .i64 0, .int .i64 0]⟩) := ⟨Tryz.underlying134, by kernel_rfl⟩
instance : Ty Tryz.prog 135 (TypeDesc.struct #[{ name := "disk", type := 134, offset := 0, embedded := true, tag := "", pkgPath := "anabranch/branch", byteOffset := 0 }]) 10 144 (.agg ⟨[.int .i64 0, .slice none 0 0, .int .i64 0, .slice none 0 0, .slice none 0 0, .int .i64 0, .bool false, .slice none 0 0, .int .i64 0, .int .i64 0]⟩) := ⟨Tryz.underlying135, by kernel_rfl⟩
instance : Ty Tryz.prog 136 (TypeDesc.struct #[{ name := "disk", type := 134, offset := 0, embedded := true, tag := "", pkgPath := "anabranch/branch", byteOffset := 0 }]) 10 144 (.agg ⟨[.int .i64 0, .slice none 0 0, .int .i64 0, .slice none 0 0, .slice none 0 0, .int .i64 0, .bool false, .slice none 0 0, .int .i64 0, .int .i64 0]⟩) := ⟨Tryz.underlying136, by kernel_rfl⟩
instance : Ty Tryz.prog 137 (TypeDesc.func #[179] #[25] true) 1 8 (.nilFunc) := ⟨Tryz.underlying137, by kernel_rfl⟩
instance : Ty Tryz.prog 138 (TypeDesc.map 81 4) 1 8 (.map none) := ⟨Tryz.underlying138, by kernel_rfl⟩
instance : Ty Tryz.prog 139 (TypeDesc.func #[25] #[138] false) 1 8 (.nilFunc) := ⟨Tryz.underlying139, by kernel_rfl⟩
instance : Ty Tryz.prog 140 (TypeDesc.func #[] #[25] false) 1 8 (.nilFunc) := ⟨Tryz.underlying140, by kernel_rfl⟩
instance : Ty Tryz.prog 141 (TypeDesc.func #[22] #[81] false) 1 8 (.nilFunc) := ⟨Tryz.underlying141, by kernel_rfl⟩
instance : Ty Tryz.prog 142 (TypeDesc.func #[91] #[22] true) 1 8 (.nilFunc) := ⟨Tryz.underlying142, by kernel_rfl⟩
instance : Ty Tryz.prog 143 (TypeDesc.func #[144] #[22] false) 1 8 (.nilFunc) := ⟨Tryz.underlying143, by kernel_rfl⟩
instance : Ty Tryz.prog 144 (TypeDesc.int IntKind.u64) 1 8 (.int .u64 0) := ⟨Tryz.underlying144, by kernel_rfl⟩
instance : Ty Tryz.prog 145 (TypeDesc.func #[3] #[144] false) 1 8 (.nilFunc) := ⟨Tryz.underlying145, by kernel_rfl⟩
instance : Ty Tryz.prog 146 (TypeDesc.func #[27] #[22, 32] false) 1 8 (.nilFunc) := ⟨Tryz.underlying146, by kernel_rfl⟩
instance : Ty Tryz.prog 147 (TypeDesc.func #[29, 3] #[4] false) 1 8 (.nilFunc) := ⟨Tryz.underlying147, by kernel_rfl⟩
instance : Ty Tryz.prog 149 (TypeDesc.func #[22] #[144, 3] false) 1 8 (.nilFunc) := ⟨Tryz.underlying149, by kernel_rfl⟩
instance : Ty Tryz.prog 150 (TypeDesc.pointer 152) 1 8 (.pointer none) := ⟨Tryz.underlying150, by kernel_rfl⟩
instance : Ty Tryz.prog 151 (TypeDesc.struct #[{ name := "B", type := 22, offset := 0, embedded := false, tag := "", pkgPath := "", byteOffset := 0 }, { name := "Bad", type := 4, offset := 1, embedded := false, tag := "", pkgPath := "", byteOffset := 24 }]) 2 32 (.agg ⟨[.slice none 0 0, .bool false]⟩) := ⟨Tryz.underlying151, by kernel_rfl⟩
instance : Ty Tryz.prog 152 (TypeDesc.struct #[{ name := "B", type := 22, offset := 0, embedded := false, tag := "", pkgPath := "", byteOffset := 0 }, { name := "Bad", type := 4, offset := 1, embedded := false, tag := "", pkgPath := "", byteOffset := 24 }]) 2 32 (.agg ⟨[.slice none 0 0, .bool false]⟩) := ⟨Tryz.underlying152, by kernel_rfl⟩
instance : Ty Tryz.prog 153 (TypeDesc.func #[144] #[3] false) 1 8 (.nilFunc) := ⟨Tryz.underlying153, by kernel_rfl⟩
instance : Ty Tryz.prog 154 (TypeDesc.func #[] #[144] false) 1 8 (.nilFunc) := ⟨Tryz.underlying154, by kernel_rfl⟩
instance : Ty Tryz.prog 155 (TypeDesc.func #[] #[81] false) 1 8 (.nilFunc) := ⟨Tryz.underlying155, by kernel_rfl⟩
instance : Ty Tryz.prog 157 (TypeDesc.func #[22] #[27, 22, 32] false) 1 8 (.nilFunc) := ⟨Tryz.underlying157, by kernel_rfl⟩
instance : Ty Tryz.prog 158 (TypeDesc.slice 162) 1 24 (.slice none 0 0) := ⟨Tryz.underlying158, by kernel_rfl⟩
instance : Ty Tryz.prog 159 (TypeDesc.func #[35, 25] #[158] false) 1 8 (.nilFunc) := ⟨Tryz.underlying159, by kernel_rfl⟩
instance : Ty Tryz.prog 160 (TypeDesc.func #[35, 25, 158, 3] #[4] false) 1 8 (.nilFunc) := ⟨Tryz.underlying160, by kernel_rfl⟩
instance : Ty Tryz.prog 161 (TypeDesc.func #[25, 81] #[3] false) 1 8 (.nilFunc) := ⟨Tryz.underlying161, by kernel_rfl⟩
instance : Ty Tryz.prog 162 (TypeDesc.slice 4) 1 24 (.slice none 0 0) := ⟨Tryz.underlying162, by kernel_rfl⟩
instance : Ty Tryz.prog 163 (TypeDesc.func #[81, 29] #[4] false) 1 8 (.nilFunc) := ⟨Tryz.underlying163, by kernel_rfl⟩
instance : Ty Tryz.prog 164 (TypeDesc.func #[45, 3, 3, 3, 106] #[] false) 1 8 (.nilFunc) := ⟨Tryz.underlying164, by kernel_rfl⟩
instance : Ty Tryz.prog 165 (TypeDesc.func #[166] #[3] false) 1 8 (.nilFunc) := ⟨Tryz.underlying165, by kernel_rfl⟩
instance : Ty Tryz.prog 166 (TypeDesc.int IntKind.u64) 1 8 (.int .u64 0) := ⟨Tryz.underlying166, by kernel_rfl⟩
instance : Ty Tryz.prog 167 (TypeDesc.func #[3] #[4] false) 1 8 (.nilFunc) := ⟨Tryz.underlying167, by kernel_rfl⟩
instance : Ty Tryz.prog 168 (TypeDesc.func #[45] #[45] false) 1 8 (.nilFunc) := ⟨Tryz.underlying168, by kernel_rfl⟩
instance : Ty Tryz.prog 169 (TypeDesc.pointer 35) 1 8 (.pointer none) := ⟨Tryz.underlying169, by kernel_rfl⟩
instance : Ty Tryz.prog 170 (TypeDesc.slice 169) 1 24 (.slice none 0 0) := ⟨Tryz.underlying170, by kernel_rfl⟩
instance : Ty Tryz.prog 171 (TypeDesc.func #[25] #[] false) 1 8 (.nilFunc) := ⟨Tryz.underlying171, by kernel_rfl⟩
instance : Ty Tryz.prog 172 (TypeDesc.func #[35] #[] false) 1 8 (.nilFunc) := ⟨Tryz.underlying172, by kernel_rfl⟩
instance : Ty Tryz.prog 173 (TypeDesc.func #[35, 29] #[35] false) 1 8 (.nilFunc) := ⟨Tryz.underlying173, by kernel_rfl⟩
instance : Ty Tryz.prog 174 (TypeDesc.func #[35, 35, 97] #[4] false) 1 8 (.nilFunc) := ⟨Tryz.underlying174, by kernel_rfl⟩
instance : Ty Tryz.prog 175 (TypeDesc.func #[3, 3, 3] #[4] false) 1 8 (.nilFunc) := ⟨Tryz.underlying175, by kernel_rfl⟩
instance : Ty Tryz.prog 176 (TypeDesc.func #[27] #[4] false) 1 8 (.nilFunc) := ⟨Tryz.underlying176, by kernel_rfl⟩
instance : Ty Tryz.prog 177 (TypeDesc.func #[35, 31] #[3] false) 1 8 (.nilFunc) := ⟨Tryz.underlying177, by kernel_rfl⟩
instance : Ty Tryz.prog 178 (TypeDesc.func #[81, 81] #[3] false) 1 8 (.nilFunc) := ⟨Tryz.underlying178, by kernel_rfl⟩
instance : Ty Tryz.prog 179 (TypeDesc.slice 25) 1 24 (.slice none 0 0) := ⟨Tryz.underlying179, by kernel_rfl⟩
instance : Ty Tryz.prog 180 (TypeDesc.func #[25, 3] #[25] false) 1 8 (.nilFunc) := ⟨Tryz.underlying180, by kernel_rfl⟩
instance : Ty Tryz.prog 181 (TypeDesc.func #[25, 178] #[] false) 1 8 (.nilFunc) := ⟨Tryz.underlying181, by kernel_rfl⟩
instance : Ty Tryz.prog 182 (TypeDesc.array 8 62) 8 32 (.agg ⟨[.int .u32 0, .int .u32 0, .int .u32 0, .int .u32 0, .int .u32 0, .int .u32 0, .int .u32 0, .int .u32 0]⟩) := ⟨Tryz.underlying182, by kernel_rfl⟩
instance : Ty Tryz.prog 183 (TypeDesc.func #[] #[182] false) 1 8 (.nilFunc) := ⟨Tryz.underlying183, by kernel_rfl⟩
instance : Ty Tryz.prog 185 (TypeDesc.func #[182, 22] #[182, 4] false) 1 8 (.nilFunc) := ⟨Tryz.underlying185, by kernel_rfl⟩
instance : Ty Tryz.prog 186 (TypeDesc.array 4 5) 4 4 (.agg ⟨[.int .u8 0, .int .u8 0, .int .u8 0, .int .u8 0]⟩) := ⟨Tryz.underlying186, by kernel_rfl⟩
instance : Ty Tryz.prog 187 (TypeDesc.func #[62] #[186] false) 1 8 (.nilFunc) := ⟨Tryz.underlying187, by kernel_rfl⟩
instance : Ty Tryz.prog 188 (TypeDesc.func #[22, 3] #[22] false) 1 8 (.nilFunc) := ⟨Tryz.underlying188, by kernel_rfl⟩
instance : Ty Tryz.prog 189 (TypeDesc.func #[232] #[] false) 1 8 (.nilFunc) := ⟨Tryz.underlying189, by kernel_rfl⟩
instance : Ty Tryz.prog 190 (TypeDesc.func #[232] #[] false) 1 8 (.nilFunc) := ⟨Tryz.underlying190, by kernel_rfl⟩
instance : Ty Tryz.prog 191 (TypeDesc.func #[144] #[190] false) 1 8 (.nilFunc) := ⟨Tryz.underlying191, by kernel_rfl⟩
instance : Ty Tryz.prog 192 (TypeDesc.func #[91, 22] #[22] false) 1 8 (.nilFunc) := ⟨Tryz.underlying192, by kernel_rfl⟩
instance : Ty Tryz.prog 193 (TypeDesc.func #[9] #[22] false) 1 8 (.nilFunc) := ⟨Tryz.underlying193, by kernel_rfl⟩
instance : Ty Tryz.prog 194 (TypeDesc.func #[27] #[22] false) 1 8 (.nilFunc) := ⟨Tryz.underlying194, by kernel_rfl⟩
instance : Ty Tryz.prog 195 (TypeDesc.func #[234, 22] #[22, 4] false) 1 8 (.nilFunc) := ⟨Tryz.underlying195, by kernel_rfl⟩
instance : Ty Tryz.prog 196 (TypeDesc.struct #[{ name := "may", type := 176, offset := 0, embedded := false, tag := "", pkgPath := "anabranch/ops", byteOffset := 0 }, { name := "put", type := 194, offset := 1, embedded := false, tag := "", pkgPath := "anabranch/ops", byteOffset := 8 }, { name := "get", type := 195, offset := 2, embedded := false, tag := "", pkgPath := "anabranch/ops", byteOffset := 16 }]) 3 24 (.agg ⟨[.nilFunc, .nilFunc, .nilFunc]⟩) := ⟨Tryz.underlying196, by kernel_rfl⟩
instance : Ty Tryz.prog 197 (TypeDesc.struct #[{ name := "may", type := 176, offset := 0, embedded := false, tag := "", pkgPath := "anabranch/ops", byteOffset := 0 }, { name := "put", type := 194, offset := 1, embedded := false, tag := "", pkgPath := "anabranch/ops", byteOffset := 8 }, { name := "get", type := 195, offset := 2, embedded := false, tag := "", pkgPath := "anabranch/ops", byteOffset := 16 }]) 3 24 (.agg ⟨[.nilFunc, .nilFunc, .nilFunc]⟩) := ⟨Tryz.underlying197, by kernel_rfl⟩
instance : Ty Tryz.prog 198 (TypeDesc.map 3 197) 1 8 (.map none) := ⟨Tryz.underlying198, by kernel_rfl⟩
instance : Ty Tryz.prog 199 (TypeDesc.func #[] #[198] false) 1 8 (.nilFunc) := ⟨Tryz.underlying199, by kernel_rfl⟩
instance : Ty Tryz.prog 200 (TypeDesc.func #[22] #[186] false) 1 8 (.nilFunc) := ⟨Tryz.underlying200, by kernel_rfl⟩
instance : Ty Tryz.prog 201 (TypeDesc.func #[24] #[4] false) 1 8 (.nilFunc) := ⟨Tryz.underlying201, by kernel_rfl⟩
instance : Ty Tryz.prog 202 (TypeDesc.struct #[]) 0 0 (.agg ⟨[]⟩) := ⟨Tryz.underlying202, by kernel_rfl⟩
instance : Ty Tryz.prog 203 (TypeDesc.struct #[]) 0 0 (.agg ⟨[]⟩) := ⟨Tryz.underlying203, by kernel_rfl⟩
instance : Ty Tryz.prog 205 (TypeDesc.pointer 207) 1 8 (.pointer none) := ⟨Tryz.underlying205, by kernel_rfl⟩
instance : Ty Tryz.prog 206 (TypeDesc.struct #[{ name := "b", type := 22, offset := 0, embedded := false, tag := "", pkgPath := "anabranch/commit", byteOffset := 0 }]) 1 24 (.agg ⟨[.slice none 0 0]⟩) := ⟨Tryz.underlying206, by kernel_rfl⟩
instance : Ty Tryz.prog 207 (TypeDesc.struct #[{ name := "b", type := 22, offset := 0, embedded := false, tag := "", pkgPath := "anabranch/commit", byteOffset := 0 }]) 1 24 (.agg ⟨[.slice none 0 0]⟩) := ⟨Tryz.underlying207, by kernel_rfl⟩
instance : Ty Tryz.prog 209 (TypeDesc.func #[22, 3] #[9, 22, 4] false) 1 8 (.nilFunc) := ⟨Tryz.underlying209, by kernel_rfl⟩
instance : Ty Tryz.prog 210 (TypeDesc.func #[45, 3, 3, 106] #[] false) 1 8 (.nilFunc) := ⟨Tryz.underlying210, by kernel_rfl⟩
instance : Ty Tryz.prog 211 (TypeDesc.int IntKind.i64) 1 8 (.int .i64 0) := ⟨Tryz.underlying211, by kernel_rfl⟩
instance : Ty Tryz.prog 213 (TypeDesc.func #[45, 3, 3, 106] #[3, 211] false) 1 8 (.nilFunc) := ⟨Tryz.underlying213, by kernel_rfl⟩
instance : Ty Tryz.prog 214 (TypeDesc.func #[45, 3, 3, 106] #[4] false) 1 8 (.nilFunc) := ⟨Tryz.underlying214, by kernel_rfl⟩
instance : Ty Tryz.prog 215 (TypeDesc.func #[45, 3, 3, 3, 106] #[3] false) 1 8 (.nilFunc) := ⟨Tryz.underlying215, by kernel_rfl⟩
instance : Ty Tryz.prog 216 (TypeDesc.func #[45, 3, 3, 3, 106] #[3, 4] false) 1 8 (.nilFunc) := ⟨Tryz.underlying216, by kernel_rfl⟩
instance : Ty Tryz.prog 217 (TypeDesc.func #[62] #[3] false) 1 8 (.nilFunc) := ⟨Tryz.underlying217, by kernel_rfl⟩
instance : Ty Tryz.prog 219 (TypeDesc.func #[35, 25] #[29, 35, 4] false) 1 8 (.nilFunc) := ⟨Tryz.underlying219, by kernel_rfl⟩
instance : Ty Tryz.prog 221 (TypeDesc.func #[9] #[4] false) 1 8 (.nilFunc) := ⟨Tryz.underlying221, by kernel_rfl⟩
instance : Ty Tryz.prog 222 (TypeDesc.func #[29] #[32] false) 1 8 (.nilFunc) := ⟨Tryz.underlying222, by kernel_rfl⟩
instance : Ty Tryz.prog 223 (TypeDesc.func #[25, 3, 3, 3, 178] #[] false) 1 8 (.nilFunc) := ⟨Tryz.underlying223, by kernel_rfl⟩
instance : Ty Tryz.prog 224 (TypeDesc.array 8 5) 8 8 (.agg ⟨[.int .u8 0, .int .u8 0, .int .u8 0, .int .u8 0, .int .u8 0, .int .u8 0, .int .u8 0, .int .u8 0]⟩) := ⟨Tryz.underlying224, by kernel_rfl⟩
instance : Ty Tryz.prog 225 (TypeDesc.func #[144] #[224] false) 1 8 (.nilFunc) := ⟨Tryz.underlying225, by kernel_rfl⟩
instance : Ty Tryz.prog 226 (TypeDesc.array 64 62) 64 256 (.agg ⟨List.replicate 64 (.int .u32 0)⟩) := ⟨Tryz.underlying226, by kernel_rfl⟩
instance : Ty Tryz.prog 227 (TypeDesc.func #[] #[226] false) 1 8 (.nilFunc) := ⟨Tryz.underlying227, by kernel_rfl⟩
instance : Ty Tryz.prog 228 (TypeDesc.func #[22] #[226] false) 1 8 (.nilFunc) := ⟨Tryz.underlying228, by kernel_rfl⟩
instance : Ty Tryz.prog 229 (TypeDesc.func #[62, 3, 3, 3] #[62] false) 1 8 (.nilFunc) := ⟨Tryz.underlying229, by kernel_rfl⟩
instance : Ty Tryz.prog 230 (TypeDesc.func #[62, 62, 62] #[62] false) 1 8 (.nilFunc) := ⟨Tryz.underlying230, by kernel_rfl⟩
instance : Ty Tryz.prog 231 (TypeDesc.slice 62) 1 24 (.slice none 0 0) := ⟨Tryz.underlying231, by kernel_rfl⟩
instance : Ty Tryz.prog 232 (TypeDesc.func #[5] #[4] false) 1 8 (.nilFunc) := ⟨Tryz.underlying232, by kernel_rfl⟩
instance : Ty Tryz.prog 233 (TypeDesc.func #[3] #[22] false) 1 8 (.nilFunc) := ⟨Tryz.underlying233, by kernel_rfl⟩
instance : Ty Tryz.prog 234 (TypeDesc.pointer 27) 1 8 (.pointer none) := ⟨Tryz.underlying234, by kernel_rfl⟩
instance : Ty Tryz.prog 235 (TypeDesc.func #[4] #[] false) 1 8 (.nilFunc) := ⟨Tryz.underlying235, by kernel_rfl⟩
instance : Ty Tryz.prog 236 (TypeDesc.func #[62, 3] #[62] false) 1 8 (.nilFunc) := ⟨Tryz.underlying236, by kernel_rfl⟩
instance : Ty Tryz.prog 237 (TypeDesc.int IntKind.u64) 1 8 (.int .u64 0) := ⟨Tryz.underlying237, by kernel_rfl⟩
instance : Ty Tryz.prog 238 (TypeDesc.func #[3] #[166] false) 1 8 (.nilFunc) := ⟨Tryz.underlying238, by kernel_rfl⟩
instance : Ty Tryz.prog 239 (TypeDesc.func #[45, 3, 240, 106] #[3] false) 1 8 (.nilFunc) := ⟨Tryz.underlying239, by kernel_rfl⟩
instance : Ty Tryz.prog 240 (TypeDesc.pointer 3) 1 8 (.pointer none) := ⟨Tryz.underlying240, by kernel_rfl⟩
instance : Ty Tryz.prog 241 (TypeDesc.func #[45, 3, 3, 3, 240, 106] #[3] false) 1 8 (.nilFunc) := ⟨Tryz.underlying241, by kernel_rfl⟩
instance : Ty Tryz.prog 242 (TypeDesc.func #[9, 5] #[3] false) 1 8 (.nilFunc) := ⟨Tryz.underlying242, by kernel_rfl⟩
instance : Ty Tryz.prog 243 (TypeDesc.func #[35, 3, 3] #[35] false) 1 8 (.nilFunc) := ⟨Tryz.underlying243, by kernel_rfl⟩
instance : Ty Tryz.prog 244 (TypeDesc.pointer 134) 1 8 (.pointer none) := ⟨Tryz.underlying244, by kernel_rfl⟩
instance : Ty Tryz.prog 245 (TypeDesc.func #[25, 3, 3, 178] #[] false) 1 8 (.nilFunc) := ⟨Tryz.underlying245, by kernel_rfl⟩
instance : Ty Tryz.prog 246 (TypeDesc.func #[25, 3, 3, 178] #[3, 211] false) 1 8 (.nilFunc) := ⟨Tryz.underlying246, by kernel_rfl⟩
instance : Ty Tryz.prog 247 (TypeDesc.func #[25, 3, 3, 178] #[4] false) 1 8 (.nilFunc) := ⟨Tryz.underlying247, by kernel_rfl⟩
instance : Ty Tryz.prog 248 (TypeDesc.func #[25, 3, 3, 3, 178] #[3] false) 1 8 (.nilFunc) := ⟨Tryz.underlying248, by kernel_rfl⟩
instance : Ty Tryz.prog 249 (TypeDesc.func #[25, 3, 3, 3, 178] #[3, 4] false) 1 8 (.nilFunc) := ⟨Tryz.underlying249, by kernel_rfl⟩
instance : Ty Tryz.prog 251 (TypeDesc.func #[22, 3] #[62, 4] false) 1 8 (.nilFunc) := ⟨Tryz.underlying251, by kernel_rfl⟩
instance : Ty Tryz.prog 253 (TypeDesc.pointer 237) 1 8 (.pointer none) := ⟨Tryz.underlying253, by kernel_rfl⟩
instance : Ty Tryz.prog 255 (TypeDesc.func #[45, 3, 3, 240, 106] #[3, 3] false) 1 8 (.nilFunc) := ⟨Tryz.underlying255, by kernel_rfl⟩
instance : Ty Tryz.prog 256 (TypeDesc.func #[25, 3, 240, 178] #[3] false) 1 8 (.nilFunc) := ⟨Tryz.underlying256, by kernel_rfl⟩
instance : Ty Tryz.prog 257 (TypeDesc.func #[25, 3, 3, 3, 240, 178] #[3] false) 1 8 (.nilFunc) := ⟨Tryz.underlying257, by kernel_rfl⟩
instance : Ty Tryz.prog 258 (TypeDesc.func #[25, 3, 3, 240, 178] #[3, 3] false) 1 8 (.nilFunc) := ⟨Tryz.underlying258, by kernel_rfl⟩
instance : Ty Tryz.prog 259 (TypeDesc.func #[] #[9] false) 1 8 (.nilFunc) := ⟨Tryz.underlying259, by kernel_rfl⟩
instance : Ty Tryz.prog 260 (TypeDesc.struct #[{ name := "_interface", type := 17, offset := 0, embedded := false, tag := "", pkgPath := "runtime", byteOffset := 0 }, { name := "concrete", type := 17, offset := 1, embedded := false, tag := "", pkgPath := "runtime", byteOffset := 8 }, { name := "asserted", type := 17, offset := 2, embedded := false, tag := "", pkgPath := "runtime", byteOffset := 16 }, { name := "missingMethod", type := 9, offset := 3, embedded := false, tag := "", pkgPath := "runtime", byteOffset := 24 }]) 4 40 (.agg ⟨[.pointer none, .pointer none, .pointer none, .string .empty]⟩) := ⟨Tryz.underlying260, by kernel_rfl⟩
instance : Ty Tryz.prog 261 (TypeDesc.struct #[{ name := "_interface", type := 17, offset := 0, embedded := false, tag := "", pkgPath := "runtime", byteOffset := 0 }, { name := "concrete", type := 17, offset := 1, embedded := false, tag := "", pkgPath := "runtime", byteOffset := 8 }, { name := "asserted", type := 17, offset := 2, embedded := false, tag := "", pkgPath := "runtime", byteOffset := 16 }, { name := "missingMethod", type := 9, offset := 3, embedded := false, tag := "", pkgPath := "runtime", byteOffset := 24 }]) 4 40 (.agg ⟨[.pointer none, .pointer none, .pointer none, .string .empty]⟩) := ⟨Tryz.underlying261, by kernel_rfl⟩
instance : Ty Tryz.prog 262 (TypeDesc.array 0 16) 0 0 (.agg ⟨[]⟩) := ⟨Tryz.underlying262, by kernel_rfl⟩
instance : Ty Tryz.prog 263 (TypeDesc.struct #[{ name := "_", type := 262, offset := 0, embedded := false, tag := "", pkgPath := "runtime", byteOffset := 0 }]) 0 0 (.agg ⟨[]⟩) := ⟨Tryz.underlying263, by kernel_rfl⟩
instance : Ty Tryz.prog 264 (TypeDesc.struct #[{ name := "_", type := 262, offset := 0, embedded := false, tag := "", pkgPath := "runtime", byteOffset := 0 }]) 0 0 (.agg ⟨[]⟩) := ⟨Tryz.underlying264, by kernel_rfl⟩
instance : Ty Tryz.prog 265 (TypeDesc.func #[] #[3] false) 1 8 (.nilFunc) := ⟨Tryz.underlying265, by kernel_rfl⟩
instance : Ty Tryz.prog 266 (TypeDesc.int IntKind.u8) 1 1 (.int .u8 0) := ⟨Tryz.underlying266, by kernel_rfl⟩
instance : Ty Tryz.prog 267 (TypeDesc.int IntKind.u8) 1 1 (.int .u8 0) := ⟨Tryz.underlying267, by kernel_rfl⟩
instance : Ty Tryz.prog 268 (TypeDesc.func #[274, 274] #[4] false) 1 8 (.nilFunc) := ⟨Tryz.underlying268, by kernel_rfl⟩
instance : Ty Tryz.prog 269 (TypeDesc.pointer 5) 1 8 (.pointer none) := ⟨Tryz.underlying269, by kernel_rfl⟩
instance : Ty Tryz.prog 270 (TypeDesc.int IntKind.i32) 1 4 (.int .i32 0) := ⟨Tryz.underlying270, by kernel_rfl⟩
instance : Ty Tryz.prog 271 (TypeDesc.int IntKind.i32) 1 4 (.int .i32 0) := ⟨Tryz.underlying271, by kernel_rfl⟩
instance : Ty Tryz.prog 272 (TypeDesc.struct #[{ name := "Size_", type := 12, offset := 0, embedded := false, tag := "", pkgPath := "", byteOffset := 0 }, { name := "PtrBytes", type := 12, offset := 1, embedded := false, tag := "", pkgPath := "", byteOffset := 8 }, { name := "Hash", type := 62, offset := 2, embedded := false, tag := "", pkgPath := "", byteOffset := 16 }, { name := "TFlag", type := 266, offset := 3, embedded := false, tag := "", pkgPath := "", byteOffset := 20 }, { name := "Align_", type := 5, offset := 4, embedded := false, tag := "", pkgPath := "", byteOffset := 21 }, { name := "FieldAlign_", type := 5, offset := 5, embedded := false, tag := "", pkgPath := "", byteOffset := 22 }, { name := "Kind_", type := 267, offset := 6, embedded := false, tag := "", pkgPath := "", byteOffset := 23 }, { name := "Equal", type := 268, offset := 7, embedded := false, tag := "", pkgPath := "", byteOffset := 24 }, { name := "GCData", type := 269, offset := 8, embedded := false, tag := "", pkgPath := "", byteOffset := 32 }, { name := "Str", type := 270, offset := 9, embedded := false, tag := "", pkgPath := "", byteOffset := 40 }, { name := "PtrToThis", type := 271, offset := 10, embedded := false, tag := "", pkgPath := "", byteOffset := 44 }]) 11 48 (.agg ⟨[.int .u64 0, .int .u64 0, .int .u32 0, .int .u8 0, .int .u8 0, .int .u8 0, .int .u8 0, .nilFunc, .pointer none, .int .i32 0, .int .i32 0]⟩) := ⟨Tryz.underlying272, by kernel_rfl⟩
instance : Ty Tryz.prog 273 (TypeDesc.struct #[{ name := "Size_", type := 12, offset := 0, embedded := false, tag := "", pkgPath := "", byteOffset := 0 }, { name := "PtrBytes", type := 12, offset := 1, embedded := false, tag := "", pkgPath := "", byteOffset := 8 }, { name := "Hash", type := 62, offset := 2, embedded := false, tag := "", pkgPath := "", byteOffset := 16 }, { name := "TFlag", type := 266, offset := 3, embedded := false, tag := "", pkgPath := "", byteOffset := 20 }, { name := "Align_", type := 5, offset := 4, embedded := false, tag := "", pkgPath := "", byteOffset := 21 }, { name := "FieldAlign_", type := 5, offset := 5, embedded := false, tag := "", pkgPath := "", byteOffset := 22 }, { name := "Kind_", type := 267, offset := 6, embedded := false, tag := "", pkgPath := "", byteOffset := 23 }, { name := "Equal", type := 268, offset := 7, embedded := false, tag := "", pkgPath := "", byteOffset := 24 }, { name := "GCData", type := 269, offset := 8, embedded := false, tag := "", pkgPath := "", byteOffset := 32 }, { name := "Str", type := 270, offset := 9, embedded := false, tag := "", pkgPath := "", byteOffset := 40 }, { name := "PtrToThis", type := 271, offset := 10, embedded := false, tag := "", pkgPath := "", byteOffset := 44 }]) 11 48 (.agg ⟨[.int .u64 0, .int .u64 0, .int .u32 0, .int .u8 0, .int .u8 0, .int .u8 0, .int .u8 0, .nilFunc, .pointer none, .int .i32 0, .int .i32 0]⟩) := ⟨Tryz.underlying273, by kernel_rfl⟩
instance : Ty Tryz.prog 274 (TypeDesc.unsafePointer) 1 8 (.pointer none) := ⟨Tryz.underlying274, by kernel_rfl⟩
instance : Fld Tryz.prog 7 0 0 := Fld.mk' (ft := 2) rfl rfl
instance : Fld Tryz.prog 7 1 1 := Fld.mk' (ft := 3) rfl rfl
instance : Fld Tryz.prog 7 2 2 := Fld.mk' (ft := 4) rfl rfl
instance : Fld Tryz.prog 7 3 3 := Fld.mk' (ft := 6) rfl rfl
instance : Fld Tryz.prog 8 0 0 := Fld.mk' (ft := 2) rfl rfl
instance : Fld Tryz.prog 8 1 1 := Fld.mk' (ft := 3) rfl rfl
instance : Fld Tryz.prog 8 2 2 := Fld.mk' (ft := 4) rfl rfl
instance : Fld Tryz.prog 8 3 3 := Fld.mk' (ft := 6) rfl rfl
instance : Fld Tryz.prog 13 0 0 := Fld.mk' (ft := 9) rfl rfl
instance : Fld Tryz.prog 13 1 1 := Fld.mk' (ft := 12) rfl rfl
instance : Fld Tryz.prog 14 0 0 := Fld.mk' (ft := 9) rfl rfl
instance : Fld Tryz.prog 14 1 1 := Fld.mk' (ft := 12) rfl rfl
instance : Fld Tryz.prog 18 0 0 := Fld.mk' (ft := 17) rfl rfl
instance : Fld Tryz.prog 19 0 0 := Fld.mk' (ft := 17) rfl rfl
instance : Fld Tryz.prog 23 0 0 := Fld.mk' (ft := 3) rfl rfl
instance : Fld Tryz.prog 23 1 1 := Fld.mk' (ft := 3) rfl rfl
instance : Fld Tryz.prog 24 0 0 := Fld.mk' (ft := 3) rfl rfl
instance : Fld Tryz.prog 24 1 1 := Fld.mk' (ft := 3) rfl rfl
instance : Fld Tryz.prog 26 0 0 := Fld.mk' (ft := 3) rfl rfl
instance : Fld Tryz.prog 26 1 1 := Fld.mk' (ft := 9) rfl rfl
instance : Fld Tryz.prog 26 2 2 := Fld.mk' (ft := 9) rfl rfl
instance : Fld Tryz.prog 26 3 3 := Fld.mk' (ft := 3) rfl rfl
instance : Fld Tryz.prog 27 0 0 := Fld.mk' (ft := 3) rfl rfl
instance : Fld Tryz.prog 27 1 1 := Fld.mk' (ft := 9) rfl rfl
instance : Fld Tryz.prog 27 2 2 := Fld.mk' (ft := 9) rfl rfl
instance : Fld Tryz.prog 27 3 3 := Fld.mk' (ft := 3) rfl rfl
instance : Fld Tryz.prog 28 0 0 := Fld.mk' (ft := 24) rfl rfl
instance : Fld Tryz.prog 28 1 2 := Fld.mk' (ft := 3) rfl rfl
instance : Fld Tryz.prog 28 2 3 := Fld.mk' (ft := 25) rfl rfl
instance : Fld Tryz.prog 28 3 4 := Fld.mk' (ft := 27) rfl rfl
instance : Fld Tryz.prog 29 0 0 := Fld.mk' (ft := 24) rfl rfl
instance : Fld Tryz.prog 29 1 2 := Fld.mk' (ft := 3) rfl rfl
instance : Fld Tryz.prog 29 2 3 := Fld.mk' (ft := 25) rfl rfl
instance : Fld Tryz.prog 29 3 4 := Fld.mk' (ft := 27) rfl rfl
instance : Fld Tryz.prog 49 0 0 := Fld.mk' (ft := 3) rfl rfl
instance : Fld Tryz.prog 49 1 1 := Fld.mk' (ft := 22) rfl rfl
instance : Fld Tryz.prog 49 2 2 := Fld.mk' (ft := 3) rfl rfl
instance : Fld Tryz.prog 49 3 3 := Fld.mk' (ft := 35) rfl rfl
instance : Fld Tryz.prog 49 4 4 := Fld.mk' (ft := 35) rfl rfl
instance : Fld Tryz.prog 49 5 5 := Fld.mk' (ft := 3) rfl rfl
instance : Fld Tryz.prog 49 6 6 := Fld.mk' (ft := 4) rfl rfl
instance : Fld Tryz.prog 49 7 7 := Fld.mk' (ft := 45) rfl rfl
instance : Fld Tryz.prog 49 8 8 := Fld.mk' (ft := 3) rfl rfl
instance : Fld Tryz.prog 49 9 9 := Fld.mk' (ft := 3) rfl rfl
instance : Fld Tryz.prog 50 0 0 := Fld.mk' (ft := 3) rfl rfl
instance : Fld Tryz.prog 50 1 1 := Fld.mk' (ft := 22) rfl rfl
instance : Fld Tryz.prog 50 2 2 := Fld.mk' (ft := 3) rfl rfl
instance : Fld Tryz.prog 50 3 3 := Fld.mk' (ft := 35) rfl rfl
instance : Fld Tryz.prog 50 4 4 := Fld.mk' (ft := 35) rfl rfl
instance : Fld Tryz.prog 50 5 5 := Fld.mk' (ft := 3) rfl rfl
instance : Fld Tryz.prog 50 6 6 := Fld.mk' (ft := 4) rfl rfl
instance : Fld Tryz.prog 50 7 7 := Fld.mk' (ft := 45) rfl rfl
instance : Fld Tryz.prog 50 8 8 := Fld.mk' (ft := 3) rfl rfl
instance : Fld Tryz.prog 50 9 9 := Fld.mk' (ft := 3) rfl rfl
instance : Fld Tryz.prog 51 0 0 := Fld.mk' (ft := 3) rfl rfl
instance : Fld Tryz.prog 51 1 1 := Fld.mk' (ft := 25) rfl rfl
instance : Fld Tryz.prog 51 2 2 := Fld.mk' (ft := 35) rfl rfl
instance : Fld Tryz.prog 52 0 0 := Fld.mk' (ft := 3) rfl rfl
instance : Fld Tryz.prog 52 1 1 := Fld.mk' (ft := 25) rfl rfl
instance : Fld Tryz.prog 52 2 2 := Fld.mk' (ft := 35) rfl rfl
instance : Fld Tryz.prog 100 0 0 := Fld.mk' (ft := 98) rfl rfl
instance : Fld Tryz.prog 100 1 1 := Fld.mk' (ft := 99) rfl rfl
instance : Fld Tryz.prog 101 0 0 := Fld.mk' (ft := 98) rfl rfl
instance : Fld Tryz.prog 101 1 1 := Fld.mk' (ft := 99) rfl rfl
instance : Fld Tryz.prog 111 0 0 := Fld.mk' (ft := 50) rfl rfl
instance : Fld Tryz.prog 111 1 10 := Fld.mk' (ft := 52) rfl rfl
instance : Fld Tryz.prog 111 2 13 := Fld.mk' (ft := 4) rfl rfl
instance : Fld Tryz.prog 112 0 0 := Fld.mk' (ft := 50) rfl rfl
instance : Fld Tryz.prog 112 1 10 := Fld.mk' (ft := 52) rfl rfl
instance : Fld Tryz.prog 112 2 13 := Fld.mk' (ft := 4) rfl rfl
instance : Fld Tryz.prog 133 0 0 := Fld.mk' (ft := 50) rfl rfl
instance : Fld Tryz.prog 134 0 0 := Fld.mk' (ft := 50) rfl rfl
instance : Fld Tryz.prog 135 0 0 := Fld.mk' (ft := 134) rfl rfl
instance : Fld Tryz.prog 136 0 0 := Fld.mk' (ft := 134) rfl rfl
instance : Fld Tryz.prog 151 0 0 := Fld.mk' (ft := 22) rfl rfl
instance : Fld Tryz.prog 151 1 1 := Fld.mk' (ft := 4) rfl rfl
instance : Fld Tryz.prog 152 0 0 := Fld.mk' (ft := 22) rfl rfl
instance : Fld Tryz.prog 152 1 1 := Fld.mk' (ft := 4) rfl rfl
instance : Fld Tryz.prog 196 0 0 := Fld.mk' (ft := 176) rfl rfl
instance : Fld Tryz.prog 196 1 1 := Fld.mk' (ft := 194) rfl rfl
instance : Fld Tryz.prog 196 2 2 := Fld.mk' (ft := 195) rfl rfl
instance : Fld Tryz.prog 197 0 0 := Fld.mk' (ft := 176) rfl rfl
instance : Fld Tryz.prog 197 1 1 := Fld.mk' (ft := 194) rfl rfl
instance : Fld Tryz.prog 197 2 2 := Fld.mk' (ft := 195) rfl rfl
instance : Fld Tryz.prog 206 0 0 := Fld.mk' (ft := 22) rfl rfl
instance : Fld Tryz.prog 207 0 0 := Fld.mk' (ft := 22) rfl rfl
instance : Fld Tryz.prog 260 0 0 := Fld.mk' (ft := 17) rfl rfl
instance : Fld Tryz.prog 260 1 1 := Fld.mk' (ft := 17) rfl rfl
instance : Fld Tryz.prog 260 2 2 := Fld.mk' (ft := 17) rfl rfl
instance : Fld Tryz.prog 260 3 3 := Fld.mk' (ft := 9) rfl rfl
instance : Fld Tryz.prog 261 0 0 := Fld.mk' (ft := 17) rfl rfl
instance : Fld Tryz.prog 261 1 1 := Fld.mk' (ft := 17) rfl rfl
instance : Fld Tryz.prog 261 2 2 := Fld.mk' (ft := 17) rfl rfl
instance : Fld Tryz.prog 261 3 3 := Fld.mk' (ft := 9) rfl rfl
instance : Fld Tryz.prog 272 0 0 := Fld.mk' (ft := 12) rfl rfl
instance : Fld Tryz.prog 272 1 1 := Fld.mk' (ft := 12) rfl rfl
instance : Fld Tryz.prog 272 2 2 := Fld.mk' (ft := 62) rfl rfl
instance : Fld Tryz.prog 272 3 3 := Fld.mk' (ft := 266) rfl rfl
instance : Fld Tryz.prog 272 4 4 := Fld.mk' (ft := 5) rfl rfl
instance : Fld Tryz.prog 272 5 5 := Fld.mk' (ft := 5) rfl rfl
instance : Fld Tryz.prog 272 6 6 := Fld.mk' (ft := 267) rfl rfl
instance : Fld Tryz.prog 272 7 7 := Fld.mk' (ft := 268) rfl rfl
instance : Fld Tryz.prog 272 8 8 := Fld.mk' (ft := 269) rfl rfl
instance : Fld Tryz.prog 272 9 9 := Fld.mk' (ft := 270) rfl rfl
instance : Fld Tryz.prog 272 10 10 := Fld.mk' (ft := 271) rfl rfl
instance : Fld Tryz.prog 273 0 0 := Fld.mk' (ft := 12) rfl rfl
instance : Fld Tryz.prog 273 1 1 := Fld.mk' (ft := 12) rfl rfl
instance : Fld Tryz.prog 273 2 2 := Fld.mk' (ft := 62) rfl rfl
instance : Fld Tryz.prog 273 3 3 := Fld.mk' (ft := 266) rfl rfl
instance : Fld Tryz.prog 273 4 4 := Fld.mk' (ft := 5) rfl rfl
instance : Fld Tryz.prog 273 5 5 := Fld.mk' (ft := 5) rfl rfl
instance : Fld Tryz.prog 273 6 6 := Fld.mk' (ft := 267) rfl rfl
instance : Fld Tryz.prog 273 7 7 := Fld.mk' (ft := 268) rfl rfl
instance : Fld Tryz.prog 273 8 8 := Fld.mk' (ft := 269) rfl rfl
instance : Fld Tryz.prog 273 9 9 := Fld.mk' (ft := 270) rfl rfl
instance : Fld Tryz.prog 273 10 10 := Fld.mk' (ft := 271) rfl rfl
instance : Plain Tryz.prog 24 := ⟨by kernel_rfl, by kernel_rfl⟩
instance : Plain Tryz.prog 27 := ⟨by kernel_rfl, by kernel_rfl⟩
instance : Plain Tryz.prog 29 := ⟨by kernel_rfl, by kernel_rfl⟩
instance : Plain Tryz.prog 50 := ⟨by kernel_rfl, by kernel_rfl⟩
instance : Plain Tryz.prog 52 := ⟨by kernel_rfl, by kernel_rfl⟩
instance : Plain Tryz.prog 80 := ⟨by kernel_rfl, by kernel_rfl⟩
instance : Plain Tryz.prog 81 := ⟨by kernel_rfl, by kernel_rfl⟩
instance : Plain Tryz.prog 101 := ⟨by kernel_rfl, by kernel_rfl⟩
instance : Plain Tryz.prog 112 := ⟨by kernel_rfl, by kernel_rfl⟩
instance : Plain Tryz.prog 134 := ⟨by kernel_rfl, by kernel_rfl⟩
instance : Plain Tryz.prog 136 := ⟨by kernel_rfl, by kernel_rfl⟩
instance : Plain Tryz.prog 152 := ⟨by kernel_rfl, by kernel_rfl⟩
instance : Plain Tryz.prog 182 := ⟨by kernel_rfl, by kernel_rfl⟩
instance : Plain Tryz.prog 186 := ⟨by kernel_rfl, by kernel_rfl⟩
instance : Plain Tryz.prog 197 := ⟨by kernel_rfl, by kernel_rfl⟩
instance : Plain Tryz.prog 203 := ⟨by kernel_rfl, by kernel_rfl⟩
instance : Plain Tryz.prog 207 := ⟨by kernel_rfl, by kernel_rfl⟩
instance : Plain Tryz.prog 224 := ⟨by kernel_rfl, by kernel_rfl⟩
instance : Plain Tryz.prog 226 := ⟨by kernel_rfl, by kernel_rfl⟩
instance : Plain Tryz.prog 262 := ⟨by kernel_rfl, by kernel_rfl⟩
instance : NotBlank "Align_" := ⟨by decide⟩
instance : NotBlank "B" := ⟨by decide⟩
instance : NotBlank "Bad" := ⟨by decide⟩
instance : NotBlank "Commits" := ⟨by decide⟩
instance : NotBlank "Disk" := ⟨by decide⟩
instance : NotBlank "Elem" := ⟨by decide⟩
instance : NotBlank "Equal" := ⟨by decide⟩
instance : NotBlank "Ev" := ⟨by decide⟩
instance : NotBlank "FieldAlign_" := ⟨by decide⟩
instance : NotBlank "GCData" := ⟨by decide⟩
instance : NotBlank "Gen" := ⟨by decide⟩
instance : NotBlank "Hash" := ⟨by decide⟩
instance : NotBlank "IDs" := ⟨by decide⟩
instance : NotBlank "Key" := ⟨by decide⟩
instance : NotBlank "Kind" := ⟨by decide⟩
instance : NotBlank "Kind_" := ⟨by decide⟩
instance : NotBlank "L" := ⟨by decide⟩
instance : NotBlank "Miss" := ⟨by decide⟩
instance : NotBlank "N" := ⟨by decide⟩
instance : NotBlank "Next" := ⟨by decide⟩
instance : NotBlank "No" := ⟨by decide⟩
instance : NotBlank "Node" := ⟨by decide⟩
instance : NotBlank "Op" := ⟨by decide⟩
instance : NotBlank "Parents" := ⟨by decide⟩
instance : NotBlank "Peers" := ⟨by decide⟩
instance : NotBlank "PtrBytes" := ⟨by decide⟩
instance : NotBlank "PtrToThis" := ⟨by decide⟩
instance : NotBlank "Room" := ⟨by decide⟩
instance : NotBlank "Seq" := ⟨by decide⟩
instance : NotBlank "Size_" := ⟨by decide⟩
instance : NotBlank "Str" := ⟨by decide⟩
instance : NotBlank "TFlag" := ⟨by decide⟩
instance : NotBlank "Up" := ⟨by decide⟩
instance : NotBlank "Wait" := ⟨by decide⟩
instance : NotBlank "_interface" := ⟨by decide⟩
instance : NotBlank "addr" := ⟨by decide⟩
instance : NotBlank "asserted" := ⟨by decide⟩
instance : NotBlank "b" := ⟨by decide⟩
instance : NotBlank "code" := ⟨by decide⟩
instance : NotBlank "concrete" := ⟨by decide⟩
instance : NotBlank "disk" := ⟨by decide⟩
instance : NotBlank "get" := ⟨by decide⟩
instance : NotBlank "knows" := ⟨by decide⟩
instance : NotBlank "may" := ⟨by decide⟩
instance : NotBlank "missingMethod" := ⟨by decide⟩
instance : NotBlank "msg" := ⟨by decide⟩
instance : NotBlank "n" := ⟨by decide⟩
instance : NotBlank "of" := ⟨by decide⟩
instance : NotBlank "out" := ⟨by decide⟩
instance : NotBlank "put" := ⟨by decide⟩
instance : NotBlank "signed" := ⟨by decide⟩
instance : NotBlank "tell" := ⟨by decide⟩
instance : NotBlank "typ" := ⟨by decide⟩
instance : NotBlank "x" := ⟨by decide⟩
instance : NotBlank "y" := ⟨by decide⟩
instance : MKey Tryz.prog 3 intV := MKey.int (by kernel_rfl)
instance : MKey Tryz.prog 81 idV := MKey.id (e := 5) ⟨by kernel_rfl, by kernel_rfl, by kernel_rfl, by kernel_rfl⟩ (by kernel_rfl) ⟨274, by kernel_rfl⟩
instance : Body Tryz.prog 3 := Body.of Tryz.func3 (by kernel_rfl) (by kernel_rfl)
instance : Body Tryz.prog 4 := Body.of Tryz.func4 (by kernel_rfl) (by kernel_rfl)
instance : Body Tryz.prog 5 := Body.of Tryz.func5 (by kernel_rfl) (by kernel_rfl)
instance : Body Tryz.prog 6 := Body.of Tryz.func6 (by kernel_rfl) (by kernel_rfl)
instance : Body Tryz.prog 7 := Body.of Tryz.func7 (by kernel_rfl) (by kernel_rfl)
instance : Body Tryz.prog 8 := Body.of Tryz.func8 (by kernel_rfl) (by kernel_rfl)
instance : Body Tryz.prog 9 := Body.of Tryz.func9 (by kernel_rfl) (by kernel_rfl)
instance : Body Tryz.prog 10 := Body.of Tryz.func10 (by kernel_rfl) (by kernel_rfl)
instance : Body Tryz.prog 11 := Body.of Tryz.func11 (by kernel_rfl) (by kernel_rfl)
instance : Body Tryz.prog 12 := Body.of Tryz.func12 (by kernel_rfl) (by kernel_rfl)
instance : Body Tryz.prog 13 := Body.of Tryz.func13 (by kernel_rfl) (by kernel_rfl)
instance : Body Tryz.prog 14 := Body.of Tryz.func14 (by kernel_rfl) (by kernel_rfl)
instance : Body Tryz.prog 15 := Body.of Tryz.func15 (by kernel_rfl) (by kernel_rfl)
instance : Body Tryz.prog 16 := Body.of Tryz.func16 (by kernel_rfl) (by kernel_rfl)
instance : Body Tryz.prog 17 := Body.of Tryz.func17 (by kernel_rfl) (by kernel_rfl)
instance : Body Tryz.prog 18 := Body.of Tryz.func18 (by kernel_rfl) (by kernel_rfl)
instance : Body Tryz.prog 19 := Body.of Tryz.func19 (by kernel_rfl) (by kernel_rfl)
instance : Body Tryz.prog 20 := Body.of Tryz.func20 (by kernel_rfl) (by kernel_rfl)
instance : Body Tryz.prog 21 := Body.of Tryz.func21 (by kernel_rfl) (by kernel_rfl)
instance : Body Tryz.prog 22 := Body.of Tryz.func22 (by kernel_rfl) (by kernel_rfl)
instance : Body Tryz.prog 23 := Body.of Tryz.func23 (by kernel_rfl) (by kernel_rfl)
instance : Body Tryz.prog 24 := Body.of Tryz.func24 (by kernel_rfl) (by kernel_rfl)
instance : Body Tryz.prog 25 := Body.of Tryz.func25 (by kernel_rfl) (by kernel_rfl)
instance : Body Tryz.prog 26 := Body.of Tryz.func26 (by kernel_rfl) (by kernel_rfl)
instance : Body Tryz.prog 27 := Body.of Tryz.func27 (by kernel_rfl) (by kernel_rfl)
instance : Body Tryz.prog 28 := Body.of Tryz.func28 (by kernel_rfl) (by kernel_rfl)
instance : Body Tryz.prog 29 := Body.of Tryz.func29 (by kernel_rfl) (by kernel_rfl)
instance : Body Tryz.prog 30 := Body.of Tryz.func30 (by kernel_rfl) (by kernel_rfl)
instance : Body Tryz.prog 31 := Body.of Tryz.func31 (by kernel_rfl) (by kernel_rfl)
instance : Body Tryz.prog 32 := Body.of Tryz.func32 (by kernel_rfl) (by kernel_rfl)
instance : Body Tryz.prog 33 := Body.of Tryz.func33 (by kernel_rfl) (by kernel_rfl)
instance : Body Tryz.prog 34 := Body.of Tryz.func34 (by kernel_rfl) (by kernel_rfl)
instance : Body Tryz.prog 35 := Body.of Tryz.func35 (by kernel_rfl) (by kernel_rfl)
instance : Body Tryz.prog 36 := Body.of Tryz.func36 (by kernel_rfl) (by kernel_rfl)
instance : Body Tryz.prog 37 := Body.of Tryz.func37 (by kernel_rfl) (by kernel_rfl)
instance : Body Tryz.prog 38 := Body.of Tryz.func38 (by kernel_rfl) (by kernel_rfl)
instance : Body Tryz.prog 39 := Body.of Tryz.func39 (by kernel_rfl) (by kernel_rfl)
instance : Body Tryz.prog 40 := Body.of Tryz.func40 (by kernel_rfl) (by kernel_rfl)
instance : Body Tryz.prog 41 := Body.of Tryz.func41 (by kernel_rfl) (by kernel_rfl)
instance : Body Tryz.prog 42 := Body.of Tryz.func42 (by kernel_rfl) (by kernel_rfl)
instance : Body Tryz.prog 43 := Body.of Tryz.func43 (by kernel_rfl) (by kernel_rfl)
instance : Body Tryz.prog 44 := Body.of Tryz.func44 (by kernel_rfl) (by kernel_rfl)
instance : Body Tryz.prog 45 := Body.of Tryz.func45 (by kernel_rfl) (by kernel_rfl)
instance : Body Tryz.prog 46 := Body.of Tryz.func46 (by kernel_rfl) (by kernel_rfl)
instance : Body Tryz.prog 47 := Body.of Tryz.func47 (by kernel_rfl) (by kernel_rfl)
instance : Body Tryz.prog 48 := Body.of Tryz.func48 (by kernel_rfl) (by kernel_rfl)
instance : Body Tryz.prog 49 := Body.of Tryz.func49 (by kernel_rfl) (by kernel_rfl)
instance : Body Tryz.prog 50 := Body.of Tryz.func50 (by kernel_rfl) (by kernel_rfl)
instance : Body Tryz.prog 51 := Body.of Tryz.func51 (by kernel_rfl) (by kernel_rfl)
instance : Body Tryz.prog 52 := Body.of Tryz.func52 (by kernel_rfl) (by kernel_rfl)
instance : Body Tryz.prog 53 := Body.of Tryz.func53 (by kernel_rfl) (by kernel_rfl)
instance : Body Tryz.prog 54 := Body.of Tryz.func54 (by kernel_rfl) (by kernel_rfl)
instance : Body Tryz.prog 55 := Body.of Tryz.func55 (by kernel_rfl) (by kernel_rfl)
instance : Body Tryz.prog 56 := Body.of Tryz.func56 (by kernel_rfl) (by kernel_rfl)
instance : Body Tryz.prog 57 := Body.of Tryz.func57 (by kernel_rfl) (by kernel_rfl)
instance : Body Tryz.prog 58 := Body.of Tryz.func58 (by kernel_rfl) (by kernel_rfl)
instance : Body Tryz.prog 59 := Body.of Tryz.func59 (by kernel_rfl) (by kernel_rfl)
instance : Body Tryz.prog 60 := Body.of Tryz.func60 (by kernel_rfl) (by kernel_rfl)
instance : Body Tryz.prog 61 := Body.of Tryz.func61 (by kernel_rfl) (by kernel_rfl)
instance : Body Tryz.prog 62 := Body.of Tryz.func62 (by kernel_rfl) (by kernel_rfl)
instance : Body Tryz.prog 63 := Body.of Tryz.func63 (by kernel_rfl) (by kernel_rfl)
instance : Body Tryz.prog 64 := Body.of Tryz.func64 (by kernel_rfl) (by kernel_rfl)
instance : Body Tryz.prog 65 := Body.of Tryz.func65 (by kernel_rfl) (by kernel_rfl)
instance : Body Tryz.prog 66 := Body.of Tryz.func66 (by kernel_rfl) (by kernel_rfl)
instance : Body Tryz.prog 67 := Body.of Tryz.func67 (by kernel_rfl) (by kernel_rfl)
instance : Body Tryz.prog 68 := Body.of Tryz.func68 (by kernel_rfl) (by kernel_rfl)
instance : Body Tryz.prog 69 := Body.of Tryz.func69 (by kernel_rfl) (by kernel_rfl)
instance : Body Tryz.prog 70 := Body.of Tryz.func70 (by kernel_rfl) (by kernel_rfl)
instance : Body Tryz.prog 71 := Body.of Tryz.func71 (by kernel_rfl) (by kernel_rfl)
instance : Body Tryz.prog 72 := Body.of Tryz.func72 (by kernel_rfl) (by kernel_rfl)
instance : Body Tryz.prog 73 := Body.of Tryz.func73 (by kernel_rfl) (by kernel_rfl)
instance : Body Tryz.prog 74 := Body.of Tryz.func74 (by kernel_rfl) (by kernel_rfl)
instance : Body Tryz.prog 75 := Body.of Tryz.func75 (by kernel_rfl) (by kernel_rfl)
instance : Body Tryz.prog 76 := Body.of Tryz.func76 (by kernel_rfl) (by kernel_rfl)
instance : Body Tryz.prog 77 := Body.of Tryz.func77 (by kernel_rfl) (by kernel_rfl)
instance : Body Tryz.prog 78 := Body.of Tryz.func78 (by kernel_rfl) (by kernel_rfl)
instance : Body Tryz.prog 79 := Body.of Tryz.func79 (by kernel_rfl) (by kernel_rfl)
instance : Body Tryz.prog 80 := Body.of Tryz.func80 (by kernel_rfl) (by kernel_rfl)
instance : Body Tryz.prog 81 := Body.of Tryz.func81 (by kernel_rfl) (by kernel_rfl)
instance : Body Tryz.prog 82 := Body.of Tryz.func82 (by kernel_rfl) (by kernel_rfl)
instance : Body Tryz.prog 83 := Body.of Tryz.func83 (by kernel_rfl) (by kernel_rfl)
instance : Body Tryz.prog 84 := Body.of Tryz.func84 (by kernel_rfl) (by kernel_rfl)
instance : Body Tryz.prog 85 := Body.of Tryz.func85 (by kernel_rfl) (by kernel_rfl)
instance : Body Tryz.prog 86 := Body.of Tryz.func86 (by kernel_rfl) (by kernel_rfl)
instance : Body Tryz.prog 87 := Body.of Tryz.func87 (by kernel_rfl) (by kernel_rfl)
instance : Body Tryz.prog 88 := Body.of Tryz.func88 (by kernel_rfl) (by kernel_rfl)
instance : Body Tryz.prog 89 := Body.of Tryz.func89 (by kernel_rfl) (by kernel_rfl)
instance : Body Tryz.prog 90 := Body.of Tryz.func90 (by kernel_rfl) (by kernel_rfl)
instance : Body Tryz.prog 91 := Body.of Tryz.func91 (by kernel_rfl) (by kernel_rfl)
instance : Body Tryz.prog 92 := Body.of Tryz.func92 (by kernel_rfl) (by kernel_rfl)
instance : Body Tryz.prog 93 := Body.of Tryz.func93 (by kernel_rfl) (by kernel_rfl)
instance : Body Tryz.prog 94 := Body.of Tryz.func94 (by kernel_rfl) (by kernel_rfl)
instance : Body Tryz.prog 95 := Body.of Tryz.func95 (by kernel_rfl) (by kernel_rfl)
instance : Body Tryz.prog 96 := Body.of Tryz.func96 (by kernel_rfl) (by kernel_rfl)
instance : Body Tryz.prog 97 := Body.of Tryz.func97 (by kernel_rfl) (by kernel_rfl)
instance : Body Tryz.prog 98 := Body.of Tryz.func98 (by kernel_rfl) (by kernel_rfl)
instance : Body Tryz.prog 99 := Body.of Tryz.func99 (by kernel_rfl) (by kernel_rfl)
instance : Body Tryz.prog 100 := Body.of Tryz.func100 (by kernel_rfl) (by kernel_rfl)
instance : Body Tryz.prog 101 := Body.of Tryz.func101 (by kernel_rfl) (by kernel_rfl)
instance : Body Tryz.prog 102 := Body.of Tryz.func102 (by kernel_rfl) (by kernel_rfl)
instance : Body Tryz.prog 103 := Body.of Tryz.func103 (by kernel_rfl) (by kernel_rfl)
instance : Body Tryz.prog 104 := Body.of Tryz.func104 (by kernel_rfl) (by kernel_rfl)
instance : Body Tryz.prog 105 := Body.of Tryz.func105 (by kernel_rfl) (by kernel_rfl)
instance : Body Tryz.prog 106 := Body.of Tryz.func106 (by kernel_rfl) (by kernel_rfl)
instance : Body Tryz.prog 107 := Body.of Tryz.func107 (by kernel_rfl) (by kernel_rfl)
instance : Body Tryz.prog 108 := Body.of Tryz.func108 (by kernel_rfl) (by kernel_rfl)
instance : Body Tryz.prog 109 := Body.of Tryz.func109 (by kernel_rfl) (by kernel_rfl)
instance : Body Tryz.prog 110 := Body.of Tryz.func110 (by kernel_rfl) (by kernel_rfl)
instance : Body Tryz.prog 111 := Body.of Tryz.func111 (by kernel_rfl) (by kernel_rfl)
instance : Body Tryz.prog 112 := Body.of Tryz.func112 (by kernel_rfl) (by kernel_rfl)
instance : Body Tryz.prog 113 := Body.of Tryz.func113 (by kernel_rfl) (by kernel_rfl)
instance : Body Tryz.prog 114 := Body.of Tryz.func114 (by kernel_rfl) (by kernel_rfl)
instance : Body Tryz.prog 115 := Body.of Tryz.func115 (by kernel_rfl) (by kernel_rfl)
instance : Body Tryz.prog 116 := Body.of Tryz.func116 (by kernel_rfl) (by kernel_rfl)
instance : Body Tryz.prog 117 := Body.of Tryz.func117 (by kernel_rfl) (by kernel_rfl)
instance : Body Tryz.prog 118 := Body.of Tryz.func118 (by kernel_rfl) (by kernel_rfl)
instance : Body Tryz.prog 119 := Body.of Tryz.func119 (by kernel_rfl) (by kernel_rfl)
instance : Body Tryz.prog 120 := Body.of Tryz.func120 (by kernel_rfl) (by kernel_rfl)
instance : Body Tryz.prog 121 := Body.of Tryz.func121 (by kernel_rfl) (by kernel_rfl)
instance : Body Tryz.prog 122 := Body.of Tryz.func122 (by kernel_rfl) (by kernel_rfl)
instance : Body Tryz.prog 123 := Body.of Tryz.func123 (by kernel_rfl) (by kernel_rfl)
instance : Body Tryz.prog 124 := Body.of Tryz.func124 (by kernel_rfl) (by kernel_rfl)
instance : Body Tryz.prog 125 := Body.of Tryz.func125 (by kernel_rfl) (by kernel_rfl)
instance : Body Tryz.prog 126 := Body.of Tryz.func126 (by kernel_rfl) (by kernel_rfl)
instance : Body Tryz.prog 127 := Body.of Tryz.func127 (by kernel_rfl) (by kernel_rfl)
instance : Body Tryz.prog 128 := Body.of Tryz.func128 (by kernel_rfl) (by kernel_rfl)
instance : Body Tryz.prog 129 := Body.of Tryz.func129 (by kernel_rfl) (by kernel_rfl)
instance : Body Tryz.prog 130 := Body.of Tryz.func130 (by kernel_rfl) (by kernel_rfl)
instance : Body Tryz.prog 131 := Body.of Tryz.func131 (by kernel_rfl) (by kernel_rfl)
instance : Body Tryz.prog 132 := Body.of Tryz.func132 (by kernel_rfl) (by kernel_rfl)
instance : Body Tryz.prog 133 := Body.of Tryz.func133 (by kernel_rfl) (by kernel_rfl)
instance : Body Tryz.prog 134 := Body.of Tryz.func134 (by kernel_rfl) (by kernel_rfl)
instance : Body Tryz.prog 135 := Body.of Tryz.func135 (by kernel_rfl) (by kernel_rfl)
instance : Body Tryz.prog 136 := Body.of Tryz.func136 (by kernel_rfl) (by kernel_rfl)
instance : Body Tryz.prog 137 := Body.of Tryz.func137 (by kernel_rfl) (by kernel_rfl)
instance : Body Tryz.prog 138 := Body.of Tryz.func138 (by kernel_rfl) (by kernel_rfl)
instance : Body Tryz.prog 139 := Body.of Tryz.func139 (by kernel_rfl) (by kernel_rfl)
instance : Body Tryz.prog 141 := Body.of Tryz.func141 (by kernel_rfl) (by kernel_rfl)
instance : Body Tryz.prog 142 := Body.of Tryz.func142 (by kernel_rfl) (by kernel_rfl)
instance : Body Tryz.prog 143 := Body.of Tryz.func143 (by kernel_rfl) (by kernel_rfl)
instance : Body Tryz.prog 144 := Body.of Tryz.func144 (by kernel_rfl) (by kernel_rfl)
instance : Body Tryz.prog 145 := Body.of Tryz.func145 (by kernel_rfl) (by kernel_rfl)
instance : Body Tryz.prog 146 := Body.of Tryz.func146 (by kernel_rfl) (by kernel_rfl)
instance : Body Tryz.prog 147 := Body.of Tryz.func147 (by kernel_rfl) (by kernel_rfl)
instance : Body Tryz.prog 148 := Body.of Tryz.func148 (by kernel_rfl) (by kernel_rfl)
instance : Body Tryz.prog 149 := Body.of Tryz.func149 (by kernel_rfl) (by kernel_rfl)
instance : Body Tryz.prog 150 := Body.of Tryz.func150 (by kernel_rfl) (by kernel_rfl)
instance : Body Tryz.prog 151 := Body.of Tryz.func151 (by kernel_rfl) (by kernel_rfl)
instance : Body Tryz.prog 152 := Body.of Tryz.func152 (by kernel_rfl) (by kernel_rfl)
instance : Body Tryz.prog 153 := Body.of Tryz.func153 (by kernel_rfl) (by kernel_rfl)
instance : Body Tryz.prog 154 := Body.of Tryz.func154 (by kernel_rfl) (by kernel_rfl)
instance : Body Tryz.prog 155 := Body.of Tryz.func155 (by kernel_rfl) (by kernel_rfl)
instance : Body Tryz.prog 156 := Body.of Tryz.func156 (by kernel_rfl) (by kernel_rfl)
instance : Body Tryz.prog 157 := Body.of Tryz.func157 (by kernel_rfl) (by kernel_rfl)
instance : Body Tryz.prog 158 := Body.of Tryz.func158 (by kernel_rfl) (by kernel_rfl)
instance : Body Tryz.prog 159 := Body.of Tryz.func159 (by kernel_rfl) (by kernel_rfl)
instance : Body Tryz.prog 160 := Body.of Tryz.func160 (by kernel_rfl) (by kernel_rfl)
instance : Body Tryz.prog 161 := Body.of Tryz.func161 (by kernel_rfl) (by kernel_rfl)
instance : Body Tryz.prog 162 := Body.of Tryz.func162 (by kernel_rfl) (by kernel_rfl)
instance : Body Tryz.prog 163 := Body.of Tryz.func163 (by kernel_rfl) (by kernel_rfl)
instance : Body Tryz.prog 164 := Body.of Tryz.func164 (by kernel_rfl) (by kernel_rfl)
instance : Body Tryz.prog 165 := Body.of Tryz.func165 (by kernel_rfl) (by kernel_rfl)
instance : Body Tryz.prog 166 := Body.of Tryz.func166 (by kernel_rfl) (by kernel_rfl)
instance : Body Tryz.prog 167 := Body.of Tryz.func167 (by kernel_rfl) (by kernel_rfl)
instance : Body Tryz.prog 168 := Body.of Tryz.func168 (by kernel_rfl) (by kernel_rfl)
instance : Body Tryz.prog 169 := Body.of Tryz.func169 (by kernel_rfl) (by kernel_rfl)
instance : Body Tryz.prog 170 := Body.of Tryz.func170 (by kernel_rfl) (by kernel_rfl)
instance : Body Tryz.prog 171 := Body.of Tryz.func171 (by kernel_rfl) (by kernel_rfl)
instance : Body Tryz.prog 172 := Body.of Tryz.func172 (by kernel_rfl) (by kernel_rfl)
instance : Body Tryz.prog 173 := Body.of Tryz.func173 (by kernel_rfl) (by kernel_rfl)
instance : Body Tryz.prog 174 := Body.of Tryz.func174 (by kernel_rfl) (by kernel_rfl)
instance : Body Tryz.prog 175 := Body.of Tryz.func175 (by kernel_rfl) (by kernel_rfl)
instance : Body Tryz.prog 176 := Body.of Tryz.func176 (by kernel_rfl) (by kernel_rfl)
instance : Body Tryz.prog 177 := Body.of Tryz.func177 (by kernel_rfl) (by kernel_rfl)
instance : Body Tryz.prog 178 := Body.of Tryz.func178 (by kernel_rfl) (by kernel_rfl)
instance : Body Tryz.prog 179 := Body.of Tryz.func179 (by kernel_rfl) (by kernel_rfl)
instance : Body Tryz.prog 180 := Body.of Tryz.func180 (by kernel_rfl) (by kernel_rfl)
instance : Body Tryz.prog 181 := Body.of Tryz.func181 (by kernel_rfl) (by kernel_rfl)
instance : Body Tryz.prog 182 := Body.of Tryz.func182 (by kernel_rfl) (by kernel_rfl)
instance : Body Tryz.prog 183 := Body.of Tryz.func183 (by kernel_rfl) (by kernel_rfl)
instance : Body Tryz.prog 184 := Body.of Tryz.func184 (by kernel_rfl) (by kernel_rfl)
instance : Body Tryz.prog 185 := Body.of Tryz.func185 (by kernel_rfl) (by kernel_rfl)
instance : Body Tryz.prog 186 := Body.of Tryz.func186 (by kernel_rfl) (by kernel_rfl)
instance : Body Tryz.prog 187 := Body.of Tryz.func187 (by kernel_rfl) (by kernel_rfl)
instance : Body Tryz.prog 188 := Body.of Tryz.func188 (by kernel_rfl) (by kernel_rfl)
instance : Body Tryz.prog 189 := Body.of Tryz.func189 (by kernel_rfl) (by kernel_rfl)
instance : Body Tryz.prog 190 := Body.of Tryz.func190 (by kernel_rfl) (by kernel_rfl)
instance : Body Tryz.prog 191 := Body.of Tryz.func191 (by kernel_rfl) (by kernel_rfl)
instance : Body Tryz.prog 192 := Body.of Tryz.func192 (by kernel_rfl) (by kernel_rfl)
instance : Body Tryz.prog 193 := Body.of Tryz.func193 (by kernel_rfl) (by kernel_rfl)
instance : Body Tryz.prog 194 := Body.of Tryz.func194 (by kernel_rfl) (by kernel_rfl)
instance : Body Tryz.prog 195 := Body.of Tryz.func195 (by kernel_rfl) (by kernel_rfl)
instance : Body Tryz.prog 196 := Body.of Tryz.func196 (by kernel_rfl) (by kernel_rfl)
instance : Body Tryz.prog 197 := Body.of Tryz.func197 (by kernel_rfl) (by kernel_rfl)
instance : Body Tryz.prog 198 := Body.of Tryz.func198 (by kernel_rfl) (by kernel_rfl)
instance : Body Tryz.prog 199 := Body.of Tryz.func199 (by kernel_rfl) (by kernel_rfl)
instance : Body Tryz.prog 200 := Body.of Tryz.func200 (by kernel_rfl) (by kernel_rfl)
instance : Body Tryz.prog 201 := Body.of Tryz.func201 (by kernel_rfl) (by kernel_rfl)
instance : Body Tryz.prog 202 := Body.of Tryz.func202 (by kernel_rfl) (by kernel_rfl)
instance : Body Tryz.prog 203 := Body.of Tryz.func203 (by kernel_rfl) (by kernel_rfl)
instance : Body Tryz.prog 204 := Body.of Tryz.func204 (by kernel_rfl) (by kernel_rfl)
instance : Body Tryz.prog 205 := Body.of Tryz.func205 (by kernel_rfl) (by kernel_rfl)
instance : Body Tryz.prog 206 := Body.of Tryz.func206 (by kernel_rfl) (by kernel_rfl)
instance : Body Tryz.prog 207 := Body.of Tryz.func207 (by kernel_rfl) (by kernel_rfl)
instance : Body Tryz.prog 208 := Body.of Tryz.func208 (by kernel_rfl) (by kernel_rfl)
instance : Body Tryz.prog 209 := Body.of Tryz.func209 (by kernel_rfl) (by kernel_rfl)
instance : Body Tryz.prog 210 := Body.of Tryz.func210 (by kernel_rfl) (by kernel_rfl)
instance : Body Tryz.prog 211 := Body.of Tryz.func211 (by kernel_rfl) (by kernel_rfl)
instance : Body Tryz.prog 212 := Body.of Tryz.func212 (by kernel_rfl) (by kernel_rfl)
instance : Body Tryz.prog 213 := Body.of Tryz.func213 (by kernel_rfl) (by kernel_rfl)
instance : Body Tryz.prog 214 := Body.of Tryz.func214 (by kernel_rfl) (by kernel_rfl)
instance : Body Tryz.prog 215 := Body.of Tryz.func215 (by kernel_rfl) (by kernel_rfl)
instance : Body Tryz.prog 217 := Body.of Tryz.func217 (by kernel_rfl) (by kernel_rfl)
instance : Body Tryz.prog 218 := Body.of Tryz.func218 (by kernel_rfl) (by kernel_rfl)
instance : Body Tryz.prog 219 := Body.of Tryz.func219 (by kernel_rfl) (by kernel_rfl)
instance : Body Tryz.prog 220 := Body.of Tryz.func220 (by kernel_rfl) (by kernel_rfl)
instance : Body Tryz.prog 221 := Body.of Tryz.func221 (by kernel_rfl) (by kernel_rfl)
instance : Body Tryz.prog 222 := Body.of Tryz.func222 (by kernel_rfl) (by kernel_rfl)
instance : Body Tryz.prog 223 := Body.of Tryz.func223 (by kernel_rfl) (by kernel_rfl)
instance : Body Tryz.prog 224 := Body.of Tryz.func224 (by kernel_rfl) (by kernel_rfl)
instance : Body Tryz.prog 225 := Body.of Tryz.func225 (by kernel_rfl) (by kernel_rfl)
instance : Body Tryz.prog 226 := Body.of Tryz.func226 (by kernel_rfl) (by kernel_rfl)
instance : Body Tryz.prog 227 := Body.of Tryz.func227 (by kernel_rfl) (by kernel_rfl)
instance : Body Tryz.prog 228 := Body.of Tryz.func228 (by kernel_rfl) (by kernel_rfl)
instance : Body Tryz.prog 229 := Body.of Tryz.func229 (by kernel_rfl) (by kernel_rfl)
instance : Body Tryz.prog 230 := Body.of Tryz.func230 (by kernel_rfl) (by kernel_rfl)
instance : Body Tryz.prog 231 := Body.of Tryz.func231 (by kernel_rfl) (by kernel_rfl)
instance : Body Tryz.prog 232 := Body.of Tryz.func232 (by kernel_rfl) (by kernel_rfl)
instance : Body Tryz.prog 233 := Body.of Tryz.func233 (by kernel_rfl) (by kernel_rfl)
instance : Body Tryz.prog 234 := Body.of Tryz.func234 (by kernel_rfl) (by kernel_rfl)
instance : Body Tryz.prog 235 := Body.of Tryz.func235 (by kernel_rfl) (by kernel_rfl)
instance : Body Tryz.prog 236 := Body.of Tryz.func236 (by kernel_rfl) (by kernel_rfl)
instance : Body Tryz.prog 237 := Body.of Tryz.func237 (by kernel_rfl) (by kernel_rfl)
instance : Body Tryz.prog 238 := Body.of Tryz.func238 (by kernel_rfl) (by kernel_rfl)
instance : Body Tryz.prog 239 := Body.of Tryz.func239 (by kernel_rfl) (by kernel_rfl)
instance : Body Tryz.prog 240 := Body.of Tryz.func240 (by kernel_rfl) (by kernel_rfl)
instance : Body Tryz.prog 241 := Body.of Tryz.func241 (by kernel_rfl) (by kernel_rfl)
instance : Body Tryz.prog 242 := Body.of Tryz.func242 (by kernel_rfl) (by kernel_rfl)
instance : Body Tryz.prog 243 := Body.of Tryz.func243 (by kernel_rfl) (by kernel_rfl)
instance : Body Tryz.prog 244 := Body.of Tryz.func244 (by kernel_rfl) (by kernel_rfl)
instance : Body Tryz.prog 245 := Body.of Tryz.func245 (by kernel_rfl) (by kernel_rfl)
instance : Body Tryz.prog 246 := Body.of Tryz.func246 (by kernel_rfl) (by kernel_rfl)
instance : Body Tryz.prog 247 := Body.of Tryz.func247 (by kernel_rfl) (by kernel_rfl)
instance : Body Tryz.prog 248 := Body.of Tryz.func248 (by kernel_rfl) (by kernel_rfl)
instance : Body Tryz.prog 249 := Body.of Tryz.func249 (by kernel_rfl) (by kernel_rfl)
instance : Body Tryz.prog 250 := Body.of Tryz.func250 (by kernel_rfl) (by kernel_rfl)
instance : Body Tryz.prog 251 := Body.of Tryz.func251 (by kernel_rfl) (by kernel_rfl)
instance : Body Tryz.prog 252 := Body.of Tryz.func252 (by kernel_rfl) (by kernel_rfl)
instance : Body Tryz.prog 253 := Body.of Tryz.func253 (by kernel_rfl) (by kernel_rfl)
instance : Body Tryz.prog 254 := Body.of Tryz.func254 (by kernel_rfl) (by kernel_rfl)
instance : Body Tryz.prog 255 := Body.of Tryz.func255 (by kernel_rfl) (by kernel_rfl)
instance : Body Tryz.prog 256 := Body.of Tryz.func256 (by kernel_rfl) (by kernel_rfl)
instance : Body Tryz.prog 257 := Body.of Tryz.func257 (by kernel_rfl) (by kernel_rfl)
instance : Body Tryz.prog 258 := Body.of Tryz.func258 (by kernel_rfl) (by kernel_rfl)
instance : Body Tryz.prog 259 := Body.of Tryz.func259 (by kernel_rfl) (by kernel_rfl)
instance : Body Tryz.prog 260 := Body.of Tryz.func260 (by kernel_rfl) (by kernel_rfl)
instance : Body Tryz.prog 261 := Body.of Tryz.func261 (by kernel_rfl) (by kernel_rfl)
instance : Body Tryz.prog 262 := Body.of Tryz.func262 (by kernel_rfl) (by kernel_rfl)
instance : Body Tryz.prog 264 := Body.of Tryz.func264 (by kernel_rfl) (by kernel_rfl)
instance drOff : Dr := ⟨False⟩
theorem mixed : Tryz.prog.follows .mixedOrders = true := Checked.mixed Tryz.checked
end Ab
end Go.Proofs.YtdgeffphifgflaaGreat
namespace Go.Proofs.YtdgeffphifgflaaGreat
namespace Ab
open Go Go.RowKit Go.Shelf Go.Proofs
set_option linter.unusedVariables false
set_option linter.unusedSimpArgs false
attribute [local go_sem] Oper.semAt_some
def numF : Nat → Nat → List UInt8
  | 0, n => [UInt8.ofNat n]
  | f + 1, n => if 127 < n then (UInt8.ofNat n ||| 128) :: numF f (n / 128) else [UInt8.ofNat n]
def numL (n : Nat) : List UInt8 := numF 9 n
theorem numF_length : ∀ (f n : Nat), (numF f n).length ≤ f + 1
  | 0, _ => by simp [numF]
  | f + 1, n => by
    simp only [numF]
    split
    · have := numF_length f (n / 128)
      simp only [List.length_cons]; omega
    · simp
theorem numL_length (n : Nat) : (numL n).length ≤ 10 := numF_length 9 n
theorem low_digit {n : Nat} (h : n ≤ 127) : ((UInt8.ofNat n).toNat : Int) = (n : Int) := by rw [UInt8.toNat_ofNat']; omega
theorem or_digit (n : Nat) : ((UInt8.ofNat n ||| 128).toNat : Int) = bits BinOp.or IntKind.u8 ((n : Int) % 256) 128 := by
  have h1 : ((n : Int) % 256) = ((n % 256 : Nat) : Int) := by omega
  have h2 := u8_or_nat (n % 256) 128 (by omega) (by omega)
  rw [h1]
  refine Eq.trans ?_ h2.symm
  rw [UInt8.toNat_or, UInt8.toNat_ofNat']
  rfl
def fuelOf (W : World) (bx : Nat) : Nat := match W.cell? ⟨bx, 0, none⟩ with
  | some (.int _ k) => k.toNat
  | _ => 0
set_option maxRecDepth 100000 in
set_option maxHeartbeats 1000000 in
theorem digits1_in (l bx m : Nat) (hm : m < 18446744073709551616) (t : TypeId) (J : List UInt8 → World → Prop)
    (hJ : ∀ s W v, J s W → Boxed W bx t v → ∀ v', J s (W.setCell ⟨bx, 0, none⟩ v'))
    (hY : ∀ pre x W v, pre ++ [x] <+: numL m → J pre W → Boxed W bx t v → YieldAt Fence.wide 2 Tryz.prog l #[.int .u8 ((x : UInt8).toNat : Int)] W fun e W' =>
      e = .returned (.bool true) ∧ J (pre ++ [x]) W' ∧ Boxed W' bx t v)
    (W : World) (hB : Boxed W bx t (.int .u64 (m : Int))) (h0 : J [] W) :
    CallsIn Fence.wide 3 Tryz.prog 215 #[.func (.yield l) #[] #[], .pointer (some ⟨bx, 0, none⟩)] W fun e W' => (∃ v, e = .returned v) ∧ J (numL m) W' := by
  refine callsIn_of_wp Tryz.func215 rfl trivial ?_ rfl
  simp only [Tryz.ntmps215, List.size_toArray, List.length_cons, List.length_nil, Nat.reduceAdd, Nat.reduceSub, Array.replicate_succ, Array.replicate_zero, List.push_toArray, List.append_toArray, List.nil_append, List.cons_append]
  gi_wp2
  gi_loopw [] (fun wr => ∃ (pre : List UInt8) (f n : Nat), n < 128 ^ (f + 1) ∧ n < 18446744073709551616 ∧ Boxed wr bx t (.int .u64 (n : Int)) ∧ numL m = pre ++ numF f n ∧ J pre wr) (fun wr => fuelOf wr bx)
  case atStart =>
    exact ⟨[], 9, m, by omega, hm, hB, rfl, h0⟩
  case round =>
    obtain ⟨pre, f, n, hf, hn, hB, hL, hJs⟩ := hrel
    have hc := hB.cell
    have hfz := hB.frozen
    by_cases h127 : 127 < n
    · have hgt : (127 : Int) < (n : Int) := by omega
      obtain ⟨fn, tmps, assign, body, hy, hR⟩ := hY pre (UInt8.ofNat n ||| 128) wr _ (by
        cases f with
        | zero => simp at hf; omega
        | succ f => exact ⟨numF f (n / 128), by rw [hL, numF, if_pos h127]; simp⟩) hJs hB
      rw [or_digit] at hy
      gi_wp2
      refine hR.mono ?_
      rintro e W3 ⟨rfl, hJ3, hB3⟩
      have hc3 := hB3.cell
      have hfz3 := hB3.frozen
      gi_wp2
      have hdiv : ((n : Int) / 128) = ((n / 128 : Nat) : Int) := by omega
      go_roundw
      case rel =>
        rw [hdiv]
        cases f with
        | zero => simp at hf; omega
        | succ f =>
          refine ⟨pre ++ [UInt8.ofNat n ||| 128], f, n / 128, ?_, by omega, hB3.set _, ?_, hJ _ _ _ hJ3 hB3 _⟩
          · rw [Nat.pow_succ] at hf; omega
          · rw [hL, numF, if_pos h127]; simp
      case measure =>
        rw [hdiv]
        simp only [fuelOf, (hB3.set _).cell, hc, Int.toNat_natCast]
        omega
    · have hgt : ¬ (127 : Int) < (n : Int) := by omega
      have hlast : numF f n = [UInt8.ofNat n] := by
        cases f with
        | zero => rfl
        | succ f => rw [numF, if_neg h127]
      rw [hlast] at hL
      obtain ⟨fn, tmps, assign, body, hy, hR⟩ := hY pre (UInt8.ofNat n) wr _ ⟨[], by rw [hL]; simp⟩ hJs hB
      rw [low_digit (by omega)] at hy
      gi_wp2
      refine hR.mono ?_
      rintro e W3 ⟨rfl, hJ3, hB3⟩
      gi_wp2
      go_end0
      rw [hL]
      exact ⟨⟨_, rfl⟩, hJ3⟩
set_option maxHeartbeats 1000000 in
theorem digits_in (m : Nat) (w : World) :
    CallsIn Fence.wide 3 Tryz.prog 173 #[.int .u64 (m : Int)] w fun e w' => e = .returned (.func (.func 215) #[] #[.pointer (some ⟨w.heap.size, 0, none⟩)]) ∧ w' = w.alloc (.cells #[.int .u64 (m : Int)] 144) := by
  refine callsIn_of_wp Tryz.func173 rfl trivial ?_ rfl
  simp only [Tryz.ntmps173, List.size_toArray, List.length_cons, List.length_nil, Nat.reduceAdd, Nat.reduceSub, Array.replicate_succ, Array.replicate_zero, List.push_toArray, List.append_toArray, List.nil_append, List.cons_append]
  gi_wp2
  go_ret
  exact ⟨rfl, rfl⟩
theorem info_byte : (Tryz.prog.info? 5).map (fun i => (i.zero, i.size, i.bytes)) = some (some (.int .u8 0), 1, 1) := by kernel_rfl
set_option maxRecDepth 100000 in
set_option maxHeartbeats 2000000 in
theorem num_in (m : Nat) (hm : m < 18446744073709551616) (w : World) :
    CallsIn Fence.wide 4 Tryz.prog 113 #[.int .u64 (m : Int)] w fun e W' => ∃ v, e = .returned v ∧ W'.ownsRow w.heap.size 5 1 v (numL m).length ((numL m).map byteV) ∧ Below w.heap.size w W' := by
  obtain ⟨i0, hi, hz0, hz1, hz2⟩ := info_parts info_byte
  refine callsIn_of_wp_marks Tryz.func113 rfl trivial ?_ rfl
  simp only [Tryz.ntmps113, List.size_toArray, List.length_cons, List.length_nil, Nat.reduceAdd, Nat.reduceSub, Array.replicate_succ, Array.replicate_zero, List.push_toArray, List.append_toArray, List.nil_append, List.cons_append]
  gi_wp2
  refine ⟨trivial, (digits_in m _).mono ?_⟩
  rintro e w' ⟨rfl, rfl⟩
  gi_wp2
  obtain ⟨w1, hw1⟩ : ∃ w1, (w.alloc (.cells #[.slice none 0 0] 22)).alloc (.cells #[.int .u64 (m : Int)] 144) = w1 := ⟨_, rfl⟩
  have hsz : w1.heap.size = w.heap.size + 2 := by rw [← hw1]; simp
  have bO : Boxed w1 w.heap.size 22 (.slice none 0 0) := by rw [← hw1]; exact (Boxed.new w _ _).alloc _
  have bN : Boxed w1 (w.heap.size + 1) 144 (.int .u64 (m : Int)) := by
    rw [← hw1]
    have := Boxed.new (w.alloc (.cells #[.slice none 0 0] 22)) 144 (.int .u64 (m : Int))
    rwa [World.size_alloc] at this
  have hB0 : Below w.heap.size w w1 := by rw [← hw1]; exact ((Below.refl _ w).alloc (Nat.le_refl _) _).alloc (by simp) _
  rw [hw1]
  clear hw1
  refine wpIn_rangeFunc_box rfl (by decide) (gf := 215) (lb := #[.pointer (some ⟨w.heap.size + 1, 0, none⟩)]) rfl trivial (enters_of Tryz.func215 (by kernel_rfl) rfl)
    (encs := fun x : UInt8 => #[.int .u8 (x.toNat : Int)]) (xs := numL m) (bx := w.heap.size + 1) (t := 144) (vx := .int .u64 (m : Int))
    (fun l J hJ hY W hB h0 => digits1_in l _ m hm _ J hJ hY W hB h0) (fun _ => rfl) bN
    (fun pre W => (∃ v, Boxed W w.heap.size 22 v ∧ W.ownsRow w.heap.size 5 1 v pre.length (pre.map byteV)) ∧ Below w.heap.size w W)
    ?hIp ?hIa ?hIx ⟨⟨_, bO, World.ownsRow_nil _ _ _ _⟩, hB0⟩
    (fun x => { tmps := #[.int .u64 (m : Int), undef, .slice none 0 0, .pointer (some ⟨w.heap.size, 0, none⟩), .int .u8 (x.toNat : Int), .int .u64 (m : Int), .func (.func 215) #[] #[.pointer (some ⟨w.heap.size + 1, 0, none⟩)], .int .u8 (x.toNat : Int), undef, undef, undef, undef, undef], defers := [] }) ?assign ?body ?done
  case hIp =>
    rintro s W k o o' ⟨⟨v, hv, hr⟩, hB⟩ hk ho hc
    refine ⟨⟨v, hv.kept (grownBy_putObj' W k o') (fun e => by injection e; omega), ownsRow_putObj hr o' ho hc⟩, ?_⟩
    exact hB.grown (grownBy_putObj' W k o') (by have := (Array.getElem?_eq_some_iff.1 ho).1; omega) (fun j e => by cases e; omega)
  case hIa =>
    rintro s W o ⟨⟨v, hv, hr⟩, hB⟩ hk
    exact ⟨⟨v, hv.alloc _, hr.alloc _⟩, hB.alloc (by omega) _⟩
  case hIx =>
    rintro s W u ⟨⟨v, hv, hr⟩, hB⟩ hb u'
    exact ⟨⟨v, hv.kept (grownBy_setCell' W _ u') (fun e => by injection e; omega), hr.kept (grownBy_setCell' W _ u') (.inr (hb.not_row (by decide) hr).symm)⟩, hB.setCell (p := ⟨w.heap.size + 1, 0, none⟩) (by simp) _⟩
  case assign =>
    intro l x W K hK
    gi_wp2
    exact hK
  case body =>
    rintro l pre x W u hpre ⟨⟨v, hv, hrow⟩, hB⟩ hbx hW
    have hc := hv.cell
    have hpl : pre.length ≤ 10 := by
      have h1 := List.IsPrefix.length_le hpre
      have h2 := numL_length m
      simp at h1
      omega
    gi_wp2_with (gi_at_builtin; refine wpListIn_append_own _ rfl _ _ 22 rfl w.heap.size 5 i0 (.int .u8 0) 1 1 Tryz.underlying22 hi hz0 hz1 hz2 rfl (by decide) _ _ _ rfl (hrow.alloc _) ⟨W.heap.size, 0, none⟩ 1 1 [.int .u8 (x.toNat : Int)] rfl rfl (cell_one_new _ _ _) (by simp [Value.oneCell']) (by simp only [maxLen]; omega) (by omega) (by have := hB.size; simp; omega) ?_; intro v' w1' hown' hgrow _; obtain ⟨g', cap', rfl⟩ := ownsRow_succ hown'; obtain ⟨hv1, hv2, hr2, hk2, hb2⟩ := hv.appended (by decide) hrow hB.size (Nat.le_refl _) hown' hgrow; have hc1 := hv1.cell; have hf1 := hv1.frozen)
    refine ⟨hk2, ?_, ⟨_, hv2, by simpa [byteV] using hr2⟩, hB.trans hb2⟩
    have h1 := ((hbx.alloc (.cells #[.int .u8 (x.toNat : Int)] 5)).kept hgrow (hbx.not_row (by decide) hrow))
    exact h1.kept (grownBy_setCell' _ _ _) (fun e => by injection e; omega)
  case done =>
    rintro D W ⟨⟨v, hv, hrow⟩, hB⟩ hD hK
    have hc := hv.cell
    gi_wp2
    refine ⟨by simp, .inl ⟨_, _, rfl, run_takeDeferred hK, ?_⟩⟩
    exact ⟨_, results_tmp rfl _ _ _, v, rfl, ownsRow_putObj hrow _ hK rfl, hB.trans (belowK_b (w := w) (Nat.le_refl _) W D _ _ (by omega) hK rfl rfl)⟩
end Ab
end Go.Proofs.YtdgeffphifgflaaGreat
namespace Go.Proofs.YtdgeffphifgflaaGreat
namespace Ab
open Go
set_option linter.unusedVariables false
def idCmp (a b : ID) : Int := Lib.compareBytes a.1 b.1
def idLt (a b : ID) : Bool := decide (idCmp a b < 0)
theorem compareBytes_lt (a b : List UInt8) : Lib.compareBytes a b < 0 ↔ a < b := by
  induction a generalizing b with
  | nil => cases b <;> simp [Lib.compareBytes]
  | cons x a ih =>
    cases b with
    | nil => simp [Lib.compareBytes]
    | cons y b =>
      rw [List.cons_lt_cons_iff]
      unfold Lib.compareBytes
      by_cases h1 : x < y
      · simp [h1]
      · by_cases h2 : y < x
        · have : ¬ x = y := fun e => by subst e; exact h1 h2
          simp [h1, h2, this]
        · have : x = y := UInt8.le_antisymm (UInt8.not_lt.1 h2) (UInt8.not_lt.1 h1)
          subst this
          simp [ih]
theorem idLt_iff (a b : ID) : idLt a b = true ↔ a.1 < b.1 := by simp [idLt, idCmp, compareBytes_lt]
theorem idLt_irrefl (a : ID) : idLt a a = false := by
  rw [← Bool.not_eq_true, idLt_iff]; exact List.lt_irrefl _
theorem idLt_trans {a b c : ID} (h1 : idLt a b = true) (h2 : idLt b c = true) : idLt a c = true := by
  rw [idLt_iff] at *; exact List.lt_trans h1 h2
theorem idLt_asymm {a b : ID} (h : idLt a b = true) : idLt b a = false := by
  cases hb : idLt b a with
  | false => rfl
  | true => have := idLt_trans h hb; rw [idLt_irrefl] at this; cases this
theorem idLe_trans {a b c : ID} (h1 : idLt b a = false) (h2 : idLt c b = false) : idLt c a = false := by
  rw [← Bool.not_eq_true, idLt_iff] at *
  exact List.not_lt.2 (List.le_trans (List.not_lt.1 h1) (List.not_lt.1 h2))
def sortL (L : List ID) : List ID := L.mergeSort (fun x y => !idLt y x)
theorem sortL_pairwise (L : List ID) : (sortL L).Pairwise (fun x y => idLt y x = false) := by
  have := List.pairwise_mergeSort (le := fun x y => !idLt y x) (fun a b c h1 h2 => by simp at *; exact idLe_trans h1 h2) (fun a b => by
    cases h : idLt b a with
    | false => simp
    | true => simp [idLt_asymm h]) L
  simpa [sortL] using this
theorem sortL_perm' (L : List ID) : (sortL L).Perm L := List.mergeSort_perm _ _
theorem mem_sortL {L : List ID} {x : ID} : x ∈ sortL L ↔ x ∈ L := (sortL_perm' L).mem_iff
def rises : List ID → Bool
  | a :: b :: l => idLt a b && rises (b :: l)
  | _ => true
def signs : List UInt8 := [97, 98, 99, 100, 101, 102, 103, 104, 105, 106, 107, 108, 109, 110, 111, 112, 113, 114, 115, 116, 117, 118, 119, 120, 121, 122, 48, 49, 50, 51, 52, 53, 54, 55, 56, 57]
def keyOk (s : ByteArray) : Bool := s.data.toList.all (fun c => decide (c ∈ signs)) && decide (s.size ≠ 0) && decide (s.size ≤ 8)
def inB (n lo hi : Int) : Bool := decide (lo ≤ n) && decide (n ≤ hi)
def op0 : Op_ := ⟨0, .empty, .empty, 0⟩
def opMay (o : Op_) : Bool :=
  if o.kind = 0 then keyOk o.key && (decide (o.n ≠ 0) && decide (-1048576 ≤ o.n) && decide (o.n ≤ 1048576) && decide (o.elem = .empty))
  else if o.kind = 1 ∨ o.kind = 2 ∨ o.kind = 3 then keyOk o.key && (decide (o.n = 0) && keyOk o.elem)
  else false
def may (c : Commit) : Bool :=
  if !inB c.gen 1 1048576 || decide (8 < c.parents.length) || !rises c.parents || (decide (c.gen = 1) != decide (c.parents.length = 0)) then false
  else if c.ev.node = -1 then decide (2 ≤ c.parents.length) && decide (c.ev.seq = 0) && decide (c.op = op0)
  else inB c.ev.node 0 7 && inB c.ev.seq 1 1048576 && opMay c.op
def merge (c : Commit) : Bool := decide (c.ev.node = -1) && may c
end Ab
end Go.Proofs.YtdgeffphifgflaaGreat
namespace Go.Proofs.YtdgeffphifgflaaGreat
namespace Ab
open Go Go.RowKit
set_option linter.unusedVariables false
set_option linter.unusedSimpArgs false
set_option synthInstance.maxSize 4000
set_option synthInstance.maxHeartbeats 400000
attribute [local irreducible] JC JO JR JQ andThen inBlock OpV Gives retTo JM JS
theorem nil_of_none {α : Type} [Cell α] {c : Nat} {L : List α} {F : Nat → Prop} {w : World} (h : (sl none c L).holds F w) : L = [] := by
  by_cases hL : L = []
  · exact hL
  · obtain ⟨b, off, h1, _⟩ := h.2.2.2 hL; cases h1
theorem run_bytealgCompare (w : World) {a b : Option Addr} {c k : Nat} {L M : List UInt8} {F G : Nat → Prop} (h : (sl a c L).holds F w) (h' : (sl b k M).holds G w) :
    (callFunc 140 ⟨[.slice a L.length c, .slice b M.length k]⟩).run Tryz.prog w = .ok (.value (.int .i64 (Lib.compareBytes L M))) w := by
  rw [run_callFunc_extern Tryz.func140 (by kernel_rfl) (by kernel_rfl) (by kernel_rfl) (e := Extern.BytealgCompare.compare) (by kernel_rfl)]
  have : (Extern.BytealgCompare.compare ⟨[.slice a L.length c, .slice b M.length k]⟩).run Tryz.prog w = .ok (.int .i64 (Lib.compareBytes L M)) w := by
    change Sem.run Tryz.prog (do pure (goInt (Extern.BytealgCompare.cmp (← Extern.Bytes.bytesOf (.slice a L.length c)) (← Extern.Bytes.bytesOf (.slice b M.length k))))) w = _
    simp only [Sem.run_bind, run_bytesOf h, run_bytesOf h', Result.andThen_ok, Sem.run_pure, Lib.cmp_eq, goInt]
  rw [this]; rfl
theorem compare_bytes [Dr] (w : World) (F : Nat → Prop) (a b : Option Addr) (c k : Nat) (L M : List UInt8) (h : (sl a c L).holds F w) (h' : (sl b k M).holds F w) :
    GivesV Tryz.prog 73 [.slice a L.length c, .slice b M.length k] w F (.int .i64 (Lib.compareBytes L M)) := by
  refine gives_of Tryz.func73 rfl Tryz.ntmps73 rfl rfl [.st (sl a c L), .st (sl b k M)] (.start2 h h') ?_
  repeat (first|refine Wa ?_|refine Wb ?_|refine Wc ?_|refine Wd ?_|refine We rfl ?_|refine Wf (by first|exact Va|exact Vb) rfl ?_)
  refine Wf (OpV.extern fun w1 hw => run_bytealgCompare w1 (hw.get (A := sl a c L)) (hw.get (A := sl b k M))) rfl ?_
  repeat (first|refine Wa ?_|refine Wd ?_|refine We rfl ?_|refine Wf (by exact Vb) rfl ?_|refine Ws ?_)
  exact CT.done () rfl (fun w ho => ho.ent)
theorem order_ids [Dr] (w : World) (F : Nat → Prop) (a b : ID) : GivesV Tryz.prog 162 [.agg ⟨idc a⟩, .agg ⟨idc b⟩] w F (.int .i64 (idCmp a b)) := by
  refine gives_of Tryz.func162 rfl Tryz.ntmps162 rfl rfl [] (.start w F) ?_
  repeat (first|refine Wa ?_|refine Wb ?_|refine Wc ?_|refine Wd ?_|refine We rfl ?_|refine Wf (by exact Vb) rfl ?_|(refine Wh rfl ?_; intro _))
  rename_i bx by_
  refine JC.quiet mixed (by kernel_rfl) ?_
  refine Wy rfl (OpV.sliceArr (by decide)) rfl ?_
  refine Wy rfl (OpV.sliceArr (by decide)) rfl ?_
  refine JQ.call (v := .int .i64 (idCmp a b)) rfl rfl (fun w1 hw => ?_) ?_
  · have := (compare_bytes w1 (fun _ => True) (some ⟨bx, 0, none⟩) (some ⟨by_, 0, none⟩) 32 32 a.1 b.1
      (At.sl_bytes (Γ := [.own by_ _ (idc b), .own bx _ (idc a)]) inferInstance rfl hw a.2 (by decide)) (At.sl_bytes (Γ := [.own by_ _ (idc b), .own bx _ (idc a)]) inferInstance rfl hw b.2 (by decide))).any (G := fp w F [.own by_ 81 (idc b), .own bx 81 (idc a)])
    rw [a.2, b.2] at this
    exact this
  repeat (first|refine Wy rfl (by exact Vb) rfl ?_|refine WB ?_)
  repeat (first|refine Wa ?_|refine Ws ?_)
  exact CT.done () rfl (fun w ho => ho.ent)
theorem less_ids (w : World) (F : Nat → Prop) (a b : ID) : GivesV Tryz.prog 102 [.agg ⟨idc a⟩, .agg ⟨idc b⟩] w F (.bool (idLt a b)) := by
  refine gives_of Tryz.func102 rfl Tryz.ntmps102 rfl rfl [] (.start w F) ?_
  repeat (first|refine Wa ?_|refine Wb ?_|refine Wc ?_|refine Wd ?_|refine We rfl ?_|refine Wf (by first|exact Vb|exact Vc) rfl ?_|(refine Wh rfl ?_; intro _))
  refine JR.callV rfl (fun w1 hw => order_ids w1 _ a b) ?_
  repeat (first|refine Wa ?_|refine Wd ?_|refine We rfl ?_|refine Wf (by first|exact Vb|exact Vg) rfl ?_|refine Ws ?_)
  exact CT.done () rfl (fun w ho => ho.ent)
theorem rises_take (L : List ID) (k : Nat) (h1 : 1 ≤ k) (hk : k < L.length) (h : rises (L.take k) = true) : rises (L.take (k + 1)) = idLt L[k - 1] L[k] ∧ (idLt L[k - 1] L[k] = false → rises L = false) := by
  induction L generalizing k with
  | nil => simp at hk
  | cons a L ih =>
    cases L with
    | nil => simp at hk; omega
    | cons b L =>
      match k, h1 with
      | 1, _ =>
        refine ⟨by simp [rises], fun h => ?_⟩
        simp at h
        simp [rises, h]
      | k + 2, _ =>
        have h' : idLt a b = true ∧ rises ((b :: L).take (k + 1)) = true := by
          simpa [rises] using h
        obtain ⟨i1, i2⟩ := ih (k + 1) (by omega) (by simpa using hk) h'.2
        refine ⟨?_, fun hf => ?_⟩
        · simp only [List.take_succ_cons, rises, h'.1, Bool.true_and] at i1 ⊢
          simpa using i1
        · have := i2 (by simpa using hf)
          simp [rises, h'.1, this]
theorem rises_short (L : List ID) (h : L.length ≤ 1) : rises L = true := by
  match L with
  | [] => rfl
  | [_] => rfl
  | _ :: _ :: _ => simp at h
theorem rises_ids (w : World) (F : Nat → Prop) (a : Option Addr) (c : Nat) (L : List ID) (h : (sl a c L).holds F w) :
    GivesV Tryz.prog 41 [.slice a L.length c] w F (.bool (rises L)) := by
  have hL : L.length < 9223372036854775807 := by have := h.2.2.1; simp only [lim] at this; omega
  refine gives_of Tryz.func41 rfl Tryz.ntmps41 rfl rfl [.st (sl a c L)] (.start1 h) ?_
  repeat (first|refine Wa ?_|refine Wb ?_|refine Wc ?_|refine Wd ?_|refine We rfl ?_|refine Wf (by exact Vb) rfl ?_|refine Wn ?_)
  refine JC.reslot 3 (.int .i64 ((1 : Nat) : Int)) rfl ?_
  refine JC.loop1 (fun k : Nat => [(0, .slice a L.length c), (3, .int .i64 (k : Int))]) (fun _ => [.st (sl a c L)])
    (fun k => 1 ≤ k ∧ (k ≤ L.length ∨ k = 1) ∧ rises (L.take k) = true) (fun k => L.length + 1 - k) 1 ⟨Nat.le_refl _, .inr rfl, rises_short _ (by simp; omega)⟩ inferInstance ?_
  intro k ⟨h1, hk, hr⟩
  repeat (first|refine Wa ?_|refine Wb ?_|refine Wc ?_|refine Wd ?_|refine We rfl ?_|refine Wf (by first|exact Va|exact Vf|exact Vg) rfl ?_)
  refine JC.test (fun hlt => ?_) (fun hge => ?_)
  · have hlt' : k < L.length := by omega
    have hr' := rises_take L k h1 hlt' hr
    repeat (first|refine Wa ?_|refine Wb ?_|refine Wl ?_|refine Wn ?_)
    refine JC.openID (.slice a L.length c) (k - 1) (by omega) ?_
    intro b1 o1
    refine JC.openID (.slice a L.length c) k hlt' ?_
    intro b2 o2
    refine JC.quiet mixed (by kernel_rfl) ?_
    repeat (refine Wy rfl (by first|exact Va|exact Vc|exact Ve|exact Vu (by omega)) rfl ?_)
    refine JQ.call rfl rfl (fun w1 hw => less_ids w1 _ _ _) ?_
    repeat (first|refine Wy rfl (by exact Vh) rfl ?_|refine WB ?_)
    repeat (refine Wa ?_)
    refine JC.test (fun hne => ?_) (fun heq2 => ?_)
    · repeat (first|refine Wa ?_|refine Wb ?_|refine Wc ?_|refine Wd ?_|refine We rfl ?_|refine Wf (by exact Vb) rfl ?_|refine Ws ?_|refine Wt ?_|refine Wu ?_)
      refine CT.done () ?_ (fun w ho => ho.ent)
      simp [packed, hr'.2 (by simpa using hne)]
    · repeat (first|refine Wa ?_|refine Wc ?_|refine Wd ?_|refine We rfl ?_|refine Wf (by first|exact Va|exact Vb|exact Vk (by omega)) rfl ?_|refine Wl ?_|refine Wr ?_)
      exact ⟨k + 1, ⟨by omega, .inl (by omega), by rw [hr'.1]; simpa using heq2⟩, by omega, inferInstance⟩
  · repeat (first|refine Wa ?_|refine Wb ?_|refine Wc ?_|refine Wd ?_|refine We rfl ?_|refine Wf (by exact Vb) rfl ?_|refine Wm ?_|refine Wo ?_|refine Wp ?_|refine Ws ?_)
    refine CT.done () ?_ (fun w ho => ho.ent)
    have : rises L = true := by
      rcases hk with hk | hk
      · rwa [List.take_of_length_le (by omega)] at hr
      · exact rises_short L (by omega)
    simp [packed, this]
theorem run_bytealgIndexByteString (w : World) (s : ByteArray) (c : UInt8) :
    (callFunc 263 ⟨[.string s, .int .u8 (c.toNat : Int)]⟩).run Tryz.prog w = .ok (.value (.int .i64 (Lib.indexByte s.data.toList c))) w := by
  rw [run_callFunc_extern Tryz.func263 (by kernel_rfl) (by kernel_rfl) (by kernel_rfl) (e := Extern.BytealgIndexByte.indexByte) (by kernel_rfl), Lib.run_indexByteString]
  simp
theorem liteIndexByte (w : World) (F : Nat → Prop) (s : ByteArray) (c : UInt8) : GivesV Tryz.prog 259 [.string s, .int .u8 (c.toNat : Int)] w F (.int .i64 (Lib.indexByte s.data.toList c)) := by
  refine gives_of Tryz.func259 rfl Tryz.ntmps259 rfl rfl [] (.start w F) ?_
  repeat (first|refine Wa ?_|refine Wb ?_|refine Wc ?_|refine Wd ?_|refine We rfl ?_|refine Wf (by first|exact Va|exact Vb) rfl ?_)
  refine Wf (OpV.extern fun w1 hw => run_bytealgIndexByteString w1 s c) rfl ?_
  repeat (first|refine Wa ?_|refine Wd ?_|refine We rfl ?_|refine Wf (by exact Vb) rfl ?_|refine Ws ?_)
  exact CT.done () rfl (fun w ho => ho.ent)
theorem indexByte_strings (w : World) (F : Nat → Prop) (s : ByteArray) (c : UInt8) : GivesV Tryz.prog 243 [.string s, .int .u8 (c.toNat : Int)] w F (.int .i64 (Lib.indexByte s.data.toList c)) := by
  refine gives_of Tryz.func243 rfl Tryz.ntmps243 rfl rfl [] (.start w F) ?_
  repeat (first|refine Wa ?_|refine Wb ?_|refine Wc ?_|refine Wd ?_|refine We rfl ?_|refine Wf (by first|exact Va|exact Vb) rfl ?_)
  refine JR.callV rfl (fun w1 hw => liteIndexByte w1 _ s c) ?_
  repeat (first|refine Wa ?_|refine Wd ?_|refine We rfl ?_|refine Wf (by exact Vb) rfl ?_|refine Ws ?_)
  exact CT.done () rfl (fun w ho => ho.ent)
theorem indexByte_neg (l : List UInt8) (c : UInt8) : Lib.indexByte l c < 0 ↔ c ∉ l := by
  induction l with
  | nil => simp [Lib.indexByte]
  | cons b l ih =>
    have := Lib.indexByte_ge l c
    unfold Lib.indexByte
    by_cases hb : b = c
    · simp [hb]
    · have hb' : ¬ c = b := fun h => hb h.symm
      simp only [beq_iff_eq, hb, if_false, List.mem_cons, hb', false_or]
      split
      · rename_i h; rw [← ih]; simp [h]
      · rename_i h; rw [← ih]; omega
theorem key_ops (w : World) (F : Nat → Prop) (s : ByteArray) (hs : s.size < 4611686018427387904) : GivesV Tryz.prog 202 [.string s] w F (.bool (keyOk s)) := by
  refine gives_of Tryz.func202 rfl Tryz.ntmps202 rfl rfl [] (.start w F) ?_
  repeat (first|refine Wa ?_|refine Wb ?_|refine Wc ?_|refine Wd ?_|refine We rfl ?_|refine Wf (by first|exact Va|exact Vb|exact Vw) rfl ?_|refine Wn ?_)
  refine JC.loop1 (fun k : Nat => [(0, .string s), (5, .int .i64 (s.size : Int)), (6, .int .i64 (k : Int))]) (fun _ => [])
    (fun k => k ≤ s.size ∧ (s.data.toList.take k).all (fun c => decide (c ∈ signs)) = true) (fun k => s.size - k) 0 ⟨Nat.zero_le _, by simp⟩ inferInstance ?_
  intro k ⟨hk, hin⟩
  have hlen : s.data.toList.length = s.size := rfl
  repeat (first|refine Wa ?_|refine Wb ?_|refine Wc ?_|refine Wd ?_|refine We rfl ?_|refine Wf (by exact Vg) rfl ?_)
  refine JC.test (fun hlt => ?_) (fun hge => ?_)
  · have hlt' : k < s.size := by omega
    have hget : s.data.toList[k]'(by omega) = s[k] := rfl
    repeat (first|refine Wa ?_|refine Wb ?_|refine Wc ?_|refine Wd ?_|refine We rfl ?_|refine Wf (by first|exact Va|exact Vb) rfl ?_|refine Wl ?_|refine Wn ?_)
    refine Wf (OpV.indexStr hlt') rfl ?_
    repeat (refine We rfl ?_)
    refine JR.callV rfl (fun w1 hw => indexByte_strings w1 _ _ _) ?_
    repeat (first|refine Wa ?_|refine Wd ?_|refine We rfl ?_|refine Wf (by exact Vg) rfl ?_)
    refine JC.test (fun hneg => ?_) (fun hpos => ?_)
    · repeat (first|refine Wa ?_|refine Wb ?_|refine Wc ?_|refine Wd ?_|refine We rfl ?_|refine Wf (by exact Vb) rfl ?_|refine Ws ?_|refine Wt ?_|refine Wu ?_)
      refine CT.done () ?_ (fun w ho => ho.ent)
      have h1 := (indexByte_neg _ _).1 hneg
      have h2 : s.data.toList.all (fun c => decide (c ∈ signs)) = false := by
        rw [List.all_eq_false]
        exact ⟨s[k], by rw [← hget]; exact List.getElem_mem _, fun h => h1 (of_decide_eq_true h)⟩
      simp [packed, keyOk, h2]
    · have h1 : s[k] ∈ signs := Classical.not_not.1 (mt (indexByte_neg _ _).2 hpos)
      repeat (first|refine Wa ?_|refine Wc ?_|refine Wd ?_|refine We rfl ?_|refine Wf (by first|exact Va|exact Vk (by omega)) rfl ?_|refine Wl ?_|refine Wr ?_)
      refine ⟨k + 1, ⟨by omega, ?_⟩, by omega, inferInstance⟩
      rw [List.take_succ_eq_append_getElem (by omega), List.all_append, hin, hget]
      simp [h1]
  · have hall : s.data.toList.all (fun c => decide (c ∈ signs)) = true := by
      rwa [List.take_of_length_le (by omega)] at hin
    repeat (first|refine Wa ?_|refine Wb ?_|refine Wc ?_|refine We rfl ?_|refine Wf (by first|exact Va|exact VC) rfl ?_|refine Wm ?_|refine Wo ?_|refine Wp ?_)
    refine JO.test 17 (fun h => ?_) (fun h => ?_)
    · repeat (first|refine Wa ?_|refine Wd ?_|refine We rfl ?_|refine Wf (by first|exact Va|exact Vb|exact Vi|exact Vn|exact Vw) rfl ?_|refine Ws ?_)
      refine CT.done () ?_ (fun w ho => ho.ent)
      have : s.size ≠ 0 := fun h0 => h (by apply ByteArray.ext; apply Array.eq_empty_of_size_eq_zero; exact h0)
      simp only [packed, keyOk, hall, Bool.true_and, this, decide_true, ne_eq, not_false_eq_true]
      simp
      omega
    · repeat (first|refine Wa ?_|refine Wd ?_|refine We rfl ?_|refine Wf (by first|exact Vb|exact Vj) rfl ?_|refine Ws ?_|refine Wv rfl rfl ?_)
      refine CT.done () ?_ (fun w ho => ho.ent)
      have : s.size = 0 := by
        have h : s = ByteArray.mk #[] := by simpa using h
        rw [h]; rfl
      simp [packed, keyOk, this]
theorem in_commit (w : World) (F : Nat → Prop) (n lo hi : Int) : GivesV Tryz.prog 159 [.int .i64 n, .int .i64 lo, .int .i64 hi] w F (.bool (inB n lo hi)) := by
  refine gives_of Tryz.func159 rfl Tryz.ntmps159 rfl rfl [] (.start w F) ?_
  repeat (first|refine Wa ?_|refine Wb ?_|refine Wc ?_|refine Wd ?_|refine We rfl ?_|refine Wf (by first|exact Va|exact Vb|exact Vp) rfl ?_)
  refine JO.test 10 (fun h => ?_) (fun h => ?_)
  · repeat (first|refine Wa ?_|refine Wd ?_|refine We rfl ?_|refine Wf (by first|exact Va|exact Vb|exact Vi|exact Vn) rfl ?_|refine Ws ?_)
    exact CT.done () (by simp [packed, inB, h]) (fun w ho => ho.ent)
  · repeat (first|refine Wa ?_|refine Wd ?_|refine We rfl ?_|refine Wf (by first|exact Vb|exact Vj) rfl ?_|refine Ws ?_|refine Wv rfl rfl ?_)
    exact CT.done () (by simp [packed, inB, h]) (fun w ho => ho.ent)
end Ab
end Go.Proofs.YtdgeffphifgflaaGreat
namespace Go.Proofs.YtdgeffphifgflaaGreat
namespace Ab
open Go Go.RowKit
set_option linter.unusedVariables false
set_option linter.unusedSimpArgs false
set_option synthInstance.maxSize 4000
set_option synthInstance.maxHeartbeats 400000
attribute [local irreducible] JC JO JR JQ andThen inBlock OpV Gives retTo JM JS
attribute [local irreducible] ents
def setOf (L : List ID) : List ID := L.foldl addK []
theorem nodup_le {S : List Nat} {n : Nat} (h : S.Nodup) (hlt : ∀ i ∈ S, i < n) : S.length ≤ n := by
  have hp : ((List.range n).filter (fun i => decide (i ∈ S))).Perm S := by
    refine (List.perm_ext_iff_of_nodup (List.nodup_range.filter _) h).2 fun i => ?_
    simp only [List.mem_filter, List.mem_range, decide_eq_true_eq]
    exact ⟨fun h => h.2, fun hi => ⟨hlt i hi, hi⟩⟩
  have := List.length_filter_le (fun i => decide (i ∈ S)) (List.range n)
  rw [hp.length_eq] at this
  simpa using this
def pickIds (b : List ID) (want : Bool) (a : List ID) : List ID := a.filter (fun x => decide (x ∈ b) == want)
def someIds (a b : List ID) (want : Bool) : List ID := sortL (setOf (pickIds b want a))
abbrev opV (o : Op_) : Value := .agg ⟨[.int .i64 o.kind, .string o.key, .string o.elem, .int .i64 o.n]⟩
def Tests (P : Program) (fid : FuncId) (p : Op_ → Bool) : Prop :=
  ∀ (w : World) (G : Nat → Prop) (o : Op_), o.key.size < 4611686018427387904 → o.elem.size < 4611686018427387904 → GivesV P fid [opV o] w G (.bool (p o))
def mayInc (o : Op_) : Bool := decide (o.n ≠ 0) && decide (-1048576 ≤ o.n) && decide (o.n ≤ 1048576) && decide (o.elem = ByteArray.mk #[])
def mayName (o : Op_) : Bool := decide (o.n = 0) && keyOk o.elem
theorem kinds1 : Tests Tryz.prog 217 mayInc := by
  intro w F o h1 h2
  refine gives_of Tryz.func217 rfl Tryz.ntmps217 rfl rfl [] (.start w F) ?_
  repeat (first|refine Wa ?_|refine Wb ?_|refine Wc ?_|refine Wd ?_|refine We rfl ?_|refine Wf (by first|exact Va|exact Vb|exact Vc|exact Vd|exact Vm) rfl ?_|(refine Wh rfl ?_; intro _))
  refine JO.test 6 (fun h => ?_) (fun h => ?_)
  · repeat (first|refine We rfl ?_|refine Wf (by first|exact Va|exact Vc|exact Vd|exact Vi|exact Vp) rfl ?_)
    refine JO.test 11 (fun h => ?_) (fun h => ?_)
    · repeat (first|refine We rfl ?_|refine Wf (by first|exact Va|exact Vc|exact Vd|exact Vi|exact Vn) rfl ?_)
      refine JO.test 16 (fun h => ?_) (fun h => ?_)
      · repeat (first|refine Wa ?_|refine Wd ?_|refine We rfl ?_|refine Wf (by first|exact Vb|exact Vc|exact Vd|exact Vi|exact VB) rfl ?_|refine Ws ?_)
        refine CT.done () ?_ (fun w ho => ho.ent)
        simp [packed, mayInc, *]
      · repeat (first|refine Wa ?_|refine Wd ?_|refine We rfl ?_|refine Wf (by first|exact Vb|exact Vj) rfl ?_|refine Ws ?_|refine Wv rfl rfl ?_)
        refine CT.done () ?_ (fun w ho => ho.ent)
        simp [packed, mayInc, *]
    · repeat (first|refine Wa ?_|refine Wd ?_|refine We rfl ?_|refine Wf (by first|exact Va|exact Vb|exact Vj) rfl ?_|refine Ws ?_|refine Wv rfl rfl ?_)
      refine CT.done () ?_ (fun w ho => ho.ent)
      simp [packed, mayInc, *]
  · repeat (first|refine Wa ?_|refine Wd ?_|refine We rfl ?_|refine Wf (by first|exact Va|exact Vb|exact Vj) rfl ?_|refine Ws ?_|refine Wv rfl rfl ?_)
    refine CT.done () ?_ (fun w ho => ho.ent)
    simp [packed, mayInc, *]
theorem kinds4 : Tests Tryz.prog 221 mayName := by
  intro w F o h1 h2
  refine gives_of Tryz.func221 rfl Tryz.ntmps221 rfl rfl [] (.start w F) ?_
  repeat (first|refine Wa ?_|refine Wb ?_|refine Wc ?_|refine Wd ?_|refine We rfl ?_|refine Wf (by first|exact Va|exact Vb|exact Vc|exact Vd|exact Vl) rfl ?_|(refine Wh rfl ?_; intro _))
  refine JO.test 6 (fun h => ?_) (fun h => ?_)
  · repeat (first|refine We rfl ?_|refine Wf (by first|exact Vc|exact Vd) rfl ?_)
    refine JR.callV rfl (fun w1 hw => key_ops w1 _ _ h2) ?_
    repeat (first|refine Wa ?_|refine Wd ?_|refine We rfl ?_|refine Wf (by first|exact Vb|exact Vi) rfl ?_|refine Ws ?_)
    refine CT.done () ?_ (fun w ho => ho.ent)
    simp [packed, mayName, *]
  · repeat (first|refine Wa ?_|refine Wd ?_|refine We rfl ?_|refine Wf (by first|exact Vb|exact Vj) rfl ?_|refine Ws ?_|refine Wv rfl rfl ?_)
    refine CT.done () ?_ (fun w ho => ho.ent)
    simp [packed, mayName, *]
abbrev fnV (f : FuncId) : Value := .func (.func f) ⟨[]⟩ ⟨[]⟩
abbrev countsV : Value := .agg ⟨[fnV 217, fnV 218, fnV 219]⟩
abbrev namesV : Value := .agg ⟨[fnV 221, fnV 222, fnV 223]⟩
def kindsM : List (Int × Value) := [] ++ [(0, countsV)] ++ [(1, namesV)] ++ [(2, namesV)] ++ [(3, namesV)]
theorem kinds_ops (w : World) (F : Nat → Prop) : Gives Tryz.prog 176 [] w F (fun b : Nat => .map (some b)) (fun b => [.omap b (ents intV kindsM) kindsM.length]) := by
  refine gives_of Tryz.func176 rfl Tryz.ntmps176 rfl rfl [] (.start w F) ?_
  repeat (first|refine Wa ?_|refine Wb ?_|refine Wc ?_|refine Wd ?_|refine We rfl ?_|refine Wf (by exact Vb) rfl ?_)
  refine Wf (OpV.build [fnV 217, fnV 218, fnV 219] (by kernel_rfl)) rfl ?_
  repeat (first|refine Wa ?_|refine Wb ?_|refine Wc ?_|refine Wd ?_|refine We rfl ?_|(refine Wg rfl ?_; intro _)|refine Wi ?_)
  refine Wf (OpV.build [fnV 221, fnV 222, fnV 223] (by kernel_rfl)) rfl ?_
  repeat (first|refine Wa ?_|refine Wb ?_|refine Wc ?_|refine Wd ?_|refine We rfl ?_|(refine Wg rfl ?_; intro _)|refine Wi ?_)
  refine JR.makeMap intV rfl ?_
  intro m
  repeat (first|refine We rfl ?_|refine Wf (by exact Vc) rfl ?_)
  refine JR.insert (0 : Int) (by decide) rfl ?_
  repeat (first|refine We rfl ?_|refine Wf (by exact Vc) rfl ?_)
  refine JR.insert (1 : Int) (by simp) (by simp [plc]) ?_
  repeat (first|refine We rfl ?_|refine Wf (by exact Vc) rfl ?_)
  refine JR.insert (2 : Int) (by simp) (by simp [plc]) ?_
  repeat (first|refine We rfl ?_|refine Wf (by exact Vc) rfl ?_)
  refine JR.insert (3 : Int) (by simp) (by simp [plc]) ?_
  repeat (first|refine Wa ?_|refine Wd ?_|refine We rfl ?_|refine Wf (by first|exact Va|exact Vb) rfl ?_|refine Ws ?_)
  exact CT.done m rfl (fun w ho => by unfold kindsM; exact ho.ent)
abbrev noneV : Value := .agg ⟨[.nilFunc, .nilFunc, .nilFunc]⟩
theorem kindsM_nodup : (kindsM.map (·.1)).Nodup := by decide
theorem kindsM_look (k : Int) : (k = 0 ∧ (gotten kindsM k).getD noneV = countsV ∧ (gotten kindsM k).isSome = true) ∨ ((k = 1 ∨ k = 2 ∨ k = 3) ∧ (gotten kindsM k).getD noneV = namesV ∧ (gotten kindsM k).isSome = true) ∨
    ((¬ k = 0 ∧ ¬ (k = 1 ∨ k = 2 ∨ k = 3)) ∧ (gotten kindsM k).getD noneV = noneV ∧ (gotten kindsM k).isSome = false) := by
  by_cases h0 : k = 0
  · subst h0; exact .inl ⟨rfl, rfl, rfl⟩
  by_cases h1 : k = 1
  · subst h1; exact .inr (.inl ⟨by simp, rfl, rfl⟩)
  by_cases h2 : k = 2
  · subst h2; exact .inr (.inl ⟨by simp, rfl, rfl⟩)
  by_cases h3 : k = 3
  · subst h3; exact .inr (.inl ⟨by simp, rfl, rfl⟩)
  refine .inr (.inr ⟨⟨h0, by simp [h1, h2, h3]⟩, ?_⟩)
  have : gotten kindsM k = none := by
    simp [gotten, kindsM, Ne.symm h0, Ne.symm h1, Ne.symm h2, Ne.symm h3]
  rw [this]; exact ⟨rfl, rfl⟩
structure KindOf (f1 : Value) (is : Bool) (o : Op_) : Prop where
  no : is = false → opMay o = false
  yes : is = true → ∃ (fid : FuncId) (_ : Body Tryz.prog fid) (p : Op_ → Bool), f1 = fnV fid ∧ Tests Tryz.prog fid p ∧ opMay o = (keyOk o.key && p o)
theorem may_ops : Tests Tryz.prog 160 opMay := by
  intro w F o hk he
  obtain ⟨f1, f2, f3, is, hone, h1, h2, hK⟩ : ∃ f1 f2 f3 is, One [f1, f2, f3] ∧ (gotten kindsM o.kind).getD noneV = .agg ⟨[f1, f2, f3]⟩ ∧ (gotten kindsM o.kind).isSome = is ∧ KindOf f1 is o := by
    rcases kindsM_look o.kind with ⟨h0, h1, h2⟩ | ⟨h0, h1, h2⟩ | ⟨h0, h1, h2⟩
    · refine ⟨_, _, _, _, inferInstance, h1, h2, nofun, fun _ => ⟨_, inferInstance, _, rfl, kinds1, ?_⟩⟩
      simp only [opMay, h0, if_true, mayInc]; rfl
    · have h3 : ¬ o.kind = 0 := by omega
      refine ⟨_, _, _, _, inferInstance, h1, h2, nofun, fun _ => ⟨_, inferInstance, _, rfl, kinds4, ?_⟩⟩
      simp only [opMay, h3, if_false, h0, if_true, mayName]
    · exact ⟨_, _, _, _, inferInstance, h1, h2, fun _ => by simp only [opMay, h0.1, if_false, h0.2], nofun⟩
  refine gives_of Tryz.func160 rfl Tryz.ntmps160 rfl rfl [] (.start w F) ?_
  repeat (first|refine Wa ?_|refine Wb ?_|refine Wc ?_|refine Wd ?_|refine We rfl ?_|refine Wf (by exact Vb) rfl ?_|(refine Wh rfl ?_; intro _))
  rename_i bo
  refine JC.draw 8 mixed ?_
  refine JM.take 1 rfl (by kernel_rfl) rfl Vd rfl rfl ?_
  refine JM.take 2 rfl (by kernel_rfl) rfl Vc rfl rfl ?_
  refine JM.two 0 7 (by kernel_rfl) rfl rfl rfl rfl rfl rfl rfl rfl (JS.call1 rfl (fun w1 hw => kinds_ops w1 _) fun m => ?_) (JS.alloc rfl fun kb => JM.one 0 (by kernel_rfl) rfl rfl rfl rfl (JS.call1 rfl (fun w1 hw => kinds_ops w1 _) fun m => ?_))
  all_goals
    refine JM.take 3 rfl (by kernel_rfl) rfl (OpV.lookupOk o.kind kindsM_nodup h1 h2) rfl rfl ?_
    refine JM.take 4 rfl (by kernel_rfl) rfl Va rfl rfl ?_
    refine JM.take 5 rfl (by kernel_rfl) rfl Vq rfl rfl ?_
  · refine JM.two 6 7 (by kernel_rfl) rfl rfl rfl rfl rfl rfl rfl rfl (JS.val Vq rfl ?_) (JS.alloc rfl fun kb => ?_)
    · refine JM.one 7 (by kernel_rfl) rfl rfl rfl rfl (JS.alloc rfl fun kb => ?_)
      refine JM.last 8 (by kernel_rfl) rfl rfl rfl (Wi (Wd ⟨rfl, ?_⟩))
      refine JM.last 9 (by kernel_rfl) rfl rfl rfl (Wf Vb rfl (Wd ⟨rfl, ?_⟩))
      refine JM.nil (by kernel_rfl) ?_
      refine Wa ?_
      refine JC.ent (e' := [(1, .pointer (some ⟨bo, 0, none⟩)), (3, .pointer (some ⟨kb, 0, none⟩)), (4, .bool is)]) (Γ' := [.own kb 197 [f1, f2, f3], .own bo 27 [.int .i64 o.kind, .string o.key, .string o.elem, .int .i64 o.n]]) inferInstance ?_
      cases is with
      | false =>
        repeat (first|refine Wa ?_|refine Wb ?_|refine Wc ?_|refine Wd ?_|refine We rfl ?_|refine Wf (by first|exact Va|exact Vb|exact Vj) rfl ?_|refine Ws ?_|refine Wv rfl rfl ?_)
        refine CT.done () ?_ (fun w ho => ho.ent)
        simp only [packed, hK.no rfl]
      | true =>
        obtain ⟨fid, hbody, p, rfl, hp, hmay⟩ := hK.yes rfl
        repeat (first|refine Wb ?_|refine Wc ?_|refine We rfl ?_|refine Wf (by first|exact Va|exact Vc|exact Vd) rfl ?_)
        refine JR.callV rfl (fun w1 hw => key_ops w1 _ _ hk) ?_
        repeat (first|refine We rfl ?_|refine Wf (by first|exact Va|exact Vi) rfl ?_)
        refine JO.test 18 (fun hy => ?_) (fun hn => ?_)
        · repeat (first|refine We rfl ?_|refine Wf (by first|exact Vc|exact Vd) rfl ?_)
          refine JR.callV rfl (fun w1 hw => hp w1 _ o hk he) ?_
          repeat (first|refine Wa ?_|refine Wd ?_|refine We rfl ?_|refine Wf (by first|exact Vb|exact Vi) rfl ?_|refine Ws ?_)
          refine CT.done () ?_ (fun w ho => ho.ent)
          simp [packed, hmay, hy]
        · repeat (first|refine Wa ?_|refine Wd ?_|refine We rfl ?_|refine Wf (by first|exact Vb|exact Vj) rfl ?_|refine Ws ?_|refine Wv rfl rfl ?_)
          refine CT.done () ?_ (fun w ho => ho.ent)
          simp [packed, hmay, hn]
    · refine JM.mix 6 8 (by kernel_rfl) rfl rfl rfl rfl rfl rfl rfl (JS.val Vq rfl ?_) (Wi (Wd ⟨rfl, ?_⟩))
      · refine JM.last 8 (by kernel_rfl) rfl rfl rfl (Wi (Wd ⟨rfl, ?_⟩))
        refine JM.last 9 (by kernel_rfl) rfl rfl rfl (Wf Vb rfl (Wd ⟨rfl, ?_⟩))
        refine JM.nil (by kernel_rfl) ?_
        refine Wa ?_
        refine JC.ent (e' := [(1, .pointer (some ⟨bo, 0, none⟩)), (3, .pointer (some ⟨kb, 0, none⟩)), (4, .bool is)]) (Γ' := [.own kb 197 [f1, f2, f3], .own bo 27 [.int .i64 o.kind, .string o.key, .string o.elem, .int .i64 o.n]]) inferInstance ?_
        cases is with
        | false =>
          repeat (first|refine Wa ?_|refine Wb ?_|refine Wc ?_|refine Wd ?_|refine We rfl ?_|refine Wf (by first|exact Va|exact Vb|exact Vj) rfl ?_|refine Ws ?_|refine Wv rfl rfl ?_)
          refine CT.done () ?_ (fun w ho => ho.ent)
          simp only [packed, hK.no rfl]
        | true =>
          obtain ⟨fid, hbody, p, rfl, hp, hmay⟩ := hK.yes rfl
          repeat (first|refine Wb ?_|refine Wc ?_|refine We rfl ?_|refine Wf (by first|exact Va|exact Vc|exact Vd) rfl ?_)
          refine JR.callV rfl (fun w1 hw => key_ops w1 _ _ hk) ?_
          repeat (first|refine We rfl ?_|refine Wf (by first|exact Va|exact Vi) rfl ?_)
          refine JO.test 18 (fun hy => ?_) (fun hn => ?_)
          · repeat (first|refine We rfl ?_|refine Wf (by first|exact Vc|exact Vd) rfl ?_)
            refine JR.callV rfl (fun w1 hw => hp w1 _ o hk he) ?_
            repeat (first|refine Wa ?_|refine Wd ?_|refine We rfl ?_|refine Wf (by first|exact Vb|exact Vi) rfl ?_|refine Ws ?_)
            refine CT.done () ?_ (fun w ho => ho.ent)
            simp [packed, hmay, hy]
          · repeat (first|refine Wa ?_|refine Wd ?_|refine We rfl ?_|refine Wf (by first|exact Vb|exact Vj) rfl ?_|refine Ws ?_|refine Wv rfl rfl ?_)
            refine CT.done () ?_ (fun w ho => ho.ent)
            simp [packed, hmay, hn]
      · refine JM.one 6 (by kernel_rfl) rfl rfl rfl rfl (JS.val Vq rfl ?_)
        refine JM.last 9 (by kernel_rfl) rfl rfl rfl (Wf Vb rfl (Wd ⟨rfl, ?_⟩))
        refine JM.nil (by kernel_rfl) ?_
        refine Wa ?_
        refine JC.ent (e' := [(1, .pointer (some ⟨bo, 0, none⟩)), (3, .pointer (some ⟨kb, 0, none⟩)), (4, .bool is)]) (Γ' := [.own kb 197 [f1, f2, f3], .own bo 27 [.int .i64 o.kind, .string o.key, .string o.elem, .int .i64 o.n]]) inferInstance ?_
        cases is with
        | false =>
          repeat (first|refine Wa ?_|refine Wb ?_|refine Wc ?_|refine Wd ?_|refine We rfl ?_|refine Wf (by first|exact Va|exact Vb|exact Vj) rfl ?_|refine Ws ?_|refine Wv rfl rfl ?_)
          refine CT.done () ?_ (fun w ho => ho.ent)
          simp only [packed, hK.no rfl]
        | true =>
          obtain ⟨fid, hbody, p, rfl, hp, hmay⟩ := hK.yes rfl
          repeat (first|refine Wb ?_|refine Wc ?_|refine We rfl ?_|refine Wf (by first|exact Va|exact Vc|exact Vd) rfl ?_)
          refine JR.callV rfl (fun w1 hw => key_ops w1 _ _ hk) ?_
          repeat (first|refine We rfl ?_|refine Wf (by first|exact Va|exact Vi) rfl ?_)
          refine JO.test 18 (fun hy => ?_) (fun hn => ?_)
          · repeat (first|refine We rfl ?_|refine Wf (by first|exact Vc|exact Vd) rfl ?_)
            refine JR.callV rfl (fun w1 hw => hp w1 _ o hk he) ?_
            repeat (first|refine Wa ?_|refine Wd ?_|refine We rfl ?_|refine Wf (by first|exact Vb|exact Vi) rfl ?_|refine Ws ?_)
            refine CT.done () ?_ (fun w ho => ho.ent)
            simp [packed, hmay, hy]
          · repeat (first|refine Wa ?_|refine Wd ?_|refine We rfl ?_|refine Wf (by first|exact Vb|exact Vj) rfl ?_|refine Ws ?_|refine Wv rfl rfl ?_)
            refine CT.done () ?_ (fun w ho => ho.ent)
            simp [packed, hmay, hn]
  · refine JM.mix 6 8 (by kernel_rfl) rfl rfl rfl rfl rfl rfl rfl (JS.val Vq rfl ?_) (Wi (Wd ⟨rfl, ?_⟩))
    · refine JM.last 8 (by kernel_rfl) rfl rfl rfl (Wi (Wd ⟨rfl, ?_⟩))
      refine JM.last 9 (by kernel_rfl) rfl rfl rfl (Wf Vb rfl (Wd ⟨rfl, ?_⟩))
      refine JM.nil (by kernel_rfl) ?_
      refine Wa ?_
      refine JC.ent (e' := [(1, .pointer (some ⟨bo, 0, none⟩)), (3, .pointer (some ⟨kb, 0, none⟩)), (4, .bool is)]) (Γ' := [.own kb 197 [f1, f2, f3], .own bo 27 [.int .i64 o.kind, .string o.key, .string o.elem, .int .i64 o.n]]) inferInstance ?_
      cases is with
      | false =>
        repeat (first|refine Wa ?_|refine Wb ?_|refine Wc ?_|refine Wd ?_|refine We rfl ?_|refine Wf (by first|exact Va|exact Vb|exact Vj) rfl ?_|refine Ws ?_|refine Wv rfl rfl ?_)
        refine CT.done () ?_ (fun w ho => ho.ent)
        simp only [packed, hK.no rfl]
      | true =>
        obtain ⟨fid, hbody, p, rfl, hp, hmay⟩ := hK.yes rfl
        repeat (first|refine Wb ?_|refine Wc ?_|refine We rfl ?_|refine Wf (by first|exact Va|exact Vc|exact Vd) rfl ?_)
        refine JR.callV rfl (fun w1 hw => key_ops w1 _ _ hk) ?_
        repeat (first|refine We rfl ?_|refine Wf (by first|exact Va|exact Vi) rfl ?_)
        refine JO.test 18 (fun hy => ?_) (fun hn => ?_)
        · repeat (first|refine We rfl ?_|refine Wf (by first|exact Vc|exact Vd) rfl ?_)
          refine JR.callV rfl (fun w1 hw => hp w1 _ o hk he) ?_
          repeat (first|refine Wa ?_|refine Wd ?_|refine We rfl ?_|refine Wf (by first|exact Vb|exact Vi) rfl ?_|refine Ws ?_)
          refine CT.done () ?_ (fun w ho => ho.ent)
          simp [packed, hmay, hy]
        · repeat (first|refine Wa ?_|refine Wd ?_|refine We rfl ?_|refine Wf (by first|exact Vb|exact Vj) rfl ?_|refine Ws ?_|refine Wv rfl rfl ?_)
          refine CT.done () ?_ (fun w ho => ho.ent)
          simp [packed, hmay, hn]
    · refine JM.one 6 (by kernel_rfl) rfl rfl rfl rfl (JS.val Vq rfl ?_)
      refine JM.last 9 (by kernel_rfl) rfl rfl rfl (Wf Vb rfl (Wd ⟨rfl, ?_⟩))
      refine JM.nil (by kernel_rfl) ?_
      refine Wa ?_
      refine JC.ent (e' := [(1, .pointer (some ⟨bo, 0, none⟩)), (3, .pointer (some ⟨kb, 0, none⟩)), (4, .bool is)]) (Γ' := [.own kb 197 [f1, f2, f3], .own bo 27 [.int .i64 o.kind, .string o.key, .string o.elem, .int .i64 o.n]]) inferInstance ?_
      cases is with
      | false =>
        repeat (first|refine Wa ?_|refine Wb ?_|refine Wc ?_|refine Wd ?_|refine We rfl ?_|refine Wf (by first|exact Va|exact Vb|exact Vj) rfl ?_|refine Ws ?_|refine Wv rfl rfl ?_)
        refine CT.done () ?_ (fun w ho => ho.ent)
        simp only [packed, hK.no rfl]
      | true =>
        obtain ⟨fid, hbody, p, rfl, hp, hmay⟩ := hK.yes rfl
        repeat (first|refine Wb ?_|refine Wc ?_|refine We rfl ?_|refine Wf (by first|exact Va|exact Vc|exact Vd) rfl ?_)
        refine JR.callV rfl (fun w1 hw => key_ops w1 _ _ hk) ?_
        repeat (first|refine We rfl ?_|refine Wf (by first|exact Va|exact Vi) rfl ?_)
        refine JO.test 18 (fun hy => ?_) (fun hn => ?_)
        · repeat (first|refine We rfl ?_|refine Wf (by first|exact Vc|exact Vd) rfl ?_)
          refine JR.callV rfl (fun w1 hw => hp w1 _ o hk he) ?_
          repeat (first|refine Wa ?_|refine Wd ?_|refine We rfl ?_|refine Wf (by first|exact Vb|exact Vi) rfl ?_|refine Ws ?_)
          refine CT.done () ?_ (fun w ho => ho.ent)
          simp [packed, hmay, hy]
        · repeat (first|refine Wa ?_|refine Wd ?_|refine We rfl ?_|refine Wf (by first|exact Vb|exact Vj) rfl ?_|refine Ws ?_|refine Wv rfl rfl ?_)
          refine CT.done () ?_ (fun w ho => ho.ent)
          simp [packed, hmay, hn]
end Ab
end Go.Proofs.YtdgeffphifgflaaGreat
namespace Go.Proofs.YtdgeffphifgflaaGreat
namespace Ab
open Go Go.RowKit
set_option linter.unusedVariables false
set_option linter.unusedSimpArgs false
set_option synthInstance.maxSize 4000
set_option synthInstance.maxHeartbeats 400000
attribute [local irreducible] JC JO JR JQ andThen inBlock OpV Gives retTo JM JS
abbrev commitV (c : Commit) (a : Option Addr) (k : Nat) : Value :=
  .agg ⟨[.int .i64 c.ev.node, .int .i64 c.ev.seq, .int .i64 c.gen, .slice a c.parents.length k, .int .i64 c.op.kind, .string c.op.key, .string c.op.elem, .int .i64 c.op.n]⟩
def texts (c : Commit) : Prop := c.op.key.size < 4611686018427387904 ∧ c.op.elem.size < 4611686018427387904
set_option maxHeartbeats 1000000 in
theorem may_commit (w : World) (F : Nat → Prop) (c : Commit) (a : Option Addr) (k : Nat) (h : (sl a k c.parents).holds F w) (ht : texts c) :
    GivesV Tryz.prog 100 [commitV c a k] w F (.bool (may c)) := by
  have hL : c.parents.length < 9223372036854775807 := by have := h.2.2.1; simp only [lim] at this; omega
  refine gives_of Tryz.func100 rfl Tryz.ntmps100 rfl rfl [.st (sl a k c.parents)] (.start1 h) ?_
  repeat (first|refine Wa ?_|refine Wb ?_|refine Wc ?_|refine Wd ?_|refine We rfl ?_|refine Wf (by first|exact Vb|exact Vc|exact Vd|exact Vf) rfl ?_|(refine Wh rfl ?_; intro _))
  refine JR.callV rfl (fun w1 hw => in_commit w1 _ _ _ _) ?_
  repeat (first|refine We rfl ?_|refine Wf (by first|exact Va|exact Vh) rfl ?_)
  refine JO.test 11 (fun h1 => ?_) (fun h1 => ?_)
  · repeat (first|refine Wa ?_|refine Wb ?_|refine Wc ?_|refine Wd ?_|refine We rfl ?_|refine Wf (by first|exact Va|exact Vb|exact Vi) rfl ?_|refine Wj ?_|refine Ws ?_|refine Wt ?_|refine Wv rfl rfl ?_)
    refine CT.done () ?_ (fun w ho => ho.ent)
    simp [packed, may, h1]
  have h1 : inB c.gen 1 1048576 = true := Classical.not_not.1 h1
  repeat (first|refine We rfl ?_|refine Wf (by first|exact Va|exact Vj|exact Vo) rfl ?_)
  refine JO.test 15 (fun h2 => ?_) (fun h2 => ?_)
  · repeat (first|refine Wa ?_|refine Wb ?_|refine Wc ?_|refine Wd ?_|refine We rfl ?_|refine Wf (by first|exact Va|exact Vb|exact Vi) rfl ?_|refine Wj ?_|refine Ws ?_|refine Wt ?_|refine Wv rfl rfl ?_)
    refine CT.done () ?_ (fun w ho => ho.ent)
    have : 8 < c.parents.length := by omega
    simp [packed, may, this]
  repeat (first|refine We rfl ?_|refine Wf (by first|exact Vc|exact Vd) rfl ?_)
  refine JR.callV rfl (fun w1 hw => rises_ids w1 _ a k _ hw.get) ?_
  repeat (first|refine We rfl ?_|refine Wf (by first|exact Va|exact Vh|exact Vj) rfl ?_)
  refine JO.test 21 (fun h3 => ?_) (fun h3 => ?_)
  · repeat (first|refine Wa ?_|refine Wb ?_|refine Wc ?_|refine Wd ?_|refine We rfl ?_|refine Wf (by first|exact Vb|exact Vi) rfl ?_|refine Wj ?_|refine Ws ?_|refine Wt ?_|refine Wv rfl rfl ?_)
    refine CT.done () ?_ (fun w ho => ho.ent)
    simp [packed, may, h3]
  have h3 : rises c.parents = true := Classical.not_not.1 h3
  have h2 : ¬ 8 < c.parents.length := by omega
  have e0 : (decide ((c.parents.length : Int) = 0)) = decide (c.parents.length = 0) := decide_eq_decide.2 (by omega)
  repeat (first|refine Wa ?_|refine Wd ?_|refine We rfl ?_|refine Wf (by first|exact Va|exact Vc|exact Vd|exact Vj|exact Vl|exact VF) rfl ?_)
  refine JC.test (fun h4 => ?_) (fun h4 => ?_)
  · repeat (first|refine Wa ?_|refine Wb ?_|refine Wc ?_|refine Wd ?_|refine We rfl ?_|refine Wf (by exact Vb) rfl ?_|refine Ws ?_|refine Wt ?_)
    refine CT.done () ?_ (fun w ho => ho.ent)
    rw [e0] at h4
    have : (decide (c.gen = 1) != decide (c.parents.length = 0)) = true := by rw [bne_iff_ne]; exact h4
    simp only [packed, may, this, Bool.or_true, if_true]
  have h4 : (decide (c.gen = 1) != decide (c.parents.length = 0)) = false := by
    rw [e0] at h4
    rw [Classical.not_not.1 h4, bne_self_eq_false]
  have hmay : may c = if c.ev.node = -1 then decide (2 ≤ c.parents.length) && decide (c.ev.seq = 0) && decide (c.op = op0) else inB c.ev.node 0 7 && inB c.ev.seq 1 1048576 && opMay c.op := by
    simp only [may, h1, h2, h3, h4, decide_false, Bool.not_true, Bool.or_false, Bool.false_eq_true, if_false]
  rw [hmay]
  repeat (first|refine Wa ?_|refine Wb ?_|refine Wc ?_|refine Wd ?_|refine We rfl ?_|refine Wf (by first|exact Vc|exact Vd|exact Vl) rfl ?_|refine Wl ?_)
  refine JC.test (fun h5 => ?_) (fun h5 => ?_)
  · rw [if_pos h5]
    repeat (first|refine Wb ?_|refine Wc ?_|refine We rfl ?_|refine Wf (by first|exact Va|exact Vp) rfl ?_)
    refine JO.test 35 (fun h6 => ?_) (fun h6 => ?_)
    · repeat (first|refine We rfl ?_|refine Wf (by first|exact Va|exact Vc|exact Vd|exact Vi|exact Vl) rfl ?_)
      refine JO.test 41 (fun h7 => ?_) (fun h7 => ?_)
      · repeat (first|refine We rfl ?_|refine Wf (by first|exact Vc|exact Vd) rfl ?_)
        refine Wf (OpV.build [.int .i64 0, .string .empty, .string .empty, .int .i64 0] (by kernel_rfl)) rfl ?_
        repeat (first|refine Wa ?_|refine Wd ?_|refine We rfl ?_|refine Wf (by first|exact Vb|exact Vi|exact VA) rfl ?_|refine Ws ?_|refine Wt ?_)
        refine CT.done () ?_ (fun w ho => ho.ent)
        have h8 : 2 ≤ c.parents.length := by omega
        have e1 : (decide (2 ≤ c.parents.length) && decide (c.ev.seq = 0) && decide (c.op = op0)) = decide (c.op = op0) := by
          rw [decide_eq_true h8, decide_eq_true h7, Bool.true_and, Bool.true_and]
        rw [e1]
        rfl
      · repeat (first|refine Wa ?_|refine Wd ?_|refine We rfl ?_|refine Wf (by first|exact Vb|exact Vj) rfl ?_|refine Ws ?_|refine Wt ?_|refine Wv rfl rfl ?_)
        refine CT.done () ?_ (fun w ho => ho.ent)
        simp [packed, h7]
    · repeat (first|refine Wa ?_|refine Wd ?_|refine We rfl ?_|refine Wf (by first|exact Va|exact Vb|exact Vj) rfl ?_|refine Ws ?_|refine Wt ?_|refine Wv rfl rfl ?_)
      refine CT.done () ?_ (fun w ho => ho.ent)
      have : ¬ 2 ≤ c.parents.length := by omega
      simp [packed, this]
  · rw [if_neg h5]
    repeat (first|refine Wa ?_|refine Wb ?_|refine Wc ?_|refine We rfl ?_|refine Wf (by first|exact Vc|exact Vd) rfl ?_|refine Wl ?_)
    refine JR.callV rfl (fun w1 hw => in_commit w1 _ _ _ _) ?_
    repeat (first|refine We rfl ?_|refine Wf (by exact Va) rfl ?_)
    refine JO.test 51 (fun h6 => ?_) (fun h6 => ?_)
    · repeat (first|refine We rfl ?_|refine Wf (by first|exact Vc|exact Vd) rfl ?_)
      refine JR.callV rfl (fun w1 hw => in_commit w1 _ _ _ _) ?_
      repeat (first|refine We rfl ?_|refine Wf (by first|exact Va|exact Vi) rfl ?_)
      refine JO.test 57 (fun h7 => ?_) (fun h7 => ?_)
      · repeat (first|refine We rfl ?_|refine Wf (by first|exact Vc|exact Vd) rfl ?_)
        refine JR.callV rfl (fun w1 hw => may_ops w1 _ c.op ht.1 ht.2) ?_
        repeat (first|refine Wa ?_|refine Wd ?_|refine We rfl ?_|refine Wf (by first|exact Vb|exact Vi) rfl ?_|refine Ws ?_)
        refine CT.done () ?_ (fun w ho => ho.ent)
        simp [packed, h6, h7]
      · repeat (first|refine Wa ?_|refine Wd ?_|refine We rfl ?_|refine Wf (by first|exact Vb|exact Vj) rfl ?_|refine Ws ?_|refine Wv rfl rfl ?_)
        refine CT.done () ?_ (fun w ho => ho.ent)
        simp [packed, h7]
    · repeat (first|refine Wa ?_|refine Wd ?_|refine We rfl ?_|refine Wf (by first|exact Va|exact Vb|exact Vj) rfl ?_|refine Ws ?_|refine Wv rfl rfl ?_)
      refine CT.done () ?_ (fun w ho => ho.ent)
      simp [packed, h6]
theorem merge_commit (w : World) (F : Nat → Prop) (c : Commit) (a : Option Addr) (k : Nat) (h : (sl a k c.parents).holds F w) (ht : texts c) :
    GivesV Tryz.prog 97 [commitV c a k] w F (.bool (merge c)) := by
  refine gives_of Tryz.func97 rfl Tryz.ntmps97 rfl rfl [.st (sl a k c.parents)] (.start1 h) ?_
  repeat (first|refine Wa ?_|refine Wb ?_|refine Wc ?_|refine Wd ?_|refine We rfl ?_|refine Wf (by first|exact Va|exact Vb|exact Vc|exact Vd|exact Vl) rfl ?_|(refine Wh rfl ?_; intro _))
  refine JO.test 7 (fun h1 => ?_) (fun h1 => ?_)
  · repeat (first|refine We rfl ?_|refine Wf (by exact Vc) rfl ?_)
    refine JR.callV rfl (fun w1 hw => may_commit w1 _ c a k hw.get ht) ?_
    repeat (first|refine Wa ?_|refine Wd ?_|refine We rfl ?_|refine Wf (by first|exact Vb|exact Vi) rfl ?_|refine Ws ?_)
    refine CT.done () ?_ (fun w ho => ho.ent)
    simp [packed, merge, h1]
  · repeat (first|refine Wa ?_|refine Wd ?_|refine We rfl ?_|refine Wf (by first|exact Vb|exact Vj) rfl ?_|refine Ws ?_|refine Wv rfl rfl ?_)
    refine CT.done () ?_ (fun w ho => ho.ent)
    simp [packed, merge, h1]
def fine (c : Commit) : Prop := texts c ∧ c.parents.length ≤ 34359738368
def commit0 : Commit := ⟨⟨0, 0⟩, 0, [], op0⟩
def foldN (n : Int) : Nat := if 0 ≤ n then (2 * n).toNat else (-2 * n - 1).toNat
theorem fold_val (n : Int) (h : -1099511627776 ≤ n ∧ n ≤ 1099511627776) :
    IntKind.u64.wrap (BitVec.ofInt IntKind.u64.bits (IntKind.u64.wrap (IntKind.u64.wrap n * 2 ^ (min (Int.toNat 1) IntKind.u64.bits))) ^^^ BitVec.ofInt IntKind.u64.bits (IntKind.u64.wrap (n.fdiv (2 ^ (min (Int.toNat 63) IntKind.i64.bits))))).toNat = ((foldN n : Nat) : Int) := by
  show IntKind.u64.wrap (BitVec.ofInt 64 (IntKind.u64.wrap (IntKind.u64.wrap n * 2 ^ 1)) ^^^ BitVec.ofInt 64 (IntKind.u64.wrap (n.fdiv 9223372036854775808))).toNat = ((foldN n : Nat) : Int)
  have hw : ∀ z : Int, IntKind.u64.wrap z = z % 18446744073709551616 := fun z => by simp [IntKind.wrap, IntKind.bits, IntKind.signed]
  by_cases h0 : 0 ≤ n
  · have e1 : IntKind.u64.wrap (IntKind.u64.wrap n * 2 ^ 1) = (((2 * n).toNat : Nat) : Int) := by rw [hw, hw]; omega
    have e2 : n.fdiv 9223372036854775808 = 0 := by rw [Int.fdiv_eq_ediv_of_nonneg _ (by decide)]; omega
    have e3 : IntKind.u64.wrap 0 = 0 := by rw [hw]; rfl
    rw [e1, e2, e3]
    have e4 : (BitVec.ofInt 64 0) = (0#64) := rfl
    rw [e4, BitVec.xor_zero, BitVec.ofInt_natCast, BitVec.toNat_ofNat, hw, foldN, if_pos h0]
    omega
  · have e1 : IntKind.u64.wrap (IntKind.u64.wrap n * 2 ^ 1) = (((18446744073709551616 + 2 * n).toNat : Nat) : Int) := by rw [hw, hw]; omega
    have e2 : n.fdiv 9223372036854775808 = -1 := by rw [Int.fdiv_eq_ediv_of_nonneg _ (by decide)]; omega
    have e3 : IntKind.u64.wrap (-1) = 18446744073709551615 := by rw [hw]; rfl
    rw [e1, e2, e3]
    have e4 : (BitVec.ofInt 64 18446744073709551615) = BitVec.allOnes 64 := rfl
    rw [e4, BitVec.xor_allOnes, BitVec.toNat_not, BitVec.ofInt_natCast, BitVec.toNat_ofNat, hw, foldN, if_neg h0]
    omega
theorem fold_enc (w : World) (F : Nat → Prop) (n : Int) (h : -1099511627776 ≤ n ∧ n ≤ 1099511627776) : GivesV Tryz.prog 114 [.int .i64 n] w F (.int .u64 ((foldN n : Nat) : Int)) := by
  refine gives_of Tryz.func114 rfl Tryz.ntmps114 rfl rfl [] (.start w F) ?_
  repeat (first|refine Wa ?_|refine Wb ?_|refine Wc ?_|refine Wd ?_|refine We rfl ?_|refine Wf (by first|exact Va|exact Vb) rfl ?_)
  refine Wf OpV.conv rfl ?_
  repeat (refine We rfl ?_)
  refine Wf (OpV.shl (by decide)) rfl ?_
  repeat (first|refine We rfl ?_|refine Wf (by exact Va) rfl ?_)
  refine Wf (OpV.shr (by decide)) rfl ?_
  repeat (refine We rfl ?_)
  refine Wf OpV.conv rfl ?_
  repeat (refine We rfl ?_)
  refine Wf OpV.xor rfl ?_
  repeat (first|refine Wa ?_|refine Wd ?_|refine We rfl ?_|refine Wf (by exact Vb) rfl ?_|refine Ws ?_)
  refine CT.done () ?_ (fun w ho => ho.ent)
  exact congrArg (Value.int .u64) (fold_val n h)
def pick32 (c a b : UInt32) : UInt32 := (c &&& a) ||| (b &&& ~~~ c)
def most32 (a b c : UInt32) : UInt32 := ((a &&& b) ^^^ (a &&& c)) ^^^ (b &&& c)
def rotR (x : UInt32) (k : Nat) : UInt32 := shrN32 x k ||| shlN32 x (32 - k)
theorem pick_rot (w : World) (F : Nat → Prop) (c a b : UInt32) : GivesV Tryz.prog 213 [w32 c, w32 a, w32 b] w F (w32 (pick32 c a b)) := by
  refine gives_of Tryz.func213 rfl Tryz.ntmps213 rfl rfl [] (.start w F) ?_
  repeat (first | refine Wa ?_ | refine Wb ?_ | refine Wc ?_ | refine Wd ?_ | refine We rfl ?_ | refine Wf (by first | exact Va | exact Vb | exact OpV.and32 | exact OpV.or32 | exact OpV.xor32 | exact OpV.andNot32 | exact OpV.add32) rfl ?_ | refine Ws ?_ | refine Wt ?_)
  exact CT.done () rfl (fun w ho => ho.ent)
theorem most_rot (w : World) (F : Nat → Prop) (a b c : UInt32) : GivesV Tryz.prog 214 [w32 a, w32 b, w32 c] w F (w32 (most32 a b c)) := by
  refine gives_of Tryz.func214 rfl Tryz.ntmps214 rfl rfl [] (.start w F) ?_
  repeat (first | refine Wa ?_ | refine Wb ?_ | refine Wc ?_ | refine Wd ?_ | refine We rfl ?_ | refine Wf (by first | exact Va | exact Vb | exact OpV.and32 | exact OpV.or32 | exact OpV.xor32 | exact OpV.andNot32 | exact OpV.add32) rfl ?_ | refine Ws ?_ | refine Wt ?_)
  exact CT.done () rfl (fun w ho => ho.ent)
theorem right_rot (w : World) (F : Nat → Prop) (x : UInt32) (k : Nat) (hk : 1 ≤ k ∧ k ≤ 31) : GivesV Tryz.prog 256 [w32 x, .int .i64 (k : Int)] w F (w32 (rotR x k)) := by
  refine gives_of Tryz.func256 rfl Tryz.ntmps256 rfl rfl [] (.start w F) ?_
  repeat (first | refine Wa ?_ | refine Wb ?_ | refine Wc ?_ | refine Wd ?_ | refine We rfl ?_ | refine Wf (by first | exact Va | exact Vb | exact OpV.and32 | exact OpV.or32 | exact OpV.xor32 | exact OpV.andNot32 | exact OpV.add32) rfl ?_ | refine Ws ?_ | refine Wt ?_)
  refine Wf (OpV.convIn (by rw [wrap64]; omega)) rfl ?_
  repeat (first | refine Wa ?_ | refine Wb ?_ | refine Wc ?_ | refine Wd ?_ | refine We rfl ?_ | refine Wf (by first | exact Va | exact Vb | exact OpV.and32 | exact OpV.or32 | exact OpV.xor32 | exact OpV.andNot32 | exact OpV.add32) rfl ?_ | refine Ws ?_ | refine Wt ?_)
  refine Wf (OpV.rem (by decide)) rfl ?_
  refine JO.reslot 8 (.int .u64 (k : Int)) (by congr 1; rw [Int.tmod_eq_emod_of_nonneg (by omega)]; omega) ?_
  repeat (first | refine Wa ?_ | refine Wb ?_ | refine Wc ?_ | refine Wd ?_ | refine We rfl ?_ | refine Wf (by first | exact Va | exact Vb | exact OpV.and32 | exact OpV.or32 | exact OpV.xor32 | exact OpV.andNot32 | exact OpV.add32) rfl ?_ | refine Ws ?_ | refine Wt ?_)
  refine Wf (OpV.shr32 (k := k) (by omega)) rfl ?_
  repeat (first | refine Wa ?_ | refine Wb ?_ | refine Wc ?_ | refine Wd ?_ | refine We rfl ?_ | refine Wf (by first | exact Va | exact Vb | exact OpV.and32 | exact OpV.or32 | exact OpV.xor32 | exact OpV.andNot32 | exact OpV.add32) rfl ?_ | refine Ws ?_ | refine Wt ?_)
  refine Wf OpV.subw rfl ?_
  refine JO.reslot 14 (.int .u64 ((32 - k : Nat) : Int)) (by congr 1; rw [show (32 : Int) - (k : Int) = ((32 - k : Nat) : Int) by omega, wrap64]; omega) ?_
  repeat (first | refine Wa ?_ | refine Wb ?_ | refine Wc ?_ | refine Wd ?_ | refine We rfl ?_ | refine Wf (by first | exact Va | exact Vb | exact OpV.and32 | exact OpV.or32 | exact OpV.xor32 | exact OpV.andNot32 | exact OpV.add32) rfl ?_ | refine Ws ?_ | refine Wt ?_)
  refine Wf (OpV.shl32 (k := 32 - k) (by omega)) rfl ?_
  repeat (first | refine Wa ?_ | refine Wb ?_ | refine Wc ?_ | refine Wd ?_ | refine We rfl ?_ | refine Wf (by first | exact Va | exact Vb | exact OpV.and32 | exact OpV.or32 | exact OpV.xor32 | exact OpV.andNot32 | exact OpV.add32) rfl ?_ | refine Ws ?_ | refine Wt ?_)
  exact CT.done () rfl (fun w ho => ho.ent)
def fourB (x : UInt32) (i : Nat) : UInt8 := UInt8.ofNat (x.toNat / 2 ^ (24 - 8 * i))
def fourL (x : UInt32) : List UInt8 := (List.range 4).map (fourB x)
def fourK (x : UInt32) (k : Nat) : Vec UInt8 4 := ⟨(List.range 4).map (fun i => if i < k then fourB x i else 0), by simp⟩
theorem fourK_set (x : UInt32) (k : Nat) (h : k < 4) : (fourK x k).1.set k (fourB x k) = (fourK x (k + 1)).1 := by
  match k, h with
  | 0, _ => rfl
  | 1, _ => rfl
  | 2, _ => rfl
  | 3, _ => rfl
theorem four_rot (w : World) (F : Nat → Prop) (x : UInt32) : GivesV Tryz.prog 170 [w32 x] w F (.agg ⟨(fourL x).map byteV⟩) := by
  refine gives_of Tryz.func170 rfl Tryz.ntmps170 rfl rfl [] (.start w F) ?_
  repeat (first|refine Wa ?_|refine Wb ?_|refine Wc ?_|refine Wd ?_|refine We rfl ?_|refine Wf (by exact Va) rfl ?_|(refine Wg rfl ?_; intro _)|refine Wn ?_)
  rename_i bo
  refine JC.reown bo ((fourK x 0).1.map byteV) rfl ?_
  refine JC.loop1 (fun k : Nat => [(0, w32 x), (2, .pointer (some ⟨bo, 0, none⟩)), (4, .int .i64 (k : Int))]) (fun k => [.own bo 186 ((fourK x k).1.map byteV)])
    (fun k => k ≤ 4) (fun k => 4 - k) 0 (Nat.zero_le _) inferInstance ?_
  intro k hk
  repeat (first|refine Wa ?_|refine Wb ?_|refine Wc ?_|refine Wd ?_|refine We rfl ?_|refine Wf (by exact Vg) rfl ?_)
  refine JC.test (fun hlt => ?_) (fun hge => ?_)
  · have hlt' : k < 4 := by omega
    repeat (first|refine Wa ?_|refine Wb ?_|refine Wc ?_|refine Wd ?_|refine We rfl ?_|refine Wf (by first|exact Va|exact Vb) rfl ?_|refine Wl ?_|refine Wn ?_)
    refine Wf (OpV.mul (by omega)) rfl ?_
    refine We rfl ?_
    refine Wf (Vv (by omega)) rfl ?_
    refine JO.reslot 11 (.int .i64 ((24 - 8 * k : Nat) : Int)) (by congr 1 <;> omega) ?_
    refine We rfl ?_
    refine Wf (OpV.shr32 (k := 24 - 8 * k) (by omega)) rfl ?_
    refine We rfl ?_
    refine Wf OpV.conv rfl ?_
    refine JO.reslot 13 (byteV (fourB x k)) (congrArg (Value.int .u8) (by
      rw [wrap8, fourB, UInt8.toNat_ofNat', shrN32, UInt32.toNat_ofNat', Nat.mod_eq_of_lt (a := x.toNat / _) (Nat.lt_of_le_of_lt (Nat.div_le_self _ _) x.toNat_lt)])) ?_
    refine We rfl ?_
    refine Wf (OpV.indexArr hlt') rfl ?_
    refine We rfl ?_
    refine JR.setW k (fourB x k) (by rw [(fourK x k).2]; exact hlt') (by omega) rfl ?_
    rw [fourK_set x k hlt']
    repeat (first|refine Wa ?_|refine Wc ?_|refine Wd ?_|refine We rfl ?_|refine Wf (by first|exact Va|exact Vk (by omega)) rfl ?_|refine Wr ?_)
    exact ⟨k + 1, by omega, by omega, inferInstance⟩
  · obtain rfl : k = 4 := by omega
    repeat (first|refine Wa ?_|refine Wb ?_|refine Wc ?_|refine Wd ?_|refine We rfl ?_|refine Wf (by exact Vc) rfl ?_|refine Wi ?_|refine Wm ?_|refine Wo ?_|refine Wp ?_|refine Ws ?_)
    exact CT.done () rfl (fun w ho => ho.ent)
def shaK : List UInt32 := [1116352408, 1899447441, 3049323471, 3921009573, 961987163, 1508970993, 2453635748, 2870763221, 3624381080, 310598401, 607225278, 1426881987, 1925078388, 2162078206, 2614888103, 3248222580, 3835390401, 4022224774, 264347078, 604807628, 770255983, 1249150122, 1555081692, 1996064986, 2554220882, 2821834349, 2952996808, 3210313671, 3336571891, 3584528711, 113926993, 338241895, 666307205, 773529912, 1294757372, 1396182291, 1695183700, 1986661051, 2177026350, 2456956037, 2730485921, 2820302411, 3259730800, 3345764771, 3516065817, 3600352804, 4094571909, 275423344, 430227734, 506948616, 659060556, 883997877, 958139571, 1322822218, 1537002063, 1747873779, 1955562222, 2024104815, 2227730452, 2361852424, 2428436474, 2756734187, 3204031479, 3329325298]
def shaS : List UInt32 := [1779033703, 3144134277, 1013904242, 2773480762, 1359893119, 2600822924, 528734635, 1541459225]
theorem start_sha (w : World) (F : Nat → Prop) : GivesV Tryz.prog 167 [] w F (.agg ⟨shaS.map w32⟩) := by
  refine gives_of Tryz.func167 rfl Tryz.ntmps167 rfl rfl [] (.start w F) ?_
  repeat (first|refine Wa ?_|refine Wb ?_|refine Wc ?_|refine Wd ?_|refine We rfl ?_|(refine Wg rfl ?_; intro _))
  refine Wf (OpV.build [.int .u32 1779033703, .int .u32 3144134277, .int .u32 1013904242, .int .u32 2773480762, .int .u32 1359893119, .int .u32 2600822924, .int .u32 528734635, .int .u32 1541459225] (by kernel_rfl)) rfl ?_
  repeat (first|refine Wa ?_|refine Wd ?_|refine We rfl ?_|refine Wi ?_|refine Ws ?_)
  refine CT.done () ?_ (fun w ho => ho.ent)
  exact congrArg (fun l => Value.agg ⟨l⟩) (show _ = shaS.map w32 by kernel_rfl)
set_option maxRecDepth 4000 in
theorem constants_sha (w : World) (F : Nat → Prop) : GivesV Tryz.prog 210 [] w F (.agg ⟨shaK.map w32⟩) := by
  refine gives_of Tryz.func210 rfl Tryz.ntmps210 rfl rfl [] (.start w F) ?_
  repeat (first|refine Wa ?_|refine Wb ?_|refine Wc ?_|refine Wd ?_|refine We rfl ?_|(refine Wg rfl ?_; intro _))
  refine Wf (OpV.build [.int .u32 1116352408, .int .u32 1899447441, .int .u32 3049323471, .int .u32 3921009573, .int .u32 961987163, .int .u32 1508970993, .int .u32 2453635748, .int .u32 2870763221, .int .u32 3624381080, .int .u32 310598401, .int .u32 607225278, .int .u32 1426881987, .int .u32 1925078388, .int .u32 2162078206, .int .u32 2614888103, .int .u32 3248222580, .int .u32 3835390401, .int .u32 4022224774, .int .u32 264347078, .int .u32 604807628, .int .u32 770255983, .int .u32 1249150122, .int .u32 1555081692, .int .u32 1996064986, .int .u32 2554220882, .int .u32 2821834349, .int .u32 2952996808, .int .u32 3210313671, .int .u32 3336571891, .int .u32 3584528711, .int .u32 113926993, .int .u32 338241895, .int .u32 666307205, .int .u32 773529912, .int .u32 1294757372, .int .u32 1396182291, .int .u32 1695183700, .int .u32 1986661051, .int .u32 2177026350, .int .u32 2456956037, .int .u32 2730485921, .int .u32 2820302411, .int .u32 3259730800, .int .u32 3345764771, .int .u32 3516065817, .int .u32 3600352804, .int .u32 4094571909, .int .u32 275423344, .int .u32 430227734, .int .u32 506948616, .int .u32 659060556, .int .u32 883997877, .int .u32 958139571, .int .u32 1322822218, .int .u32 1537002063, .int .u32 1747873779, .int .u32 1955562222, .int .u32 2024104815, .int .u32 2227730452, .int .u32 2361852424, .int .u32 2428436474, .int .u32 2756734187, .int .u32 3204031479, .int .u32 3329325298] (by kernel_rfl)) rfl ?_
  repeat (first|refine Wa ?_|refine Wd ?_|refine We rfl ?_|refine Wi ?_|refine Ws ?_)
  refine CT.done () ?_ (fun w ho => ho.ent)
  exact congrArg (fun l => Value.agg ⟨l⟩) (show _ = shaK.map w32 by kernel_rfl)
def small32 (x : UInt32) (a b c : Nat) : UInt32 := (rotR x a ^^^ rotR x b) ^^^ shrN32 x c
def great32 (x : UInt32) (a b c : Nat) : UInt32 := (rotR x a ^^^ rotR x b) ^^^ rotR x c
theorem small_sha (w : World) (F : Nat → Prop) (x : UInt32) (a b c : Nat) (ha : 1 ≤ a ∧ a ≤ 31) (hb : 1 ≤ b ∧ b ≤ 31) (hc : c ≤ 32) : GivesV Tryz.prog 255 [w32 x, .int .i64 (a : Int), .int .i64 (b : Int), .int .i64 (c : Int)] w F (w32 (small32 x a b c)) := by
  refine gives_of Tryz.func255 rfl Tryz.ntmps255 rfl rfl [] (.start w F) ?_
  repeat (first | refine Wa ?_ | refine Wb ?_ | refine Wc ?_ | refine Wd ?_ | refine We rfl ?_ | refine Wf (by first | exact Va | exact Vb | exact OpV.and32 | exact OpV.or32 | exact OpV.xor32 | exact OpV.andNot32 | exact OpV.add32) rfl ?_ | refine Ws ?_ | refine Wt ?_)
  refine JC.quiet mixed (by kernel_rfl) ?_
  repeat (first | refine Wy rfl (by first | exact Va | exact Vb | exact OpV.and32 | exact OpV.or32 | exact OpV.xor32 | exact OpV.andNot32 | exact OpV.add32) rfl ?_ | refine WB ?_)
  refine JQ.call rfl rfl (fun w1 hw => right_rot w1 _ x a ha) ?_
  repeat (first | refine Wy rfl (by first | exact Va | exact Vb | exact OpV.and32 | exact OpV.or32 | exact OpV.xor32 | exact OpV.andNot32 | exact OpV.add32) rfl ?_ | refine WB ?_)
  refine JQ.call rfl rfl (fun w1 hw => right_rot w1 _ x b hb) ?_
  repeat (first | refine Wy rfl (by first | exact Va | exact Vb | exact OpV.and32 | exact OpV.or32 | exact OpV.xor32 | exact OpV.andNot32 | exact OpV.add32) rfl ?_ | refine WB ?_)
  refine Wy rfl (OpV.shr32 (k := c) hc) rfl ?_
  repeat (first | refine Wy rfl (by first | exact Va | exact Vb | exact OpV.and32 | exact OpV.or32 | exact OpV.xor32 | exact OpV.andNot32 | exact OpV.add32) rfl ?_ | refine WB ?_)
  repeat (first | refine Wa ?_ | refine Wb ?_ | refine Wc ?_ | refine Wd ?_ | refine We rfl ?_ | refine Wf (by first | exact Va | exact Vb | exact OpV.and32 | exact OpV.or32 | exact OpV.xor32 | exact OpV.andNot32 | exact OpV.add32) rfl ?_ | refine Ws ?_ | refine Wt ?_)
  exact CT.done () rfl (fun w ho => ho.ent)
theorem great_sha (w : World) (F : Nat → Prop) (x : UInt32) (a b c : Nat) (ha : 1 ≤ a ∧ a ≤ 31) (hb : 1 ≤ b ∧ b ≤ 31) (hc : 1 ≤ c ∧ c ≤ 31) : GivesV Tryz.prog 212 [w32 x, .int .i64 (a : Int), .int .i64 (b : Int), .int .i64 (c : Int)] w F (w32 (great32 x a b c)) := by
  refine gives_of Tryz.func212 rfl Tryz.ntmps212 rfl rfl [] (.start w F) ?_
  repeat (first | refine Wa ?_ | refine Wb ?_ | refine Wc ?_ | refine Wd ?_ | refine We rfl ?_ | refine Wf (by first | exact Va | exact Vb | exact OpV.and32 | exact OpV.or32 | exact OpV.xor32 | exact OpV.andNot32 | exact OpV.add32) rfl ?_ | refine Ws ?_ | refine Wt ?_)
  refine JR.callV rfl (fun w1 hw => right_rot w1 _ x a ha) ?_
  repeat (first | refine Wa ?_ | refine Wb ?_ | refine Wc ?_ | refine Wd ?_ | refine We rfl ?_ | refine Wf (by first | exact Va | exact Vb | exact OpV.and32 | exact OpV.or32 | exact OpV.xor32 | exact OpV.andNot32 | exact OpV.add32) rfl ?_ | refine Ws ?_ | refine Wt ?_)
  refine JR.callV rfl (fun w1 hw => right_rot w1 _ x b hb) ?_
  repeat (first | refine Wa ?_ | refine Wb ?_ | refine Wc ?_ | refine Wd ?_ | refine We rfl ?_ | refine Wf (by first | exact Va | exact Vb | exact OpV.and32 | exact OpV.or32 | exact OpV.xor32 | exact OpV.andNot32 | exact OpV.add32) rfl ?_ | refine Ws ?_ | refine Wt ?_)
  refine JR.callV rfl (fun w1 hw => right_rot w1 _ x c hc) ?_
  repeat (first | refine Wa ?_ | refine Wb ?_ | refine Wc ?_ | refine Wd ?_ | refine We rfl ?_ | refine Wf (by first | exact Va | exact Vb | exact OpV.and32 | exact OpV.or32 | exact OpV.xor32 | exact OpV.andNot32 | exact OpV.add32) rfl ?_ | refine Ws ?_ | refine Wt ?_)
  exact CT.done () rfl (fun w ho => ho.ent)
def longB (x : UInt64) (i : Nat) : UInt8 := UInt8.ofNat (x.toNat / 2 ^ (8 * i))
def longL (x : UInt64) : List UInt8 := (List.range 8).map (fun j => longB x (7 - j))
def longK (x : UInt64) (k : Nat) : Vec UInt8 8 := ⟨(List.range 8).map (fun j => if 7 - j < k then longB x (7 - j) else 0), by simp⟩
theorem longK_set (x : UInt64) (k : Nat) (h : k < 8) : (longK x k).1.set (7 - k) (longB x k) = (longK x (k + 1)).1 := by
  match k, h with
  | 0, _ => rfl
  | 1, _ => rfl
  | 2, _ => rfl
  | 3, _ => rfl
  | 4, _ => rfl
  | 5, _ => rfl
  | 6, _ => rfl
  | 7, _ => rfl
theorem long_rot (w : World) (F : Nat → Prop) (x : UInt64) : GivesV Tryz.prog 209 [w64 x] w F (.agg ⟨(longL x).map byteV⟩) := by
  refine gives_of Tryz.func209 rfl Tryz.ntmps209 rfl rfl [] (.start w F) ?_
  repeat (first|refine Wa ?_|refine Wb ?_|refine Wc ?_|refine Wd ?_|refine We rfl ?_|refine Wf (by exact Va) rfl ?_|(refine Wg rfl ?_; intro _)|refine Wn ?_)
  rename_i bo
  refine JC.reown bo ((longK x 0).1.map byteV) rfl ?_
  refine JC.loop1 (fun k : Nat => [(0, w64 x), (2, .pointer (some ⟨bo, 0, none⟩)), (4, .int .i64 (k : Int))]) (fun k => [.own bo 224 ((longK x k).1.map byteV)])
    (fun k => k ≤ 8) (fun k => 8 - k) 0 (Nat.zero_le _) inferInstance ?_
  intro k hk
  repeat (first|refine Wa ?_|refine Wb ?_|refine Wc ?_|refine Wd ?_|refine We rfl ?_|refine Wf (by exact Vg) rfl ?_)
  refine JC.test (fun hlt => ?_) (fun hge => ?_)
  · have hlt' : k < 8 := by omega
    repeat (first|refine Wa ?_|refine Wb ?_|refine Wc ?_|refine Wd ?_|refine We rfl ?_|refine Wf (by first|exact Va|exact Vb|exact Vv (by omega)) rfl ?_|refine Wl ?_|refine Wn ?_)
    refine Wf (OpV.mul (by omega)) rfl ?_
    refine JO.reslot 11 (.int .i64 ((8 * k : Nat) : Int)) (by congr 1) ?_
    refine JO.reslot 8 (.int .i64 ((7 - k : Nat) : Int)) (by congr 1 <;> omega) ?_
    refine We rfl ?_
    refine Wf (OpV.shr64 (k := 8 * k) (by omega)) rfl ?_
    refine We rfl ?_
    refine Wf OpV.conv rfl ?_
    refine JO.reslot 13 (byteV (longB x k)) (congrArg (Value.int .u8) (by
      rw [wrap8, longB, UInt8.toNat_ofNat', shrN64, UInt64.toNat_ofNat', Nat.mod_eq_of_lt (a := x.toNat / _) (Nat.lt_of_le_of_lt (Nat.div_le_self _ _) x.toNat_lt)])) ?_
    refine We rfl ?_
    refine Wf (OpV.indexArr (k := 7 - k) (by omega)) rfl ?_
    refine We rfl ?_
    refine JR.setW (7 - k) (longB x k) (by rw [(longK x k).2]; omega) (by omega) rfl ?_
    rw [longK_set x k hlt']
    repeat (first|refine Wa ?_|refine Wc ?_|refine Wd ?_|refine We rfl ?_|refine Wf (by first|exact Va|exact Vk (by omega)) rfl ?_|refine Wr ?_)
    exact ⟨k + 1, by omega, by omega, inferInstance⟩
  · obtain rfl : k = 8 := by omega
    repeat (first|refine Wa ?_|refine Wb ?_|refine Wc ?_|refine Wd ?_|refine We rfl ?_|refine Wf (by exact Vc) rfl ?_|refine Wi ?_|refine Wm ?_|refine Wo ?_|refine Wp ?_|refine Ws ?_)
    exact CT.done () rfl (fun w ho => ho.ent)
end Ab
end Go.Proofs.YtdgeffphifgflaaGreat
