/-
  Lemmas and walks that the seat's cards rest on, merged: Sl4, Sl5, Sl6, Sl7, Sl8, Sl9, Sl10, Sl11, Sl12, Sl13, Sl14, Sl15, Sh, Lc, Rp, W1, W2. No statement of the set is proved here.
-/
import Derived.Test.YtgppllppddaodaaGreatDoorB1
import Derived.Orders
import Derived.Deep.LoopGhost
import Derived.OrdersHeld
import Derived.KernelRfl
import Derived.Lib.AppendStr
import Derived.Lib.UnsafeStr
import Derived.Lib.ConvBytes
import Derived.Lib.IfaceEq
import Derived.Stop.IfaceNil
import Derived.Lib.Builder
import Derived.Laws.Externs
import Derived.Laws.IdiomStrings
import Derived.Shelf.Strings.Builder1
import Derived.Shelf.Strings.Builder2
import Derived.Shelf.Strings.OnBuilder
import Derived.Shelf.Strings.Trim
import Derived.Shelf.Small.Utf8
import Derived.Shelf.Small.Strs
import Derived.Shelf.Strings.BuilderF
import Derived.Shelf.Strings.BuilderK
import Derived.Shelf.Utf8.RuneCount
import Derived.Shelf.Strconv.Itoa0
import Derived.Shelf.Strconv.Itoa1
import Derived.Shelf.LaysM
import Derived.Shelf.Strconv.Itoa2
import Derived.Shelf.Strconv.Itoa3
import Derived.Ground.MpProg
import Derived.Shelf.Pu.ParseUintPublic10
import Derived.Shelf.Pu.ErrVarParseUint
import Derived.Shelf.Strings.Search1
import Derived.Shelf.Strings.Search2
import Derived.Shelf.Strings.Search3
import Derived.Shelf.Strings.Count
import Derived.Shelf.Strings.Shaped
import Derived.Shelf.Strings.Prefix
import Derived.Shelf.Strings.Split
import Derived.Shelf.Strings.SplitShaped
import Derived.Shelf.Unicode.Decode
import Derived.Shelf.Strings.Runes
import Derived.Shelf.Strings.RuneCount
import Derived.Shelf.Strings.IndexAny
import Derived.Shelf.Strings.AsciiSet
import Derived.Shelf.Strings.IndexAnyAll
import Derived.Shelf.Strings.Explode
import Derived.Shelf.Bits.Mul64
import Derived.Shelf.Strings.Repeat
import Derived.Shelf.Unicode.DecodeSlow
import Derived.Shelf.Unicode.DecodeAny
import Derived.Shelf.Unicode.DecodeLast
import Derived.Test.YtgppllppddaodaaGreatDoorProg
import Derived.Shelf.Strings.SlTrimAscii
/-
  The rules for code: sequences, tests, blocks, loops, regions; functions by contract; calls.
-/
namespace Go.Proofs.YtgppllppddaodaaGreatDoor
namespace Sl
open Go

variable {P : Program} {N : Nat} {R : Heap} {ops : Array Oper} {rest : List Oper} {e : Env} {L : Heap} {K : Env → Heap → Prop} {Q : Exit → Env → Heap → Prop}
variable {w : World}

/-- Code c leads from e and L to Q. -/
def CW (P : Program) (N : Nat) (R : Heap) (c : Code) (e : Env) (L : Heap) (Q : Exit → Env → Heap → Prop) : Prop :=
  ∀ a w, St N R e L a w → c.wp P (fun x a' w' => ∃ e' L', Q x e' L' ∧ St N R e' L' a' w' ∧ Mv L w L' w') a w

def thenQ (next : Env → Heap → Prop) (Q : Exit → Env → Heap → Prop) : Exit → Env → Heap → Prop
  | .normal, e, L => next e L
  | x, e, L => Q x e L

theorem CW.mono {c : Code} {Q' : Exit → Env → Heap → Prop} (h : CW P N R c e L Q) (hq : ∀ x e L, Q x e L → Q' x e L) : CW P N R c e L Q' :=
  fun a w hst => wp_mono (h a w hst) fun _ _ _ ⟨e', L', hQ, r⟩ => ⟨e', L', hq _ _ _ hQ, r⟩

theorem cw_seq {c c' : Code} (h : CW P N R c e L (thenQ (fun e L => CW P N R c' e L Q) Q)) : CW P N R (.seq c c') e L Q := by
  intro a w hst
  refine wp_seq (wp_mono (h a w hst) ?_)
  rintro x a' w' ⟨e', L', hQ, hs, hm⟩
  cases x with
  | normal => exact wp_mono (hQ a' w' hs) fun _ _ _ ⟨e'', L'', hq, hs', hm'⟩ => ⟨e'', L'', hq, hs', hm.trans hm'⟩
  | _ => exact ⟨e', L', hQ, hs, hm⟩

theorem cw_skip (h : Q .normal e L) : CW P N R .skip e L Q := fun _ w hst => wp_skip ⟨e, L, h, hst, Mv.refl L w⟩
theorem cw_exit {id : Nat} (h : Q (.exit id) e L) : CW P N R (.exit id) e L Q := fun _ w hst => wp_exit ⟨e, L, h, hst, Mv.refl L w⟩
theorem cw_ret (h : Q .ret e L) : CW P N R .ret e L Q := fun _ w hst => wp_ret ⟨e, L, h, hst, Mv.refl L w⟩
theorem cw_label {l : Nat} (h : Q .normal e L) : CW P N R (.label l) e L Q := fun _ w hst => wp_label ⟨e, L, h, hst, Mv.refl L w⟩

theorem cw_if_t {c : Operand} {x y : Code} (hc : ev e c = some (.bool true)) (h : CW P N R x e L Q) : CW P N R (.cond c x y) e L Q :=
  fun a w hst => wp_cond_true (hst.env.ev hc) (h a w hst)
theorem cw_if_f {c : Operand} {x y : Code} (hc : ev e c = some (.bool false)) (h : CW P N R y e L Q) : CW P N R (.cond c x y) e L Q :=
  fun a w hst => wp_cond_false (hst.env.ev hc) (h a w hst)
theorem cw_if {c : Operand} {x y : Code} {b : Bool} (hc : ev e c = some (.bool b)) (ht : b = true → CW P N R x e L Q) (hf : b = false → CW P N R y e L Q) : CW P N R (.cond c x y) e L Q := by
  cases b
  · exact cw_if_f hc (hf rfl)
  · exact cw_if_t hc (ht rfl)
theorem cw_if_dec {c : Operand} {x y : Code} {p : Prop} [Decidable p] (hc : ev e c = some (.bool (decide p))) (ht : p → CW P N R x e L Q) (hf : ¬ p → CW P N R y e L Q) : CW P N R (.cond c x y) e L Q :=
  cw_if hc (fun h => ht (of_decide_eq_true h)) (fun h => hf (of_decide_eq_false h))

def blockQ (id : Nat) (Q : Exit → Env → Heap → Prop) : Exit → Env → Heap → Prop
  | .exit id', e, L => match Nat.beq id' id with
    | true => Q .normal e L
    | false => Q (.exit id') e L
  | x, e, L => Q x e L
theorem cw_block {id : Nat} {c : Code} (h : CW P N R c e L (blockQ id Q)) : CW P N R (.block id c) e L Q := by
  intro a w hst
  refine wp_block (wp_mono (h a w hst) ?_)
  rintro x a' w' ⟨e', L', hQ, hs, hm⟩
  cases x with
  | exit id' =>
    simp only [Exit.inBlock]
    by_cases hid : id' = id
    · subst hid
      have hb : Nat.beq id' id' = true := Nat.beq_refl id'
      simp only [blockQ, hb] at hQ
      simp only [if_true]
      exact ⟨e', L', hQ, hs, hm⟩
    · have : Nat.beq id' id = false := by rw [Bool.eq_false_iff]; exact fun hb => hid (Nat.eq_of_beq_eq_true hb)
      simp only [blockQ, this] at hQ
      simp only [hid, if_false]
      exact ⟨e', L', hQ, hs, hm⟩
  | _ => exact ⟨e', L', hQ, hs, hm⟩

/-- Less is known, less is owned. -/
theorem cw_weaken {c : Code} {e' : Env} {L' F : Heap} (he : EnvLe e' e) (hL : Split L L' F) (h : CW P N R c e' L' Q) : CW P N R c e L Q := by
  intro a w hst
  refine wp_mono (h a w ⟨hst.env.le he, hst.hp.split hL⟩) ?_
  rintro x a' w' ⟨e'', L'', hQ, hs, hm⟩
  refine ⟨e'', L'', hQ, hs, ⟨hm.os, hm.tape, hm.output, hm.size, fun k hk hn => hm.block k hk fun h' => hn (hL.keys k h'), fun k hk => (hm.new k hk).imp (hL.keys k) id⟩⟩

/-- A loop: its state at each round's head is one of a family; a number falls. -/
theorem cw_loop {α : Type} (env : α → Env) (hp : α → Heap) (W : α → Prop) (m : α → Nat) (x0 : α) {F0 : Heap} {c : Code} (h0 : W x0) (he : EnvLe (env x0) e) (hL : Split L (hp x0) F0)
    (round : ∀ x, W x → CW P N R c (env x) (hp x) (thenQ (fun e' L' => ∃ y F, W y ∧ m y < m x ∧ EnvLe (env y) e' ∧ Split L' (hp y) F) Q)) : CW P N R (.loop c) e L Q := by
  refine cw_weaken he hL ?_
  intro a w hst
  refine wp_loop_ghost (fun n a' w' => ∃ x, n = m x ∧ W x ∧ St N R (env x) (hp x) a' w' ∧ Mv (hp x0) w (hp x) w') (m x0) ⟨x0, rfl, h0, hst, Mv.refl _ _⟩ ?_
  rintro n a' w' ⟨x, rfl, hW, hs, hm⟩
  refine wp_mono (round x hW a' w' hs) ?_
  rintro ex a'' w'' ⟨e'', L'', hQ, hs', hm'⟩
  cases ex with
  | normal =>
    obtain ⟨y, F, hWy, hlt, hle, hsp⟩ := hQ
    exact ⟨m y, hlt, y, rfl, hWy, ⟨hs'.env.le hle, hs'.hp.split hsp⟩, (hm.trans hm').perm_right hsp.keys⟩
  | _ => exact ⟨e'', L'', hQ, hs', hm.trans hm'⟩

/-! ### Regions -/
theorem cw_region {id : Nat} {l : List Oper} (h : OpsW P N R l.toArray l e L (fun e L => Q .normal e L)) : CW P N R (.region id l.toArray false) e L Q := by
  intro a w hst
  refine wp_region_lit ?_
  exact h a w hst _ fun a' w' e' L' hK hs hm => ⟨e', L', hK, hs, hm⟩

/-- A region with code behind it. -/
theorem cw_regseq {id : Nat} {l : List Oper} {c : Code} (h : OpsW P N R l.toArray l e L (fun e L => CW P N R c e L Q)) : CW P N R (.seq (.region id l.toArray false) c) e L Q :=
  cw_seq (cw_region h)
theorem cw_regcond {id : Nat} {l : List Oper} (h : OpsW P N R l.toArray l e L (fun e L => Q .normal e L)) : CW P N R (.region id l.toArray false) e L Q := cw_region h

/-! ### Functions by contract -/
def FnW (P : Program) (f : FuncId) (args : List Value) (R L : Heap) (G : Value → Heap → Prop) : Prop :=
  ∀ w, Holds R L w → Calls P f args.toArray w fun x w' => ∃ v L', x = .returned v ∧ G v L' ∧ Holds R L' w' ∧ Mv L w L' w'

theorem FnW.mono {f : FuncId} {args : List Value} {G G' : Value → Heap → Prop} (h : FnW P f args R L G) (hg : ∀ v L', G v L' → G' v L') : FnW P f args R L G' :=
  fun w hh => (h w hh).mono fun _ _ ⟨v, L', e, hG, r⟩ => ⟨v, L', e, hg _ _ hG, r⟩

theorem holds_frame {Rc A F : Heap} (h : Holds R (A ++ F) w) (hR : ∀ p ∈ Rc, p ∈ R ∨ p ∈ F) : Holds Rc A w where
  ro p hp := (hR p hp).elim (h.ro p) (fun hf => h.own p (List.mem_append_right _ hf))
  own p hp := h.own p (List.mem_append_left _ hp)
  nd := by have := h.nd; rw [keys, List.map_append] at this; exact (List.nodup_append.1 this).1
  dj p hp hk := by
    rcases hR p hp with hr | hf
    · exact h.dj p hr (by rw [keys, List.map_append]; exact List.mem_append_left _ hk)
    · have := h.nd
      rw [keys, List.map_append, List.nodup_append] at this
      exact this.2.2 _ hk _ (List.mem_map_of_mem hf) rfl

/-- The frame: what the contract does not name stays. -/
theorem FnW.frame {f : FuncId} {args : List Value} {Rc A F : Heap} {G : Value → Heap → Prop} (h : FnW P f args Rc A G) (hs : Split L A F) (hR : ∀ p ∈ Rc, p ∈ R ∨ p ∈ F) : FnW P f args R L fun v L' => ∃ A', G v A' ∧ L' = A' ++ F := by
  intro w hh
  have hp := hh.perm hs.perm
  refine (h w (holds_frame hp hR)).mono ?_
  rintro x w' ⟨v, A', rfl, hG, hA, hm⟩
  have hnd := hp.nd
  rw [keys, List.map_append, List.nodup_append] at hnd
  have hFA : ∀ q ∈ F, q.1 ∉ keys A := fun q hq hk => hnd.2.2 _ hk _ (List.mem_map_of_mem hq) rfl
  have hkeep : ∀ q ∈ F, w'.heap[q.1]? = some q.2 := fun q hq => by
    rw [← hp.own q (List.mem_append_right _ hq)]
    exact hm.block _ (lt_of_some (hp.own q (List.mem_append_right _ hq))) (hFA q hq)
  have hkeepR : ∀ q ∈ R, w'.heap[q.1]? = some q.2 := fun q hq => by
    rw [← hp.ro q hq]
    exact hm.block _ (lt_of_some (hp.ro q hq)) fun hk => hp.dj q hq (by rw [keys, List.map_append]; exact List.mem_append_left _ hk)
  refine ⟨v, A' ++ F, rfl, ⟨A', hG, rfl⟩, ⟨hkeepR, fun q hq => ?_, ?_, fun q hq hk => ?_⟩, ⟨hm.os, hm.tape, hm.output, hm.size, fun k hk hn => hm.block k hk fun h' => hn (hs.keys k h'), fun k hk => ?_⟩⟩
  · rcases List.mem_append.1 hq with hq | hq
    · exact hA.own q hq
    · exact hkeep q hq
  · rw [keys, List.map_append, List.nodup_append]
    refine ⟨hA.nd, hnd.2.1, fun a ha b hb hab => ?_⟩
    obtain ⟨q, hq, rfl⟩ := List.mem_map.1 hb
    subst hab
    rcases hm.new _ ha with h1 | h1
    · exact hFA q hq h1
    · have := lt_of_some (hp.own q (List.mem_append_right _ hq)); omega
  · rw [keys, List.map_append] at hk
    rcases List.mem_append.1 hk with hk | hk
    · rcases hm.new _ hk with h1 | h1
      · exact hp.dj q hq (by rw [keys, List.map_append]; exact List.mem_append_left _ h1)
      · have := lt_of_some (hp.ro q hq); omega
    · exact hp.dj q hq (by rw [keys, List.map_append]; exact List.mem_append_right _ hk)
  · rw [keys, List.map_append] at hk
    rcases List.mem_append.1 hk with hk | hk
    · exact (hm.new k hk).imp (hs.keys k) id
    · exact .inl (((hs.perm.map Prod.fst).mem_iff).2 (by rw [List.map_append]; exact List.mem_append_right _ hk))

/-- A contract that leaves the world as it was. -/
theorem FnW.of_same {f : FuncId} {args : List Value} {v : Value} (h : ∀ w, Holds R L w → Calls P f args.toArray w fun x w' => x = .returned v ∧ w = w') : FnW P f args R L fun u L' => u = v ∧ L' = L :=
  fun w hh => (h w hh).mono fun _ _ ⟨hx, hw⟩ => ⟨v, L, hx, ⟨rfl, rfl⟩, hw ▸ hh, hw ▸ Mv.refl L w⟩
theorem FnW.of_same' {f : FuncId} {args : List Value} {v : Value} (h : ∀ w, Holds R L w → Calls P f args.toArray w fun x w' => x = .returned v ∧ w' = w) : FnW P f args R L fun u L' => u = v ∧ L' = L :=
  FnW.of_same fun w hh => (h w hh).mono fun _ _ ⟨hx, hw⟩ => ⟨hx, hw.symm⟩
theorem Holds.below {w w' : World} (h : Holds R L w) (hb : RowKit.Below w.heap.size w w') : Holds R L w' :=
  ⟨fun p hp => by rw [hb.block _ (lt_of_some (h.ro p hp))]; exact h.ro p hp, fun p hp => by rw [hb.block _ (lt_of_some (h.own p hp))]; exact h.own p hp, h.nd, h.dj⟩
theorem Mv.below {w w' : World} (hb : RowKit.Below w.heap.size w w') : Mv L w L w' := ⟨hb.os, hb.tape, hb.output, hb.size, fun k hk _ => hb.block k hk, fun _ h => .inl h⟩
/-- A contract that makes memory alone, of which nothing is kept. -/
theorem FnW.of_below {f : FuncId} {args : List Value} {G : Value → Prop} (h : ∀ w, Holds R L w → Calls P f args.toArray w fun x w' => ∃ v, x = .returned v ∧ G v ∧ RowKit.Below w.heap.size w w') : FnW P f args R L fun u L' => G u ∧ L' = L :=
  fun w hh => (h w hh).mono fun _ _ ⟨v, hx, hG, hb⟩ => ⟨v, L, hx, ⟨hG, rfl⟩, hh.below hb, Mv.below hb⟩

section
variable {d : Nat} {ty : TypeId} {pos : String} {af : Array Edge} {g : Option (Nat × Bool)} {x y : Operand} {v : Value}

theorem run_callFunc {f : FuncId} (hf : callT P f = true) (args : Array Value) : (callFunc f args).run P w = .ok (.enter f args) w := by
  unfold callT at hf
  unfold callFunc
  cases hu : P.funcs[f]? with
  | none => simp [hu] at hf
  | some fn =>
    simp [hu] at hf
    have h2 : fn.body.isNone = false := by cases hb : fn.body <;> simp_all
    simp [go_sem, hu, hf.1]
    intro h; simp [h] at h2

/-- The engine of calls: how the operation comes to enter f. -/
theorem ow_enter {o : Oper} {f : FuncId} {vs : List Value} {G : Value → Heap → Prop} (hw : wantedE ops e o = some true) (hd : ∀ t, o.dst = some t → t < N)
    (hrun : ∀ a w, EnvOk N e a → (execOp a.eval o).run P w = .ok (.enter f vs.toArray) w) (spec : FnW P f vs R L G)
    (k : ∀ v L', G v L' → OpsW P N R ops rest (putE o.dst v e) L' K) : OpsW P N R ops (o :: rest) e L K := by
  intro a w hst Q hQ
  unfold wpList
  rw [if_pos (by simpa using wanted_of hst.env hw)]
  left
  unfold Oper.wp
  rw [hrun a w hst.env]
  refine (spec w hst.hp).mono ?_
  rintro x w' ⟨v, L', rfl, hG, hh, hm⟩
  exact k v L' hG _ _ ⟨hst.env.putE hd v, hh⟩ Q fun a' w'' e' L'' hK hs hm' => hQ a' w'' e' L'' hK hs (hm.trans hm')

theorem run_call {N : Nat} {e : Env} {a : Act} (h : EnvOk N e a) {f : FuncId} {xs : Array Operand} {ts : Array TypeId} {vs : List Value} {dst : Option Tmp} (hxs : xs.toList.map (ev e) = vs.map some) (hf : callT P f = true) : 
    (execOp a.eval ⟨dst, .call ⟨.value (.func f), xs, ts⟩, ty, pos, af, g⟩).run P w = .ok (.enter f vs.toArray) w := by
  have h1 := evs_of h xs vs hxs
  simp only [execOp, resolve, h1, Act.eval, Deferred.ofValue, Sem.run_bind, Sem.run_pure, Result.andThen_ok, invoke]
  simpa using run_callFunc hf vs.toArray

/-- A call of a named function. -/
theorem ow_call {f : FuncId} {xs : Array Operand} {ts : Array TypeId} {vs : List Value} {G : Value → Heap → Prop} (hw : wantedE ops e ⟨some d, .call ⟨.value (.func f), xs, ts⟩, ty, pos, af, g⟩ = some true) (hd : Nat.blt d N = true)
    (hxs : xs.toList.map (ev e) = vs.map some) (hf : callT P f = true) (spec : FnW P f vs R L G)
    (k : ∀ v L', G v L' → OpsW P N R ops rest ((d, v) :: e) L' K) : OpsW P N R ops (⟨some d, .call ⟨.value (.func f), xs, ts⟩, ty, pos, af, g⟩ :: rest) e L K :=
  ow_enter hw (dlt hd) (fun _a _w h => run_call h hxs hf) spec k

/-- A call of a function value that the code itself has made. -/
theorem ow_callVal {f : FuncId} {c : Operand} {xs : Array Operand} {ts : Array TypeId} {vs cs : List Value} {G : Value → Heap → Prop} (hw : wantedE ops e ⟨some d, .call ⟨.value c, xs, ts⟩, ty, pos, af, g⟩ = some true) (hd : Nat.blt d N = true)
    (hc : ev e c = some (.func (.func f) #[] cs.toArray)) (hxs : xs.toList.map (ev e) = vs.map some) (hf : callT P f = true) (spec : FnW P f (vs ++ cs) R L G)
    (k : ∀ v L', G v L' → OpsW P N R ops rest ((d, v) :: e) L' K) : OpsW P N R ops (⟨some d, .call ⟨.value c, xs, ts⟩, ty, pos, af, g⟩ :: rest) e L K :=
  ow_enter hw (dlt hd) (fun a w h => by
    have h1 := evs_of h xs vs hxs
    simp only [execOp, resolve, h1, h.ev hc, Deferred.ofValue, Sem.run_bind, Sem.run_pure, Result.andThen_ok, invoke]
    simpa using run_callFunc (w := w) hf (vs.toArray ++ cs.toArray)) spec k
end

/-! ### Entering a function -/
def envOf : List Value → Nat → Env
  | [], _ => []
  | v :: vs, i => (i, v) :: envOf vs (i + 1)
theorem envOf_get : ∀ (vs : List Value) (i t : Nat) (v : Value), Env.get (envOf vs i) t = some v → i ≤ t ∧ vs[t - i]? = some v
  | [], _, _, _, h => by simp [envOf, Env.get] at h
  | u :: vs, i, t, v, h => by
    simp only [envOf] at h
    rw [Env.get_cons] at h
    by_cases hit : i = t
    · subst hit; simp only [if_true] at h; simp [Option.some.inj h]
    · simp only [hit, if_false] at h
      obtain ⟨h1, h2⟩ := envOf_get vs (i + 1) t v h
      refine ⟨by omega, ?_⟩
      have : t - i = (t - (i + 1)) + 1 := by omega
      rw [this]; simpa using h2

/-- What a result's variable holds. -/
inductive Res1 (P : Program) (R L : Heap) (e : Env) : ResultVar → Value → Prop
  | tmp {t : Nat} {v : Value} : Env.get e t = some v → Res1 P R L e (.tmp t) v
  | cell {t b o : Nat} {T T' : TypeId} {f : Nat × Nat} {l : List Value} {v : Value} : Env.get e t = some (.pointer (some ⟨b, o, none⟩)) → plainT P T = true → In (b, .cells l.toArray T' f) R L → l[o]? = some v → Res1 P R L e (.cell t T) v
  | agg {t b o n : Nat} {T T' : TypeId} {f : Nat × Nat} {l vs : List Value} : Env.get e t = some (.pointer (some ⟨b, o, none⟩)) → aggT P T = true → sizeT P T = some n → In (b, .cells l.toArray T' f) R L → Sub l o n vs → Res1 P R L e (.cell t T) (.agg vs.toArray)

def rv1 (tmps : Array Value) : ResultVar → Sem Value
  | .tmp t => pure (tmps.getD t undef)
  | .cell a t => do loadVar t (← asAddr (tmps.getD a undef))

theorem run_loadVar_agg {b o n : Nat} {T T' : TypeId} {f : Nat × Nat} {l vs : List Value} (h : w.heap[b]? = some (.cells l.toArray T' f)) (ht : aggT P T = true) (hs : sizeT P T = some n) (hl : (l.drop o).take n = vs) (hn : vs.length = n) : (loadVar T ⟨b, o, none⟩).run P w = .ok (.agg vs.toArray) w := by
  have h3 : (loadCells ⟨b, o, none⟩ n).run P w = .ok vs.toArray w := by
    have := run_loadCells_list (P := P) (w := w) ⟨b, o, none⟩ vs (fun j u hj => by
      rw [add_addr, cellB_of h]
      rw [← hl, List.getElem?_take] at hj
      split at hj
      · rwa [List.getElem?_drop] at hj
      · cases hj)
    rw [hn] at this
    exact this
  unfold loadCells at h3
  unfold loadVar
  simp [go_sem, run_isAgg_agg ht, run_sizeOf hs, h3]
theorem run_loadVar_plain {b o : Nat} {T T' : TypeId} {f : Nat × Nat} {l : List Value} {v : Value} (h : w.heap[b]? = some (.cells l.toArray T' f)) (ht : plainT P T = true) (hl : l[o]? = some v) : (loadVar T ⟨b, o, none⟩).run P w = .ok v w := by
  unfold loadVar
  simp [go_sem, run_isAgg_plain ht, cellB_of h, hl]

theorem Res1.run {N : Nat} {a : Act} {r : ResultVar} {v : Value} (h : Res1 P R L e r v) (he : EnvOk N e a) (hh : Holds R L w) : (rv1 a.tmps r).run P w = .ok v w := by
  have get : ∀ t v, Env.get e t = some v → a.tmps.getD t undef = v := fun t v ht => by
    simp [Array.getD_eq_getD_getElem?, he.get t v ht]
  cases h with
  | tmp ht => simp only [rv1, get _ _ ht]; rfl
  | cell ht hp hm hl =>
    have := run_loadVar_plain (P := P) (hm.get hh) hp hl
    simp only [rv1, get _ _ ht, asAddr, Sem.run_bind, Sem.run_pure, Result.andThen_ok, this]
  | agg ht hp hs hm hsub =>
    obtain ⟨hl, hn⟩ := hsub.eq
    have := run_loadVar_agg (P := P) (hm.get hh) hp hs hl hn
    simp only [rv1, get _ _ ht, asAddr, Sem.run_bind, Sem.run_pure, Result.andThen_ok, this]

inductive Res (P : Program) (R L : Heap) (e : Env) : List ResultVar → Value → Prop
  | none : Res P R L e [] (.tuple #[])
  | one {r : ResultVar} {v : Value} : Res1 P R L e r v → Res P R L e [r] v
  | two {r r' : ResultVar} {v v' : Value} : Res1 P R L e r v → Res1 P R L e r' v' → Res P R L e [r, r'] (.tuple #[v, v'])
  | three {r r' r'' : ResultVar} {v v' v'' : Value} : Res1 P R L e r v → Res1 P R L e r' v' → Res1 P R L e r'' v'' → Res P R L e [r, r', r''] (.tuple #[v, v', v''])
  | four {r r' r'' r3 : ResultVar} {v v' v'' v3 : Value} : Res1 P R L e r v → Res1 P R L e r' v' → Res1 P R L e r'' v'' → Res1 P R L e r3 v3 → Res P R L e [r, r', r'', r3] (.tuple #[v, v', v'', v3])

theorem results_rv (fn : Func) (tmps : Array Value) : results fn tmps = (do let vs ← fn.results.mapM (rv1 tmps); pure (if h : vs.size = 1 then vs[0] else .tuple vs)) := by
  unfold results
  congr 2

theorem Res.run {N : Nat} {a : Act} {fn : Func} {rs : List ResultVar} {v : Value} (hr : fn.results = rs.toArray) (h : Res P R L e rs v) (he : EnvOk N e a) (hh : Holds R L w) : (results fn a.tmps).run P w = .ok v w := by
  rw [results_rv, hr]
  cases h with
  | none => simp [go_sem]
  | one h1 => simp [go_sem, h1.run he hh]
  | two h1 h2 => simp [go_sem, h1.run he hh, h2.run he hh]
  | three h1 h2 h3 => simp [go_sem, h1.run he hh, h2.run he hh, h3.run he hh]
  | four h1 h2 h3 h4 => simp [go_sem, h1.run he hh, h2.run he hh, h3.run he hh, h4.run he hh]

/-- What a body's end must show. -/
def bodyQ (P : Program) (R : Heap) (rs : List ResultVar) (G : Value → Heap → Prop) : Exit → Env → Heap → Prop
  | .normal, e, L | .ret, e, L => ∃ v, Res P R L e rs v ∧ G v L
  | _, _, _ => False

theorem fn_of_body {f : FuncId} {fn : Func} {c : Code} {rs : List ResultVar} {args : List Value} {G : Value → Heap → Prop} (hf : P.funcs[f]? = some fn) (hb : fn.body = some c) (hN : fn.ntmps = N) (hr : fn.results = rs.toArray) (hl : Nat.ble args.length N = true)
    (h : CW P N R c (envOf args 0) L (bodyQ P R rs G)) : FnW P f args R L G := by
  intro w hh
  refine calls_of_wp hf hb ?_
  have hl' : args.length ≤ N := Nat.le_of_ble_eq_true hl
  have hst : St N R (envOf args 0) L { tmps := args.toArray ++ Array.replicate (fn.ntmps - args.toArray.size) undef, defers := [] } w := by
    refine ⟨⟨by simp [hN]; omega, rfl, fun t v ht => ?_⟩, hh⟩
    obtain ⟨_, h2⟩ := envOf_get args 0 t v ht
    rw [Nat.sub_zero] at h2
    have hlt : t < args.length := by
      rcases Nat.lt_or_ge t args.length with h' | h'
      · exact h'
      · simp [List.getElem?_eq_none h'] at h2
    rw [Array.getElem?_append_left (by simpa using hlt)]
    simpa using h2
  refine wp_mono (h _ w hst) ?_
  rintro x a' w' ⟨e', L', hQ, hs, hm⟩
  cases x with
  | normal => obtain ⟨v, hres, hG⟩ := hQ; exact ⟨hs.env.defers, v, hres.run hr hs.env hs.hp, v, L', rfl, hG, hs.hp, hm⟩
  | ret => obtain ⟨v, hres, hG⟩ := hQ; exact ⟨hs.env.defers, v, hres.run hr hs.env hs.hp, v, L', rfl, hG, hs.hp, hm⟩
  | _ => exact hQ.elim

end Sl
end Go.Proofs.YtgppllppddaodaaGreatDoor

/-
  Struct and slice literals, ranges over strings, maps keyed by strings, splits of unknown bools.
-/
namespace Go.Proofs.YtgppllppddaodaaGreatDoor
namespace Sl
open Go

variable {P : Program} {N : Nat} {R : Heap} {ops : Array Oper} {rest : List Oper} {e : Env} {L : Heap} {K : Env → Heap → Prop} {Q : Exit → Env → Heap → Prop}
variable {w : World}

/-- An unknown bool in a slot is one or the other. -/
theorem ow_split {t : Nat} {b : Bool} {l : List Oper} (hx : Env.get e t = some (.bool b)) (kt : b = true → OpsW P N R ops l ((t, .bool true) :: e) L K) (kf : b = false → OpsW P N R ops l ((t, .bool false) :: e) L K) : OpsW P N R ops l e L K := by
  have key : ∀ c, b = c → ∀ a : Act, EnvOk N e a → EnvOk N ((t, .bool c) :: e) a := by
    rintro c rfl a h
    refine ⟨h.size, h.defers, fun u v hu => ?_⟩
    rw [Env.get_cons] at hu
    by_cases htu : t = u
    · subst htu; simp only [if_true] at hu; rw [← hu]; exact h.get _ _ hx
    · simp only [htu, if_false] at hu; exact h.get u v hu
  intro a w hst
  cases hb : b with
  | true => exact kt hb a w ⟨key _ hb _ hst.env, hst.hp⟩
  | false => exact kf hb a w ⟨key _ hb _ hst.env, hst.hp⟩

/-- Parts put into cells. -/
inductive FillL (pf : Nat → Option (Nat × Nat)) : List Value → List (Nat × Value) → List Value → Prop
  | nil {zs : List Value} : FillL pf zs [] zs
  | cons {zs zs' vs cs : List Value} {i off size : Nat} {v : Value} {r : List (Nat × Value)} : pf i = some (off, size) → v.cells = cs.toArray → cs.length = size → SetLs zs off cs zs' → FillL pf zs' r vs → FillL pf zs ((i, v) :: r) vs

section
variable {d : Nat} {ty : TypeId} {pos : String} {af : Array Edge} {g : Option (Nat × Bool)} {x y : Operand} {v : Value}

inductive EvPs (e : Env) : List (Nat × Operand) → List (Nat × Value) → Prop
  | nil : EvPs e [] []
  | cons {i : Nat} {o : Operand} {v : Value} {l : List (Nat × Operand)} {pv : List (Nat × Value)} : ev e o = some v → EvPs e l pv → EvPs e ((i, o) :: l) ((i, v) :: pv)
theorem EvPs.eq {e : Env} {l : List (Nat × Operand)} {pv : List (Nat × Value)} (h : EvPs e l pv) : l.map (fun q => (ev e q.2).map (Prod.mk q.1)) = pv.map some := by
  induction h with
  | nil => rfl
  | cons h1 _ ih => simp [h1, ih]

theorem parts_of {N : Nat} {e : Env} {a : Act} (h : EnvOk N e a) (ps : Array (Nat × Operand)) (pv : List (Nat × Value)) (hv : ps.toList.map (fun q => (ev e q.2).map (Prod.mk q.1)) = pv.map some) : ps.map (fun q => (q.1, a.eval q.2)) = pv.toArray := by
  apply Array.ext'
  rw [Array.toList_map]
  generalize ps.toList = l at hv
  induction l generalizing pv with
  | nil => cases pv <;> simp_all
  | cons o l ih =>
    cases pv with
    | nil => simp at hv
    | cons u vs =>
      simp only [List.map_cons, List.cons.injEq] at hv
      simp only [List.map_cons, List.cons.injEq]
      refine ⟨?_, ih vs hv.2⟩
      cases ho : ev e o.2 with
      | none => simp [ho] at hv
      | some q => simp [ho] at hv; rw [← hv.1, h.ev ho]

/-- A struct's literal. FillL reckons what it is; the kernel holds it against the model. -/
theorem ow_build {t : TypeId} {ps : Array (Nat × Operand)} {pv : List (Nat × Value)} {zs vs : List Value} (pf : Nat → Option (Nat × Nat)) (hw : wantedE ops e ⟨some d, .build t ps, ty, pos, af, g⟩ = some true) (hd : Nat.blt d N = true)
    (hv : EvPs e ps.toList pv) (_hf : FillL pf zs pv vs) (hr : ∀ w, (Instr.build t pv.toArray).run P w = .ok (.agg vs.toArray) w)
    (k : OpsW P N R ops rest ((d, .agg vs.toArray) :: e) L K) : OpsW P N R ops (⟨some d, .build t ps, ty, pos, af, g⟩ :: rest) e L K :=
  ow_pure rfl hw hd (fun a w h => by
    have h1 := parts_of h ps pv hv.eq
    have h2 := hr w
    simp only [execOp, h1, Sem.run_bind, h2, Result.andThen_ok, Sem.run_pure]) k

theorem ow_buildSlice {t el : TypeId} {n : Nat} {ps : Array (Nat × Operand)} {pv : List (Nat × Value)} {zs vs : List Value} (pf : Nat → Option (Nat × Nat)) (hw : wantedE ops e ⟨some d, .buildSlice t n ps, ty, pos, af, g⟩ = some true) (hd : Nat.blt d N = true)
    (hv : EvPs e ps.toList pv) (_hf : FillL pf zs pv vs) (hr : ∀ w : World, (Instr.buildSlice t n pv.toArray).run P w = .ok (.slice (some ⟨w.heap.size, 0, none⟩) n n) { w with heap := w.heap.push (cb vs el) })
    (k : ∀ b, OpsW P N R ops rest ((d, .slice (some ⟨b, 0, none⟩) n n) :: e) ((b, cb vs el) :: L) K) : OpsW P N R ops (⟨some d, .buildSlice t n ps, ty, pos, af, g⟩ :: rest) e L K :=
  ow_runEx (fun v L' => ∃ b, v = .slice (some ⟨b, 0, none⟩) n n ∧ L' = (b, cb vs el) :: L) hw (dlt hd) (fun a w hst =>
    ⟨_, _, _, ⟨w.heap.size, rfl, rfl⟩, by
      have h1 := parts_of hst.env ps pv hv.eq
      have h2 := hr w
      simp only [execOp, h1, Sem.run_bind, h2, Result.andThen_ok, Sem.run_pure], hst.hp.alloc _, Mv.alloc _ _ _⟩)
    (fun v L' ⟨b, hv, hL⟩ => by rw [hv, hL]; exact k b)

theorem ow_rangeStr {l : List UInt8} {t : TypeId} (hw : wantedE ops e ⟨some d, .range t x, ty, pos, af, g⟩ = some true) (hd : Nat.blt d N = true) (hx : ev e x = some (str l)) (ht : strT P t = true)
    (k : ∀ b, OpsW P N R ops rest ((d, .pointer (some ⟨b, 0, none⟩)) :: e) ((b, .stringIter (bs l) 0) :: L) K) : OpsW P N R ops (⟨some d, .range t x, ty, pos, af, g⟩ :: rest) e L K :=
  ow_runEx (fun v L' => ∃ b, v = .pointer (some ⟨b, 0, none⟩) ∧ L' = (b, .stringIter (bs l) 0) :: L) hw (dlt hd) (fun a w hst =>
    ⟨_, _, _, ⟨w.heap.size, rfl, rfl⟩, by
      simp only [execOp, hst.env.ev hx, Instr.range]
      simp [go_sem, run_underlying (underlying_str ht)], hst.hp.alloc _, Mv.alloc _ _ _⟩)
    (fun v L' ⟨b, hv, hL⟩ => by rw [hv, hL]; exact k b)

theorem setObj_of {b : Nat} {o o' : Obj} (h : w.heap[b]? = some o) (hc : ∀ c t f, o ≠ .cells c t f) : (setObj b o').run P w = .ok () (setBlk w b o') := by
  unfold setObj setBlk
  simp only [Sem.run]
  rw [h]
  cases o <;> simp at hc ⊢
theorem getObj_of {b : Nat} {o : Obj} (h : w.heap[b]? = some o) (hc : ∀ c t f, o ≠ .cells c t f) : (getObj b).run P w = .ok o w := by
  unfold getObj
  simp only [Sem.run]
  rw [h]
  cases o <;> simp at hc ⊢

theorem ow_next_over {l : List UInt8} {b i : Nat} (hw : wantedE ops e ⟨some d, .next x true, ty, pos, af, g⟩ = some true) (hd : Nat.blt d N = true) (hx : ev e x = some (.pointer (some ⟨b, 0, none⟩))) (hm : (b, .stringIter (bs l) i) ∈ L) (hi : l.length ≤ i)
    (k : OpsW P N R ops rest ((d, .tuple #[.bool false]) :: e) L K) : OpsW P N R ops (⟨some d, .next x true, ty, pos, af, g⟩ :: rest) e L K :=
  ow_run hw (dlt hd) (fun a w hst => by
    refine ⟨w, .inl ?_, hst.hp, Mv.refl _ _⟩
    have h1 := getObj_of (P := P) (hst.hp.own _ hm) (fun _ _ _ h => by cases h)
    have h2 : ¬ i < (bs l).size := by simp only [bs]; show ¬ i < l.length; omega
    simp only [execOp, hst.env.ev hx, Instr.next, Sem.run_bind, h1, Result.andThen_ok, if_neg h2, Sem.run_pure]) k

theorem ow_next_step {l : List UInt8} {b i : Nat} {L' : Heap} {c wd : Nat} (hw : wantedE ops e ⟨some d, .next x true, ty, pos, af, g⟩ = some true) (hd : Nat.blt d N = true) (hx : ev e x = some (.pointer (some ⟨b, 0, none⟩))) (hi : i < l.length) (hdec : Utf8.decode (bs l) i = (c, wd)) (hu : Upd b (.stringIter (bs l) i) (.stringIter (bs l) (i + wd)) L L')
    (k : OpsW P N R ops rest ((d, .tuple #[.bool true, .int .i64 i, .int .i32 c]) :: e) L' K) : OpsW P N R ops (⟨some d, .next x true, ty, pos, af, g⟩ :: rest) e L K :=
  ow_run hw (dlt hd) (fun a w hst => by
    refine ⟨setBlk w b (.stringIter (bs l) (i + wd)), .inl ?_, hst.hp.upd hu, Mv.upd hu⟩
    have h0 := hst.hp.own _ hu.mem
    have h1 := getObj_of (P := P) h0 (fun _ _ _ h => by cases h)
    have h3 := setObj_of (P := P) (o' := .stringIter (bs l) (i + wd)) h0 (fun _ _ _ h => by cases h)
    have h2 : i < (bs l).size := by simp only [bs]; show i < l.length; omega
    simp only [execOp, hst.env.ev hx, Instr.next, Sem.run_bind, h1, Result.andThen_ok, if_pos h2, hdec, h3, Sem.run_pure, goInt]) k

theorem get_bs (l : List UInt8) (i : Nat) {c : UInt8} (h : l[i]? = some c) : (bs l).get! i = c := by
  show (bs l).data[i]! = c
  simp only
  have hlt : i < l.length := by
    rcases Nat.lt_or_ge i l.length with h' | h'
    · exact h'
    · simp [List.getElem?_eq_none h'] at h
  rw [List.getElem?_eq_getElem hlt] at h
  simp [hlt, Option.some.inj h]

theorem decode_ascii {l : List UInt8} {i : Nat} {c : UInt8} (h : l[i]? = some c) (hc : c.toNat < 128) : Utf8.decode (bs l) i = (c.toNat, 1) := by
  unfold Utf8.decode
  have := get_bs l i h
  simp only [Nat.add_zero, this]
  rw [if_pos (by simpa using hc)]

/-- Of a byte beyond ASCII: some rune beyond ASCII, and some way on, in the string. -/
theorem decode_far {l : List UInt8} {i : Nat} {c : UInt8} (h : l[i]? = some c) (hc : 128 ≤ c.toNat) : ∃ r wd, Utf8.decode (bs l) i = (r, wd) ∧ 128 ≤ r ∧ r ≤ 0x10FFFF ∧ 1 ≤ wd ∧ i + wd ≤ l.length := by
  have hlt : i < l.length := by
    rcases Nat.lt_or_ge i l.length with h' | h'
    · exact h'
    · simp [List.getElem?_eq_none h'] at h
  have hsz : (bs l).size = l.length := rfl
  have hg := get_bs l i h
  have hb : c.toNat < 256 := c.toNat_lt
  unfold Utf8.decode
  simp only [Nat.add_zero, hg, hsz, Utf8.runeError]
  rw [if_neg (by omega)]
  split
  · rename_i h1
    simp only [Bool.and_eq_true, decide_eq_true_eq, beq_iff_eq] at h1
    split
    · exact ⟨_, _, rfl, by omega, by omega, by omega, by omega⟩
    · exact ⟨_, _, rfl, by omega, by omega, by omega, by omega⟩
  · split
    · rename_i h1
      simp only [Bool.and_eq_true, decide_eq_true_eq, beq_iff_eq] at h1
      split
      · rename_i h2
        simp only [ge_iff_le, Bool.and_eq_true, decide_eq_true_eq] at h2
        exact ⟨_, _, rfl, by omega, by omega, by omega, by omega⟩
      · exact ⟨_, _, rfl, by omega, by omega, by omega, by omega⟩
    · split
      · rename_i h1
        simp only [Bool.and_eq_true, decide_eq_true_eq, beq_iff_eq] at h1
        split
        · rename_i h2
          simp only [ge_iff_le, Bool.and_eq_true, decide_eq_true_eq, Utf8.valid, Bool.or_eq_true] at h2
          refine ⟨_, _, rfl, by omega, ?_, by omega, by omega⟩
          omega
        · exact ⟨_, _, rfl, by omega, by omega, by omega, by omega⟩
      · exact ⟨_, _, rfl, by omega, by omega, by omega, by omega⟩
end

/-! ### Maps keyed by strings -/
/-- The entries read as this list. -/
def MapS (es : Array MapEntry) (kv : List (List UInt8 × Value)) : Prop := es.toList.map (fun x => (x.key, x.val)) = kv.map fun p => (str p.1, p.2)
def mgetS (kv : List (List UInt8 × Value)) (k : List UInt8) : Option Value := (kv.find? fun p => decide (k = p.1)).map (·.2)
def msetS : List (List UInt8 × Value) → List UInt8 → Value → List (List UInt8 × Value)
  | [], k, v => [(k, v)]
  | p :: r, k, v => if k = p.1 then (k, v) :: r else p :: msetS r k v

theorem bytes_eq (a b : List UInt8) : ((⟨a.toArray⟩ : ByteArray) == ⟨b.toArray⟩) = decide (a = b) := by
  have h0 : ((⟨a.toArray⟩ : ByteArray) == ⟨b.toArray⟩) = (a.toArray == b.toArray) := rfl
  rw [h0]
  by_cases h : a = b <;> simp [h]
theorem str_inj {a b : List UInt8} (h : (⟨a.toArray⟩ : ByteArray) = ⟨b.toArray⟩) : a = b := by
  have h2 : a.toArray = b.toArray := congrArg ByteArray.data h
  exact congrArg Array.toList h2

theorem findNow_str (k : List UInt8) : ∀ (es : List MapEntry) (kv : List (List UInt8 × Value)) (i : Nat), es.map (fun x => (x.key, x.val)) = kv.map (fun p => (str p.1, p.2)) →
    ∃ r, Instr.findNow .string (str k) es i = some r ∧ r.map (·.2) = mgetS kv k ∧ (∀ j v, r = some (j, v) → i ≤ j ∧ ∃ x, es[j - i]? = some x ∧ x.key = str k ∧ ∀ j', j' < j - i → ∀ x', es[j']? = some x' → x'.key ≠ str k)
  | [], kv, i, h => by
    cases kv with
    | nil => exact ⟨none, rfl, rfl, fun _ _ h => by cases h⟩
    | cons _ _ => simp at h
  | x :: es, kv, i, h => by
    cases kv with
    | nil => simp at h
    | cons p kv =>
      simp only [List.map_cons, List.cons.injEq, Prod.mk.injEq] at h
      obtain ⟨⟨hk, hv⟩, hr⟩ := h
      have hsn : Instr.sameNow .string (str k) x.key = some (decide (k = p.1)) := by rw [hk]; show some (_ == _) = _; rw [bytes_eq]
      unfold Instr.findNow
      rw [hsn]
      by_cases hkp : k = p.1
      · subst hkp
        simp only
        refine ⟨_, rfl, by simp [mgetS, hv], fun j v hj => ?_⟩
        simp only [Option.some.injEq, Prod.mk.injEq] at hj
        obtain ⟨rfl, rfl⟩ := hj
        refine ⟨Nat.le_refl _, x, by simp, hk, fun j' hj' => ?_⟩
        omega
      · simp only [hkp, decide_false]
        obtain ⟨r, h1, h2, h3⟩ := findNow_str k es kv (i + 1) hr
        refine ⟨r, h1, by rw [h2]; simp [mgetS, hkp], fun j v hj => ?_⟩
        obtain ⟨h4, y, h5, h6, h7⟩ := h3 j v hj
        refine ⟨by omega, y, ?_, h6, fun j' hj' x' hx' => ?_⟩
        · have : j - i = (j - (i + 1)) + 1 := by omega
          rw [this]; simpa using h5
        · cases j' with
          | zero =>
            simp at hx'
            subst hx'
            rw [hk]; intro he; simp only [Value.string.injEq] at he; exact hkp (str_inj he).symm
          | succ j' => exact h7 j' (by omega) x' (by simpa using hx')

section
variable {d : Nat} {ty : TypeId} {pos : String} {af : Array Edge} {g : Option (Nat × Bool)} {x y z : Operand} {v : Value}

def mapStrT (P : Program) (t : TypeId) : Option TypeId := match P.underlying t with
  | some (.map k el) => if strT P k then some el else none
  | _ => none
theorem mapStrT_spec {t el : TypeId} (h : mapStrT P t = some el) : ∃ k, P.underlying t = some (.map k el) ∧ P.underlying k = some .string := by
  unfold mapStrT at h
  split at h
  · rename_i k el' hu
    split at h
    · rename_i hs; cases h; exact ⟨k, hu, underlying_str hs⟩
    · cases h
  · cases h
theorem run_checkKey_str {k : TypeId} (h : P.underlying k = some .string) (em : Bool) (a : ByteArray) : (Instr.checkKey em 10000 k (.string a)).run P w = .ok () w := by
  unfold Instr.checkKey
  simp only [Sem.run_bind, run_underlying h, Result.andThen_ok]
  rfl
theorem run_findKey_str {k : TypeId} (h : P.underlying k = some .string) {a : List UInt8} {es : List MapEntry} {r : Option (Nat × Value)} (hr : Instr.findNow .string (str a) es 0 = some r) : (Instr.findKey k (str a) es).run P w = .ok r w := by
  unfold Instr.findKey
  simp only [Sem.run_bind, run_underlying h, Result.andThen_ok, hr, Sem.run_pure]

theorem ow_lookupS {t el : TypeId} {b clk : Nat} {es : Array MapEntry} {kv : List (List UInt8 × Value)} {k : List UInt8} {zv : Value} (hw : wantedE ops e ⟨some d, .lookup t x y true, ty, pos, af, g⟩ = some true) (hd : Nat.blt d N = true)
    (hx : ev e x = some (.map (some b))) (hy : ev e y = some (str k)) (ht : mapStrT P t = some el) (hz : zeroT P el = some zv) (hm : In (b, .map es clk) R L) (hk : MapS es kv)
    (kk : OpsW P N R ops rest ((d, .tuple #[(mgetS kv k).getD zv, .bool (mgetS kv k).isSome]) :: e) L K) : OpsW P N R ops (⟨some d, .lookup t x y true, ty, pos, af, g⟩ :: rest) e L K :=
  ow_run hw (dlt hd) (fun a w hst => by
    refine ⟨w, .inl ?_, hst.hp, Mv.refl _ _⟩
    obtain ⟨key, hu, hks⟩ := mapStrT_spec ht
    have h1 := getObj_of (P := P) (hm.get hst.hp) (fun _ _ _ h => by cases h)
    obtain ⟨r, h2, h3, _⟩ := findNow_str k es.toList kv 0 hk
    have h4 := run_findKey_str (P := P) (w := w) hks h2
    have h5 := run_checkKey_str (P := P) (w := w) hks es.isEmpty ⟨k.toArray⟩
    have h6 := run_zeroValue (P := P) (w := w) hz
    simp only [execOp, hst.env.ev hx, hst.env.ev hy, Instr.lookup, Sem.run_bind, run_underlying hu, Result.andThen_ok, h1, Sem.run_pure, h5, h4]
    rw [← h3]
    cases r with
    | none => simp [h6]
    | some q => simp) kk

theorem ow_mapUpdateS {t el : TypeId} {b clk : Nat} {es : Array MapEntry} {kv : List (List UInt8 × Value)} {k : List UInt8} {A : Heap} (hw : wantedE ops e ⟨none, .mapUpdate t x y z, ty, pos, af, g⟩ = some true)
    (hx : ev e x = some (.map (some b))) (hy : ev e y = some (str k)) (hv : ev e z = some v) (ht : mapStrT P t = some el) (hm : Pick (b, .map es clk) L A) (hk : MapS es kv)
    (kk : ∀ es' clk', MapS es' (msetS kv k v) → OpsW P N R ops rest e ((b, .map es' clk') :: A) K) : OpsW P N R ops (⟨none, .mapUpdate t x y z, ty, pos, af, g⟩ :: rest) e L K := by
  obtain ⟨key, hu, hks⟩ := mapStrT_spec ht
  obtain ⟨r, h2, h3, h3'⟩ := findNow_str k es.toList kv 0 hk
  -- what the map is behind it
  have kvspec : ∀ (l : List MapEntry) (kv : List (List UInt8 × Value)), l.map (fun x => (x.key, x.val)) = kv.map (fun p => (str p.1, p.2)) →
      (mgetS kv k = none → (l ++ [({ key := str k, val := v, born := clk } : MapEntry)]).map (fun x : MapEntry => (x.key, x.val)) = (msetS kv k v).map fun p => (str p.1, p.2)) ∧
      (∀ j x, l[j]? = some x → x.key = str k → (∀ j', j' < j → ∀ x', l[j']? = some x' → x'.key ≠ str k) → (l.modify j (fun en : MapEntry => { en with key := str k, val := v })).map (fun x : MapEntry => (x.key, x.val)) = (msetS kv k v).map fun p => (str p.1, p.2)) := by
    intro l
    induction l with
    | nil =>
      intro kv h
      cases kv with
      | nil => exact ⟨fun _ => rfl, fun j x hx => by simp at hx⟩
      | cons _ _ => simp at h
    | cons q l ih =>
      intro kv h
      cases kv with
      | nil => simp at h
      | cons p kv =>
        simp only [List.map_cons, List.cons.injEq, Prod.mk.injEq] at h
        obtain ⟨⟨hqk, hqv⟩, hr⟩ := h
        obtain ⟨i1, i2⟩ := ih kv hr
        refine ⟨fun hn => ?_, fun j x hx hxk hbef => ?_⟩
        · by_cases hkp : k = p.1
          · simp [mgetS, hkp] at hn
          · have hn' : mgetS kv k = none := by simpa [mgetS, hkp] using hn
            have := i1 hn'
            simp only [List.cons_append, List.map_cons, msetS, if_neg hkp, hqk, hqv, this]
        · cases j with
          | zero =>
            simp at hx
            subst hx
            have hkp : k = p.1 := by rw [hqk] at hxk; simp only [Value.string.injEq] at hxk; exact (str_inj hxk).symm
            simp only [List.modify_zero_cons, List.map_cons, msetS, if_pos hkp, hr]
          | succ j =>
            have hkp : ¬ k = p.1 := fun h => hbef 0 (by omega) q (by simp) (by rw [hqk, h])
            have := i2 j x (by simpa using hx) hxk (fun j' hj' x' hx' => hbef (j' + 1) (by omega) x' (by simpa using hx'))
            simp only [List.modify_succ_cons, List.map_cons, msetS, if_neg hkp, this, hqk, hqv]
  refine ow_runSkip (o := ⟨none, .mapUpdate t x y z, ty, pos, af, g⟩) (fun L' => ∃ es' clk', MapS es' (msetS kv k v) ∧ L' = (b, .map es' clk') :: A) hw rfl (fun a w hst => ?_) (fun L' ⟨es', clk', h1, h2⟩ => by rw [h2]; exact kk es' clk' h1)
  have hpm := hst.hp.perm hm.perm
  have h0 := hpm.own _ (.head _)
  have h1 := getObj_of (P := P) h0 (fun _ _ _ h => by cases h)
  have h4 := run_findKey_str (P := P) (w := w) hks h2
  have h5 := run_checkKey_str (P := P) (w := w) hks false ⟨k.toArray⟩
  have hupd : ∀ o', Upd b (.map es clk) o' ((b, .map es clk) :: A) ((b, o') :: A) := fun o' => .here
  have hmv : ∀ o', Mv L w ((b, o') :: A) (setBlk w b o') := fun o' => by
    have := Mv.upd (w := w) (hupd o')
    refine ⟨this.os, this.tape, this.output, this.size, fun q hq hn => this.block q hq fun h' => hn ?_, fun q hq => (this.new q hq).imp (fun h' => ?_) id⟩
    · exact ((hm.perm.map Prod.fst).mem_iff).2 h'
    · exact ((hm.perm.map Prod.fst).mem_iff).2 h'
  cases r with
  | none =>
    have hso := setObj_of (P := P) (o' := .map (es.push { key := str k, val := v, born := clk }) (clk + 1)) h0 (fun _ _ _ h => by cases h)
    refine ⟨_, setBlk w b (.map (es.push { key := str k, val := v, born := clk }) (clk + 1)), ⟨_, _, ?_, rfl⟩, ?_, hpm.upd (hupd _), hmv _⟩
    · have := (kvspec es.toList kv hk).1 (by rw [← h3]; rfl)
      simpa [MapS] using this
    · simp only [execOp, hst.env.ev hx, hst.env.ev hy, hst.env.ev hv, Instr.mapUpdate, Sem.run_bind, run_underlying hu, Result.andThen_ok, h1, h5, h4, hso, Sem.run_pure]
  | some q =>
    obtain ⟨j, u⟩ := q
    obtain ⟨_, xx, h6, h7, h8⟩ := h3' j u rfl
    rw [Nat.sub_zero] at h6 h8
    have hso := setObj_of (P := P) (o' := .map (es.modify j fun en => { en with key := str k, val := v }) clk) h0 (fun _ _ _ h => by cases h)
    refine ⟨_, setBlk w b (.map (es.modify j fun en => { en with key := str k, val := v }) clk), ⟨_, _, ?_, rfl⟩, ?_, hpm.upd (hupd _), hmv _⟩
    · have := (kvspec es.toList kv hk).2 j xx h6 h7 h8
      simpa [MapS, Array.toList_modify] using this
    · have hkey : ((es[j]?).map (·.key)).getD (str k) = str k := by
        have : es[j]? = some xx := by simpa using h6
        rw [this]; simpa using h7
      have hst' : (Instr.keyThatStays (str k) (str k)).run P w = .ok (str k) w := by
        have hsb : Instr.sameBits 10000 (str k) (str k) = true := by
          show (_ == _) = true; rw [bytes_eq]; simp
        unfold Instr.keyThatStays
        rw [if_pos hsb]; rfl
      simp only [execOp, hst.env.ev hx, hst.env.ev hy, hst.env.ev hv, Instr.mapUpdate, Sem.run_bind, run_underlying hu, Result.andThen_ok, h1, h5, h4, hkey, hst', hso, Sem.run_pure]
end

end Sl
end Go.Proofs.YtgppllppddaodaaGreatDoor

/-
  What yields a value and leaves the world alone; regions that draw their order.
-/
namespace Go.Proofs.YtgppllppddaodaaGreatDoor
namespace Sl
open Go

variable {P : Program} {N : Nat} {R : Heap} {ops : Array Oper} {rest : List Oper} {e : Env} {L : Heap} {K : Env → Heap → Prop} {Q : Exit → Env → Heap → Prop}
variable {w : World}

/-- The operation yields v and leaves the world as it is. -/
def Yld (P : Program) (N : Nat) (R : Heap) (o : Oper) (e : Env) (L : Heap) (v : Value) : Prop :=
  ∀ a w, St N R e L a w → (execOp a.eval o).run P w = .ok (.value v) w

section
variable {d : Nat} {ty : TypeId} {pos : String} {af : Array Edge} {g : Option (Nat × Bool)} {x y : Operand} {v : Value}

theorem y_bin {op : BinOp} {t t' : TypeId} {vx vy : Value}  
    (hx : ev e x = some vx) (hy : ev e y = some vy) (hg : ∀ w, (eqGuard op t x y vx vy).run P w = .ok () w) (hr : ∀ w, (binOp op t vx vy).run P w = .ok v w) : Yld P N R ⟨some d, .binOp op t x y t', ty, pos, af, g⟩ e L (v) :=
  fun a w hst => (fun (h : EnvOk N e a) => by
    have h1 := h.ev hx
    have h2 := h.ev hy
    simp only [execOp, h1, h2]
    have hg' := hg w
    have hr' := hr w
    simp [go_sem, hg', hr']) hst.env

theorem y_move   (hx : ev e x = some v) : Yld P N R ⟨some d, .move x, ty, pos, af, g⟩ e L (v) :=
  fun a w hst => (fun (h : EnvOk N e a) => by rw [← h.ev hx]; rfl) hst.env

theorem y_assign   (hx : ev e x = some v) : Yld P N R ⟨some d, .assign x, ty, pos, af, g⟩ e L (v) :=
  fun a w hst => (fun (h : EnvOk N e a) => by rw [← h.ev hx]; rfl) hst.env

theorem y_pick_t {c : Operand}   (hc : ev e c = some (.bool true)) (hx : ev e x = some v) : Yld P N R ⟨some d, .pick c x y, ty, pos, af, g⟩ e L (v) :=
  fun a w hst => (fun (h : EnvOk N e a) => by
    have h1 := h.ev hx
    have h2 := h.ev hc
    show ((do pure (.value (if ← asBool (a.eval c) then a.eval x else a.eval y)) : Sem Next)).run P w = _
    rw [h2, h1]; rfl) hst.env

theorem y_pick_f {c : Operand}   (hc : ev e c = some (.bool false)) (hy : ev e y = some v) : Yld P N R ⟨some d, .pick c x y, ty, pos, af, g⟩ e L (v) :=
  fun a w hst => (fun (h : EnvOk N e a) => by
    have h1 := h.ev hy
    have h2 := h.ev hc
    show ((do pure (.value (if ← asBool (a.eval c) then a.eval x else a.eval y)) : Sem Next)).run P w = _
    rw [h2, h1]; rfl) hst.env

theorem y_nilCheck {ad : Addr}   (hx : ev e x = some (.pointer (some ad))) : Yld P N R ⟨some d, .nilCheck x, ty, pos, af, g⟩ e L (.pointer (some ad)) :=
  fun a w hst => (fun (h : EnvOk N e a) => by
    have h1 := h.ev hx
    simp only [execOp, h1]; rfl) hst.env

theorem y_makeFunc {fn : Fn} {first captured : Array Operand}  
    {fs cs : List Value} (hf : first.toList.map (ev e) = fs.map some) (hc : captured.toList.map (ev e) = cs.map some) : Yld P N R ⟨some d, .makeFunc fn first captured, ty, pos, af, g⟩ e L (.func fn fs.toArray cs.toArray) :=
  fun a w hst => (fun (h : EnvOk N e a) => by
    have key : ∀ (xs : Array Operand) (vs : List Value), xs.toList.map (ev e) = vs.map some → xs.map a.eval = vs.toArray := by
      intro xs vs hv
      apply Array.ext'
      rw [Array.toList_map]
      generalize xs.toList = l at hv
      induction l generalizing vs with
      | nil => cases vs <;> simp_all
      | cons o l ih =>
        cases vs with
        | nil => simp at hv
        | cons u vs =>
          simp only [List.map_cons, List.cons.injEq] at hv
          simp only [List.map_cons, List.cons.injEq]
          exact ⟨h.ev hv.1, ih vs hv.2⟩
    simp only [execOp, key _ _ hf, key _ _ hc]; rfl) hst.env

theorem y_add {t t' : TypeId} {k' : IntKind} {m n : Int}  
    (hx : ev e x = some (.int k' m)) (hy : ev e y = some (.int k' n)) : Yld P N R ⟨some d, .binOp .add t x y t', ty, pos, af, g⟩ e L (.int k' (k'.wrap (m + n))) :=
  y_bin hx hy (fun w => run_guard_int _ _ _ _ _ _ w) (fun w => (run_bin_arith t k' m n w).1 rfl)

theorem y_sub {t t' : TypeId} {k' : IntKind} {m n : Int}  
    (hx : ev e x = some (.int k' m)) (hy : ev e y = some (.int k' n)) : Yld P N R ⟨some d, .binOp .sub t x y t', ty, pos, af, g⟩ e L (.int k' (k'.wrap (m - n))) :=
  y_bin hx hy (fun w => run_guard_int _ _ _ _ _ _ w) (fun w => (run_bin_arith t k' m n w).2.1 rfl)

theorem y_mul {t t' : TypeId} {k' : IntKind} {m n : Int}  
    (hx : ev e x = some (.int k' m)) (hy : ev e y = some (.int k' n)) : Yld P N R ⟨some d, .binOp .mul t x y t', ty, pos, af, g⟩ e L (.int k' (k'.wrap (m * n))) :=
  y_bin hx hy (fun w => run_guard_int _ _ _ _ _ _ w) (fun w => (run_bin_arith t k' m n w).2.2 rfl)

theorem y_cmpB {op : BinOp} {t t' : TypeId} {k' : IntKind} {m n : Int} (hc : isCmp op = true)  
    (hx : ev e x = some (.int k' m)) (hy : ev e y = some (.int k' n)) : Yld P N R ⟨some d, .binOp op t x y t', ty, pos, af, g⟩ e L (.bool (decide (cmpP op m n))) :=
  y_bin hx hy (fun w => run_guard_int _ _ _ _ _ _ w) (fun w => run_cmp hc t k' m n w)

theorem y_fieldAddr {b o off i : Nat} {t : TypeId} (o' : Nat)  
    (hx : ev e x = some (.pointer (some ⟨b, o, none⟩))) (hf : fieldT P t i = some off) (ho : o + off = o') : Yld P N R ⟨some d, .fieldAddr t x i, ty, pos, af, g⟩ e L (.pointer (some ⟨b, o', none⟩)) :=
  fun a w hst => (fun (h : EnvOk N e a) => by
    have h1 := h.ev hx
    unfold fieldT at hf
    split at hf
    · rename_i fs hu
      split at hf
      · rename_i f hfi
        split at hf
        · rename_i n hs
          cases hf
          simp only [execOp, h1, Instr.fieldAt, Instr.sureAddr]
          simp [go_sem, run_underlying hu, hfi, run_sizeOf hs, add_addr, ho]
        · cases hf
      · cases hf
    · cases hf) hst.env

theorem y_indexAddr {b o sz len cap : Nat} {t el : TypeId} {kk : IntKind} {i : Nat}  
    (hx : ev e x = some (.slice (some ⟨b, o, none⟩) len cap)) (hy : ev e y = some (.int kk (i : Int))) (ht : elemT P t = some el) (hs : sizeT P el = some sz) (hi : i < len) : Yld P N R ⟨some d, .indexAddr t x y, ty, pos, af, g⟩ e L (.pointer (some ⟨b, o + i * sz, none⟩)) :=
  fun a w hst => (fun (h : EnvOk N e a) => by
    unfold elemT at ht
    split at ht
    · rename_i el' hu
      cases ht
      simp only [execOp, h.ev hx, h.ev hy, Instr.indexAt]
      have : (i : Int) < (len : Int) := by omega
      simp [go_sem, asIntOf, run_underlying hu, run_sizeOf hs, add_addr, hi]
    · cases ht) hst.env

theorem y_makeInterface {t : TypeId}   (hx : ev e x = some v) (ht : concreteT P t = true) : Yld P N R ⟨some d, .makeInterface t x, ty, pos, af, g⟩ e L (.iface t v) :=
  fun a w hst => (fun (h : EnvOk N e a) => by
    unfold concreteT at ht
    cases hu : P.underlying t with
    | none => simp [hu] at ht
    | some ds => cases ds <;> simp [hu] at ht <;> simp only [execOp, h.ev hx, Instr.makeInterface] <;> simp [go_sem, run_underlying hu]) hst.env

theorem y_convInt {s t : TypeId} {k' kd : IntKind} {n : Int}   (hx : ev e x = some (.int k' n)) (ht : convT P s t kd = true) : Yld P N R ⟨some d, .convert s t x, ty, pos, af, g⟩ e L (.int kd (kd.wrap n)) :=
  fun a w hst => (fun (h : EnvOk N e a) => by
    unfold convT at ht
    cases hu : P.underlying s with
    | none => simp [hu] at ht
    | some ds =>
      cases hu' : P.underlying t with
      | none => simp [hu, hu'] at ht
      | some dt =>
        cases ds <;> simp [hu, hu'] at ht
        cases dt <;> simp at ht
        subst ht
        simp only [execOp, h.ev hx, convert]
        simp [go_sem, run_underlying hu, run_underlying hu', Conv.intToInt]) hst.env

theorem y_assert_yes {st t : TypeId}   (hx : ev e x = some (.iface t v)) (ht : concreteT P t = true) : Yld P N R ⟨some d, .typeAssert x st t true, ty, pos, af, g⟩ e L (.tuple #[v, .bool true]) :=
  fun a w hst => (fun (h : EnvOk N e a) => by
    unfold concreteT at ht
    cases hu : P.underlying t with
    | none => simp [hu] at ht
    | some ds => cases ds <;> simp [hu] at ht <;> simp only [execOp, h.ev hx, Instr.typeAssert] <;> simp [go_sem, run_underlying hu]) hst.env

theorem y_assert_no {st t u : TypeId} {z : Value}   (hx : ev e x = some (.iface u v)) (hne : Nat.beq u t = false) (ht : concreteT P t = true) (hz : zeroT P t = some z) : Yld P N R ⟨some d, .typeAssert x st t true, ty, pos, af, g⟩ e L (.tuple #[z, .bool false]) :=
  fun a w hst => (fun (h : EnvOk N e a) => by
    unfold concreteT at ht
    have hne' : ¬ u = t := fun h => by subst h; simp at hne
    cases hu : P.underlying t with
    | none => simp [hu] at ht
    | some ds => cases ds <;> simp [hu] at ht <;> simp only [execOp, h.ev hx, Instr.typeAssert] <;> simp [go_sem, run_underlying hu, hne', run_zeroValue hz]) hst.env

theorem y_assert_nil {st t : TypeId} {z : Value}   (hx : ev e x = some .nilIface) (ht : concreteT P t = true) (hz : zeroT P t = some z) : Yld P N R ⟨some d, .typeAssert x st t true, ty, pos, af, g⟩ e L (.tuple #[z, .bool false]) :=
  fun a w hst => (fun (h : EnvOk N e a) => by
    unfold concreteT at ht
    cases hu : P.underlying t with
    | none => simp [hu] at ht
    | some ds => cases ds <;> simp [hu] at ht <;> simp only [execOp, h.ev hx, Instr.typeAssert] <;> simp [go_sem, run_underlying hu, run_zeroValue hz]) hst.env

theorem y_lenStr {l : List UInt8} {t : TypeId}   (hx : ev e x = some (str l)) (ht : strT P t = true) : Yld P N R ⟨some d, .call ⟨.builtin .len, #[x], #[t]⟩, ty, pos, af, g⟩ e L (.int .i64 l.length) :=
  fun a w hst => (fun (h : EnvOk N e a) => by
    have h1 := h.ev hx
    have hr : (Builtin.len_ #[t] ty #[str l]).run P w = .ok (goInt (⟨l.toArray⟩ : ByteArray).size) w := by
      unfold Builtin.len_; simp [go_sem, run_underlying (underlying_str ht)]
    simp only [execOp, resolve, invoke, builtin, h1, Sem.run_bind, Sem.run_pure, Result.andThen_ok, List.map_toArray, List.map_cons, List.map_nil, hr]
    rfl) hst.env

theorem y_lenSl {ad : Option Addr} {n c : Nat} {t el : TypeId}   (hx : ev e x = some (.slice ad n c)) (ht : elemT P t = some el) : Yld P N R ⟨some d, .call ⟨.builtin .len, #[x], #[t]⟩, ty, pos, af, g⟩ e L (.int .i64 n) :=
  fun a w hst => (fun (h : EnvOk N e a) => by
    have h1 := h.ev hx
    have hr : (Builtin.len_ #[t] ty #[.slice ad n c]).run P w = .ok (goInt n) w := by
      unfold Builtin.len_; simp [go_sem, run_underlying (underlying_slice ht)]
    simp only [execOp, resolve, invoke, builtin, h1, Sem.run_bind, Sem.run_pure, Result.andThen_ok, List.map_toArray, List.map_cons, List.map_nil, hr]
    rfl) hst.env

theorem y_idxStr {l : List UInt8} {t : TypeId} {kk : IntKind} {i : Nat} {c : UInt8}   (hx : ev e x = some (str l)) (hy : ev e y = some (.int kk (i : Int))) (ht : strT P t = true) (hi : l[i]? = some c) : Yld P N R ⟨some d, .index t x y, ty, pos, af, g⟩ e L (.int .u8 c.toNat) :=
  fun a w hst => (fun (h : EnvOk N e a) => by
    have h0 : (⟨l.toArray⟩ : ByteArray)[i]? = some c := by
      have hlt : i < l.length := by
        rcases Nat.lt_or_ge i l.length with h' | h'
        · exact h'
        · simp [List.getElem?_eq_none h'] at hi
      have hlt' : i < (⟨l.toArray⟩ : ByteArray).size := by simpa [ByteArray.size] using hlt
      rw [getElem?_pos (⟨l.toArray⟩ : ByteArray) i hlt']
      rw [List.getElem?_eq_getElem hlt] at hi
      rw [← hi]; congr 1
    simp only [execOp, h.ev hx, h.ev hy, Instr.index]
    simp [go_sem, asIntOf, run_underlying (underlying_str ht), h0]) hst.env

theorem y_sliceSl {ad : Option Addr} {n c sz : Nat} {t el : TypeId} {lo hi : Option Operand} {vlo vhi : Option Value} {i j : Nat}   (hx : ev e x = some (.slice ad n c)) (ht : elemT P t = some el) (hs : sizeT P el = some sz)
    (hlo : (lo.map (ev e)) = vlo.map some) (hhi : (hi.map (ev e)) = vhi.map some)
    (hi1 : (vlo = none ∧ i = 0) ∨ vlo = some (.int .i64 i)) (hj1 : (vhi = none ∧ j = n) ∨ vhi = some (.int .i64 j)) (h1 : i ≤ j) (h2 : j ≤ c) : Yld P N R ⟨some d, .slice t x lo hi none, ty, pos, af, g⟩ e L (.slice (if c = i then ad else ad.map (·.add (i * sz))) (j - i) (c - i)) :=
  fun a w hst => (fun (h : EnvOk N e a) => by
    have elo : lo.map a.eval = vlo := by
      cases lo with
      | none => cases vlo <;> simp_all
      | some o => cases vlo with
        | none => simp at hlo
        | some u => simp only [Option.map_some, Option.some.injEq] at hlo ⊢; exact h.ev hlo
    have ehi : hi.map a.eval = vhi := by
      cases hi with
      | none => cases vhi <;> simp_all
      | some o => cases vhi with
        | none => simp at hhi
        | some u => simp only [Option.map_some, Option.some.injEq] at hhi ⊢; exact h.ev hhi
    have hj2 : ((j : Nat) : Int) ≤ (c : Int) := by omega
    have hi2 : (i : Int) ≤ (j : Int) := by omega
    simp only [execOp, h.ev hx, elo, ehi, Instr.sliceAt]
    simp only [go_sem, Option.map_none]
    rcases hi1 with ⟨rfl, rfl⟩ | rfl <;> rcases hj1 with ⟨rfl, rfl⟩ | rfl <;>
      simp [go_sem, Instr.slice, Instr.sliceBounds, run_underlying (underlying_slice ht), Instr.sliceBound, asIntOf, run_sizeOf hs, h1, h2]) hst.env

theorem y_concat {l m : List UInt8} {t t' : TypeId}   (hx : ev e x = some (str l)) (hy : ev e y = some (str m)) (hb : l.length + m.length ≤ 9223372036854775807) : Yld P N R ⟨some d, .binOp .add t x y t', ty, pos, af, g⟩ e L (str (l ++ m)) :=
  y_bin hx hy (fun w => run_guard_str _ _ _ _ w) (fun w => by
    have h0 : ¬ ((((⟨l.toArray⟩ : ByteArray).size + (⟨m.toArray⟩ : ByteArray).size : Nat) : Int) > IntKind.i64.max) := by
      simp [ByteArray.size, IntKind.max, IntKind.signed, IntKind.bits]; omega
    simp only [binOp, Op.stringOp, if_neg h0]
    have : (⟨l.toArray⟩ : ByteArray) ++ ⟨m.toArray⟩ = ⟨(l ++ m).toArray⟩ := by
      apply ByteArray.ext; simp
    simp [go_sem, this])

theorem y_build {t : TypeId} {ps : Array (Nat × Operand)} {pv : List (Nat × Value)} {zs vs : List Value} (pf : Nat → Option (Nat × Nat))  
    (hv : EvPs e ps.toList pv) (_hf : FillL pf zs pv vs) (hr : ∀ w, (Instr.build t pv.toArray).run P w = .ok (.agg vs.toArray) w) : Yld P N R ⟨some d, .build t ps, ty, pos, af, g⟩ e L (.agg vs.toArray) :=
  fun a w hst => (fun (h : EnvOk N e a) => by
    have h1 := parts_of h ps pv hv.eq
    have h2 := hr w
    simp only [execOp, h1, Sem.run_bind, h2, Result.andThen_ok, Sem.run_pure]) hst.env

theorem y_next_over {l : List UInt8} {b i : Nat}   (hx : ev e x = some (.pointer (some ⟨b, 0, none⟩))) (hm : (b, .stringIter (bs l) i) ∈ L) (hi : l.length ≤ i) : Yld P N R ⟨some d, .next x true, ty, pos, af, g⟩ e L (.tuple #[.bool false]) :=
  fun a w hst => by
    have h1 := getObj_of (P := P) (hst.hp.own _ hm) (fun _ _ _ h => by cases h)
    have h2 : ¬ i < (bs l).size := by simp only [bs]; show ¬ i < l.length; omega
    simp only [execOp, hst.env.ev hx, Instr.next, Sem.run_bind, h1, Result.andThen_ok, if_neg h2, Sem.run_pure]

theorem y_lookupS {t el : TypeId} {b clk : Nat} {es : Array MapEntry} {kv : List (List UInt8 × Value)} {k : List UInt8} {zv : Value}  
    (hx : ev e x = some (.map (some b))) (hy : ev e y = some (str k)) (ht : mapStrT P t = some el) (hz : zeroT P el = some zv) (hm : In (b, .map es clk) R L) (hk : MapS es kv) : Yld P N R ⟨some d, .lookup t x y true, ty, pos, af, g⟩ e L (.tuple #[(mgetS kv k).getD zv, .bool (mgetS kv k).isSome]) :=
  fun a w hst => by
    obtain ⟨key, hu, hks⟩ := mapStrT_spec ht
    have h1 := getObj_of (P := P) (hm.get hst.hp) (fun _ _ _ h => by cases h)
    obtain ⟨r, h2, h3, _⟩ := findNow_str k es.toList kv 0 hk
    have h4 := run_findKey_str (P := P) (w := w) hks h2
    have h5 := run_checkKey_str (P := P) (w := w) hks es.isEmpty ⟨k.toArray⟩
    have h6 := run_zeroValue (P := P) (w := w) hz
    simp only [execOp, hst.env.ev hx, hst.env.ev hy, Instr.lookup, Sem.run_bind, run_underlying hu, Result.andThen_ok, h1, Sem.run_pure, h5, h4]
    rw [← h3]
    cases r with
    | none => simp [h6]
    | some q => simp

theorem y_extract {vs : List Value} {i : Nat} (hx : ev e x = some (.tuple vs.toArray)) (hi : vs[i]? = some v) : Yld P N R ⟨some d, .extract x i, ty, pos, af, g⟩ e L v :=
  fun a w hst => by
    have h1 := hst.env.ev hx
    simp only [execOp, h1, Instr.extract, List.getElem?_toArray, hi]; rfl
theorem y_not {t : TypeId} {b : Bool} (hx : ev e x = some (.bool b)) : Yld P N R ⟨some d, .unOp .not t x, ty, pos, af, g⟩ e L (.bool (!b)) :=
  fun a w h => by simp only [execOp, h.env.ev hx]; rfl
theorem y_load {b o : Nat} {l : List Value} {T t : TypeId} {f : Nat × Nat} (hx : ev e x = some (.pointer (some ⟨b, o, none⟩))) (ht : plainT P t = true) (hm : In (b, .cells l.toArray T f) R L) (hl : l[o]? = some v) : Yld P N R ⟨some d, .load t x, ty, pos, af, g⟩ e L v :=
  fun a w hst => by
    have h1 := hst.env.ev hx
    have h2 := hm.get hst.hp
    simp only [execOp, h1, Instr.loadAt, Instr.sureAddr]
    simp only [Sem.run_bind, run_loadVar_plain h2 ht hl, Result.andThen_ok, Sem.run_pure]
theorem y_loadAgg {b o n : Nat} {l vs : List Value} {T t : TypeId} {f : Nat × Nat} (hx : ev e x = some (.pointer (some ⟨b, o, none⟩))) (ht : aggT P t = true) (hs : sizeT P t = some n) (hm : In (b, .cells l.toArray T f) R L) (hsub : Sub l o n vs) : Yld P N R ⟨some d, .load t x, ty, pos, af, g⟩ e L (.agg vs.toArray) :=
  fun a w hst => by
    have h1 := hst.env.ev hx
    have h2 := hm.get hst.hp
    obtain ⟨hl, hn⟩ := hsub.eq
    simp only [execOp, h1, Instr.loadAt, Instr.sureAddr]
    simp only [Sem.run_bind, run_loadVar_agg h2 ht hs hl hn, Result.andThen_ok, Sem.run_pure]
theorem y_sliceStr {l : List UInt8} {t : TypeId} {lo hi : Option Operand} {vlo vhi : Option Value} {i j : Nat} (hx : ev e x = some (str l)) (ht : strT P t = true)
    (hlo : (lo.map (ev e)) = vlo.map some) (hhi : (hi.map (ev e)) = vhi.map some)
    (hi1 : (vlo = none ∧ i = 0) ∨ vlo = some (.int .i64 i)) (hj1 : (vhi = none ∧ j = l.length) ∨ vhi = some (.int .i64 j)) (h1 : i ≤ j) (h2 : j ≤ l.length) : Yld P N R ⟨some d, .slice t x lo hi none, ty, pos, af, g⟩ e L (str ((l.drop i).take (j - i))) :=
  fun a w hst => by
    have h := hst.env
    have elo : lo.map a.eval = vlo := by
      cases lo with
      | none => cases vlo <;> simp_all
      | some o => cases vlo with
        | none => simp at hlo
        | some u => simp only [Option.map_some, Option.some.injEq] at hlo ⊢; exact h.ev hlo
    have ehi : hi.map a.eval = vhi := by
      cases hi with
      | none => cases vhi <;> simp_all
      | some o => cases vhi with
        | none => simp at hhi
        | some u => simp only [Option.map_some, Option.some.injEq] at hhi ⊢; exact h.ev hhi
    have hr := run_sliceStr (P := P) ht ⟨l.toArray⟩ hi1 hj1 h1 h2 w
    rw [extract_bs] at hr
    simp only [execOp, h.ev hx, elo, ehi, Option.map_none, Sem.run_bind, Sem.run_pure, Result.andThen_ok, hr]
theorem y_add64 {t t' : TypeId} {m n : Int} (hx : ev e x = some (.int .i64 m)) (hy : ev e y = some (.int .i64 n)) (hb : -9223372036854775808 ≤ m + n ∧ m + n < 9223372036854775808) : Yld P N R ⟨some d, .binOp .add t x y t', ty, pos, af, g⟩ e L (.int .i64 (m + n)) := by
  have := y_add (P := P) (N := N) (R := R) (L := L) (d := d) (ty := ty) (pos := pos) (af := af) (g := g) (t := t) (t' := t') hx hy
  rwa [wrap64_id hb.1 hb.2] at this
theorem y_sub64 {t t' : TypeId} {m n : Int} (hx : ev e x = some (.int .i64 m)) (hy : ev e y = some (.int .i64 n)) (hb : -9223372036854775808 ≤ m - n ∧ m - n < 9223372036854775808) : Yld P N R ⟨some d, .binOp .sub t x y t', ty, pos, af, g⟩ e L (.int .i64 (m - n)) := by
  have := y_sub (P := P) (N := N) (R := R) (L := L) (d := d) (ty := ty) (pos := pos) (af := af) (g := g) (t := t) (t' := t') hx hy
  rwa [wrap64_id hb.1 hb.2] at this
end

/-! ### Regions that draw their order -/
/-- What is held through all of such a region. -/
def AnyW (P : Program) (N : Nat) (R Ls : Heap) (ops : Array Oper) (fuel : Nat) (listed : Array Bool) (e : Env) (L : Heap) (K : Env → Heap → Prop) : Prop :=
  ∀ a w, St N R e L a w → ∀ Q : Act → World → Prop, (∀ a' w' e' L', K e' L' → St N R e' L' a' w' → Mv L w L' w' → Q a' w') →
    wpAnyH P .any ops (fun x a w => match x with | .normal => Q a w | _ => False) (Holds R Ls) fuel listed a w

theorem oper_wp_congr {o : Oper} {a : Act} {next next' : Act → World → Prop} {Q Q' : Exit → Act → World → Prop} (h : o.wp P a w next Q) (hn : ∀ a w, next a w → next' a w) (hp : ∀ c a w, Q (.panic c) a w → Q' (.panic c) a w) (ho : LetsOut Q → LetsOut Q') : o.wp P a w next' Q' := by
  unfold Oper.wp at *
  generalize (execOp a.eval o).run P w = r at *
  cases r with
  | ok n w' =>
    cases n <;> simp only [Oper.upon] at h ⊢
    case value v => exact hn _ _ h
    case skip => exact hn _ _ h
    case defer d => exact hn _ _ h
    case enter f args => exact h.mono fun e w'' he => by cases e with
      | returned v => exact hn _ _ he
      | panicked c => exact hp _ _ _ he
      | outgrown => exact ho he
    case row r args => exact h.mono fun v w'' he => hn _ _ he
  | halt x w' => cases x <;> simp only [Oper.upon] at h ⊢; exact hp _ _ _ h

/-- An operation by its own rule, as a step of such a region. -/
theorem wpOp_of_opsW {o : Oper} {i : Nat} {a : Act} {K' : Act → World → Prop} {Qn : Act → World → Prop} (hi : ops[i]? = some o) (h : OpsW P N R ops [o] e L K) (hst : St N R e L a w)
    (hk : ∀ a' w' e' L', K e' L' → St N R e' L' a' w' → Mv L w L' w' → K' a' w') : wpOp P ops (fun x a w => match x with | .normal => Qn a w | _ => False) i K' a w := by
  have h1 := h a w hst (fun x a w => match x with | .normal => K' a w | _ => False) hk
  unfold wpOp
  rw [hi]
  simp only
  unfold wpList at h1
  split at h1
  · rename_i hw
    rw [if_pos hw]
    rcases h1 with h1 | ⟨h1, h2⟩
    · exact .inl (oper_wp_congr h1 (fun a w h => h) (fun _ _ _ h => h) (fun ⟨_, _, h⟩ => h.elim))
    · obtain ⟨_, _, h2⟩ := h2; exact h2.elim
  · rename_i hw
    rw [if_neg hw]
    exact h1

theorem any_take {Ls F : Heap} {fuel d : Nat} {listed : Array Bool} {v : Value} (i : Nat) {o : Oper} (hop : ops[i]? = some o) (hs : Region.noSelect ops = true) (hf : Region.free .any ops listed i = true) (hr : (Region.ready .any ops listed).contains i = true)
    (hw : wantedE ops e o = some true) (hdst : o.dst = some d) (hd : Nat.blt d N = true) (hsp : Split L Ls F) (hy : Yld P N R o e Ls v)
    (k : AnyW P N R Ls ops fuel (listed.setIfInBounds i true) ((d, v) :: e) L K) : AnyW P N R Ls ops (fuel + 1) listed e L K := by
  intro a w hst Q hQ
  refine wpAnyH_take (v := v) hop hs hf hr (fun c a w h => h) (.inl ⟨wanted_of hst.env hw, fun w' hh => hy a w' ⟨hst.env, hh⟩⟩) (hst.hp.split hsp) ?_
  refine k _ _ ⟨?_, hst.hp⟩ Q hQ
  rw [hdst]; exact hst.env.put (blt_lt hd) v
theorem any_skip {Ls F : Heap} {fuel d : Nat} {listed : Array Bool} (i : Nat) {o : Oper} (hop : ops[i]? = some o) (hs : Region.noSelect ops = true) (hf : Region.free .any ops listed i = true) (hr : (Region.ready .any ops listed).contains i = true)
    (hw : wantedE ops e o = some false) (hdst : o.dst = some d) (hd : Nat.blt d N = true) (hsp : Split L Ls F)
    (k : AnyW P N R Ls ops fuel (listed.setIfInBounds i true) ((d, undef) :: e) L K) : AnyW P N R Ls ops (fuel + 1) listed e L K := by
  intro a w hst Q hQ
  refine wpAnyH_take (v := undef) hop hs hf hr (fun c a w h => h) (.inr ⟨wanted_of hst.env hw, rfl⟩) (hst.hp.split hsp) ?_
  refine k _ _ ⟨?_, hst.hp⟩ Q hQ
  rw [hdst]; exact hst.env.put (blt_lt hd) undef
theorem any_done {Ls : Heap} {fuel : Nat} {listed : Array Bool} (hr : Region.ready .any ops listed = []) (h : K e L) : AnyW P N R Ls ops fuel listed e L K :=
  fun a w hst _Q hQ => wpAnyH_done hr (hQ a w e L h hst (Mv.refl L w)) fuel

/-- What is shown behind an operation that is carried out in such a region. -/
def NextW (P : Program) (N : Nat) (R Ls : Heap) (ops : Array Oper) (fuel : Nat) (listed : Array Bool) (K : Env → Heap → Prop) (e : Env) (L : Heap) : Prop :=
  (∃ F, Split L Ls F) ∧ AnyW P N R Ls ops fuel listed e L K
theorem nextW {Ls F : Heap} {fuel : Nat} {listed : Array Bool} (hsp : Split L Ls F) (h : AnyW P N R Ls ops fuel listed e L K) : NextW P N R Ls ops fuel listed K e L := ⟨⟨F, hsp⟩, h⟩
theorem wpOp_any {Ls : Heap} {fuel i : Nat} {listed : Array Bool} {a : Act} {o : Oper} {Q : Act → World → Prop} (hop : ops[i]? = some o) (hst : St N R e L a w) (hQ : ∀ a' w' e' L', K e' L' → St N R e' L' a' w' → Mv L w L' w' → Q a' w')
    (h : OpsW P N R ops [o] e L (NextW P N R Ls ops fuel (listed.setIfInBounds i true) K)) :
    wpOp P ops (fun x a w => match x with | .normal => Q a w | _ => False) i (fun a' w' => Holds R Ls w' ∧ wpAnyH P .any ops (fun x a w => match x with | .normal => Q a w | _ => False) (Holds R Ls) fuel (listed.setIfInBounds i true) a' w') a w :=
  wpOp_of_opsW hop h hst fun a' w' _e' _L' ⟨⟨_, hsp⟩, hk⟩ hs hm => ⟨hs.hp.split hsp, hk a' w' hs Q fun a'' w'' e'' L'' hK hs' hm' => hQ a'' w'' e'' L'' hK hs' (hm.trans hm')⟩
theorem any_one {Ls : Heap} {fuel : Nat} {listed : Array Bool} (i : Nat) {o : Oper} (hop : ops[i]? = some o) (hr : Region.ready .any ops listed = [i])
    (h : OpsW P N R ops [o] e L (NextW P N R Ls ops fuel (listed.setIfInBounds i true) K)) : AnyW P N R Ls ops (fuel + 1) listed e L K := by
  intro a w hst Q hQ
  refine wpAnyH_all hr (by simp) fun j hj => ?_
  simp only [List.mem_singleton] at hj
  subst hj
  exact wpOp_any hop hst hQ h
theorem any_two {Ls : Heap} {fuel : Nat} {listed : Array Bool} (i j : Nat) {o o' : Oper} (hop : ops[i]? = some o) (hop' : ops[j]? = some o') (hr : Region.ready .any ops listed = [i, j])
    (h : OpsW P N R ops [o] e L (NextW P N R Ls ops fuel (listed.setIfInBounds i true) K)) (h' : OpsW P N R ops [o'] e L (NextW P N R Ls ops fuel (listed.setIfInBounds j true) K)) : AnyW P N R Ls ops (fuel + 1) listed e L K := by
  intro a w hst Q hQ
  refine wpAnyH_all hr (by simp) fun m hm => ?_
  simp only [List.mem_cons, List.not_mem_nil, or_false] at hm
  rcases hm with rfl | rfl
  · exact wpOp_any hop hst hQ h
  · exact wpOp_any hop' hst hQ h'
theorem any_three {Ls : Heap} {fuel : Nat} {listed : Array Bool} (i j q : Nat) {o o' o'' : Oper} (hop : ops[i]? = some o) (hop' : ops[j]? = some o') (hop'' : ops[q]? = some o'') (hr : Region.ready .any ops listed = [i, j, q])
    (h : OpsW P N R ops [o] e L (NextW P N R Ls ops fuel (listed.setIfInBounds i true) K)) (h' : OpsW P N R ops [o'] e L (NextW P N R Ls ops fuel (listed.setIfInBounds j true) K)) (h'' : OpsW P N R ops [o''] e L (NextW P N R Ls ops fuel (listed.setIfInBounds q true) K)) : AnyW P N R Ls ops (fuel + 1) listed e L K := by
  intro a w hst Q hQ
  refine wpAnyH_all hr (by simp) fun m hm => ?_
  simp only [List.mem_cons, List.not_mem_nil, or_false] at hm
  rcases hm with rfl | rfl | rfl
  · exact wpOp_any hop hst hQ h
  · exact wpOp_any hop' hst hQ h'
  · exact wpOp_any hop'' hst hQ h''

/-- The beginning. -/
theorem cw_draw (Ls : Heap) {id n : Nat} {l : List Oper} (hmix : P.follows .mixedOrders = true) (hn : l.length = n)
    (h : AnyW P N R Ls l.toArray n (Array.replicate n false) e L (fun e L => Q .normal e L)) : CW P N R (.region id l.toArray true) e L Q := by
  intro a w hst
  have hst' : St N R e L a { w with drawn := w.drawn + 1 } := ⟨hst.env, hst.hp.drew _⟩
  have h1 := h a _ hst' (fun a' w' => ∃ e' L', Q .normal e' L' ∧ St N R e' L' a' w' ∧ Mv L w L' w') (fun a' w' e' L' hK hs hm => ⟨e', L', hK, hs, (Mv.drew L w (w.drawn + 1)).trans hm⟩)
  refine wp_mono (wp_region_held (P := P) (S := Holds R Ls) (id := id) hmix (by subst hn; simpa using h1)) ?_
  intro x a' w' hx
  cases x with
  | normal => exact hx
  | _ => exact hx.elim
theorem cw_drawseq (Ls : Heap) {id n : Nat} {l : List Oper} {c : Code} (hmix : P.follows .mixedOrders = true) (hn : l.length = n)
    (h : AnyW P N R Ls l.toArray n (Array.replicate n false) e L (fun e L => CW P N R c e L Q)) : CW P N R (.seq (.region id l.toArray true) c) e L Q :=
  cw_seq (cw_draw Ls hmix hn h)

end Sl
end Go.Proofs.YtgppllppddaodaaGreatDoor

/-
  Small rules that the printed walks use.
-/
namespace Go.Proofs.YtgppllppddaodaaGreatDoor
namespace Sl
open Go

variable {P : Program} {N : Nat} {R : Heap} {ops : Array Oper} {rest : List Oper} {e : Env} {L : Heap} {K : Env → Heap → Prop} {Q : Exit → Env → Heap → Prop}
variable {w : World}
section
variable {d : Nat} {ty : TypeId} {pos : String} {af : Array Edge} {g : Option (Nat × Bool)} {x y : Operand} {v : Value}

theorem ow_y {o : Oper} (hy : Yld P N R o e L v) (hw : wantedE ops e o = some true) (hdst : o.dst = some d) (hd : Nat.blt d N = true) (k : OpsW P N R ops rest ((d, v) :: e) L K) : OpsW P N R ops (o :: rest) e L K :=
  ow_run hw (fun t ht => by rw [hdst] at ht; cases ht; exact blt_lt hd) (fun a w hst => ⟨w, .inl (hy a w hst), hst.hp, Mv.refl _ _⟩) (by rw [hdst]; exact k)

theorem ow_cmp_t {op : BinOp} {t t' : TypeId} {k' : IntKind} {m n : Int} (hc : isCmp op = true) (hw : wantedE ops e ⟨some d, .binOp op t x y t', ty, pos, af, g⟩ = some true) (hd : Nat.blt d N = true)
    (hx : ev e x = some (.int k' m)) (hy : ev e y = some (.int k' n)) (h : cmpP op m n)
    (kt : OpsW P N R ops rest ((d, .bool true) :: e) L K) : OpsW P N R ops (⟨some d, .binOp op t x y t', ty, pos, af, g⟩ :: rest) e L K :=
  ow_cmp hc hw hd hx hy (fun _ => kt) (fun h' => absurd h h')
theorem ow_cmp_f {op : BinOp} {t t' : TypeId} {k' : IntKind} {m n : Int} (hc : isCmp op = true) (hw : wantedE ops e ⟨some d, .binOp op t x y t', ty, pos, af, g⟩ = some true) (hd : Nat.blt d N = true)
    (hx : ev e x = some (.int k' m)) (hy : ev e y = some (.int k' n)) (h : ¬ cmpP op m n)
    (kt : OpsW P N R ops rest ((d, .bool false) :: e) L K) : OpsW P N R ops (⟨some d, .binOp op t x y t', ty, pos, af, g⟩ :: rest) e L K :=
  ow_cmp hc hw hd hx hy (fun h' => absurd h' h) (fun _ => kt)

theorem run_ptr_nil {t el : TypeId} (h : P.underlying t = some (.pointer el)) (p : Option Addr) : (binOp .eql t (.pointer p) (.pointer none)).run P w = .ok (.bool p.isNone) w ∧ (binOp .neq t (.pointer p) (.pointer none)).run P w = .ok (.bool p.isSome) w := by
  have h1 : (Op.equal t (.pointer p) (.pointer none)).run P w = .ok p.isNone w := by
    unfold Op.equal Op.maxDepth Op.equalIn
    simp only [Sem.run_bind, run_underlying h, Result.andThen_ok]
    cases p <;> rfl
  constructor
  · simp only [binOp, Sem.run_bind, h1, Result.andThen_ok, Sem.run_pure]
  · simp only [binOp, Sem.run_bind, h1, Result.andThen_ok, Sem.run_pure]
    cases p <;> rfl
def ptrT (P : Program) (t : TypeId) : Bool := match P.underlying t with | some (.pointer _) => true | _ => false
theorem ptrT_spec {t : TypeId} (h : ptrT P t = true) : ∃ el, P.underlying t = some (.pointer el) := by
  unfold ptrT at h; split at h
  · exact ⟨_, by assumption⟩
  · cases h
theorem ow_ptreq {t t' : TypeId} {p : Option Addr} (hw : wantedE ops e ⟨some d, .binOp .eql t x y t', ty, pos, af, g⟩ = some true) (hd : Nat.blt d N = true) (hx : ev e x = some (.pointer p)) (hy : ev e y = some (.pointer none)) (ht : ptrT P t = true)
    (k : OpsW P N R ops rest ((d, .bool p.isNone) :: e) L K) : OpsW P N R ops (⟨some d, .binOp .eql t x y t', ty, pos, af, g⟩ :: rest) e L K :=
  let ⟨_, hu⟩ := ptrT_spec ht
  ow_bin hw hd hx hy (fun _ => run_guard_ptr _ _ _ _ _) (fun _ => (run_ptr_nil hu p).1) k
theorem ow_ptrne {t t' : TypeId} {p : Option Addr} (hw : wantedE ops e ⟨some d, .binOp .neq t x y t', ty, pos, af, g⟩ = some true) (hd : Nat.blt d N = true) (hx : ev e x = some (.pointer p)) (hy : ev e y = some (.pointer none)) (ht : ptrT P t = true)
    (k : OpsW P N R ops rest ((d, .bool p.isSome) :: e) L K) : OpsW P N R ops (⟨some d, .binOp .neq t x y t', ty, pos, af, g⟩ :: rest) e L K :=
  let ⟨_, hu⟩ := ptrT_spec ht
  ow_bin hw hd hx hy (fun _ => run_guard_ptr _ _ _ _ _) (fun _ => (run_ptr_nil hu p).2) k

theorem y_streqB {l m : List UInt8} {t t' : TypeId} (hx : ev e x = some (str l)) (hy : ev e y = some (str m)) : Yld P N R ⟨some d, .binOp .eql t x y t', ty, pos, af, g⟩ e L (.bool (decide (l = m))) :=
  y_bin hx hy (fun w => run_guard_str _ _ _ _ w) (fun w => (run_streq t l m w).1)
theorem y_strneB {l m : List UInt8} {t t' : TypeId} (hx : ev e x = some (str l)) (hy : ev e y = some (str m)) : Yld P N R ⟨some d, .binOp .neq t x y t', ty, pos, af, g⟩ e L (.bool (decide (l ≠ m))) :=
  y_bin hx hy (fun w => run_guard_str _ _ _ _ w) (fun w => (run_streq t l m w).2)
theorem ow_extract' {vs : List Value} {i : Nat} (hw : wantedE ops e ⟨some d, .extract x i, ty, pos, af, g⟩ = some true) (hd : Nat.blt d N = true) (hx : ev e x = some (.tuple vs.toArray)) (hi : vs[i]? = some v)
    (k : OpsW P N R ops rest ((d, v) :: e) L K) : OpsW P N R ops (⟨some d, .extract x i, ty, pos, af, g⟩ :: rest) e L K := ow_extract hw hd hx hi k
end

/-- Less is owned behind the call. -/
theorem FnW.drop {f : FuncId} {args : List Value} {G G' : Value → Heap → Prop} (h : FnW P f args R L G) (hg : ∀ v L', G v L' → ∃ L'' F, Split L' L'' F ∧ G' v L'') : FnW P f args R L G' :=
  fun w hh => (h w hh).mono fun _ _ ⟨v, L', e, hG, hH, hM⟩ => let ⟨L'', _, hs, hG'⟩ := hg v L' hG; ⟨v, L'', e, hG', hH.split hs, hM.perm_right hs.keys⟩
/-- A function that owns nothing, beside whatever is owned. -/
theorem FnW.gen {f : FuncId} {args : List Value} {G : Value → Prop} (h : FnW P f args R [] fun v _ => G v) (L : Heap) : FnW P f args R L fun v L' => G v ∧ L' = L :=
  ((h.drop (G' := fun v L' => G v ∧ L' = []) fun v L' hG => ⟨[], L', .nil, hG, rfl⟩).frame (R := R) (L := L) .nil (fun p hp => .inl hp)).mono fun v L' ⟨A', ⟨hG, hA⟩, hL⟩ => ⟨hG, by rw [hL, hA]; rfl⟩

theorem thenQ_ret {n : Env → Heap → Prop} (h : Q .ret e L) : thenQ n Q .ret e L := h
theorem thenQ_exit {n : Env → Heap → Prop} {id : Nat} (h : Q (.exit id) e L) : thenQ n Q (.exit id) e L := h
theorem thenQ_normal {n : Env → Heap → Prop} (h : n e L) : thenQ n Q .normal e L := h
theorem blockQ_ret {id : Nat} (h : Q .ret e L) : blockQ id Q .ret e L := h
theorem blockQ_normal {id : Nat} (h : Q .normal e L) : blockQ id Q .normal e L := h
theorem blockQ_exit_same {id : Nat} (h : Q .normal e L) : blockQ id Q (.exit id) e L := by
  have hb : Nat.beq id id = true := Nat.beq_refl id
  simp only [blockQ, hb]; exact h
theorem blockQ_exit_ne {id id' : Nat} (hb : Nat.beq id' id = false) (h : Q (.exit id') e L) : blockQ id Q (.exit id') e L := by
  simp only [blockQ, hb]; exact h

/-- The function's end. -/
theorem body_ret {rs : List ResultVar} {G : Value → Heap → Prop} {v : Value} (h : Res P R L e rs v) (hG : G v L) : bodyQ P R rs G .ret e L := ⟨v, h, hG⟩
theorem body_end {rs : List ResultVar} {G : Value → Heap → Prop} {v : Value} (h : Res P R L e rs v) (hG : G v L) : bodyQ P R rs G .normal e L := ⟨v, h, hG⟩

/-- A round's end. -/
theorem loop_next {α : Type} {env : α → Env} {hp : α → Heap} {W : α → Prop} {m : α → Nat} {x : α} {F : Heap} (y : α) (hW : W y) (hm : m y < m x) (he : EnvLe (env y) e) (hs : Split L (hp y) F) :
    thenQ (fun e' L' => ∃ y F, W y ∧ m y < m x ∧ EnvLe (env y) e' ∧ Split L' (hp y) F) Q .normal e L := ⟨y, F, hW, hm, he, hs⟩

/-- A cut: what is known and owned here is one of a family. -/
theorem cw_cut {c : Code} {e' : Env} {L' F : Heap} (he : EnvLe e' e) (hL : Split L L' F) (h : CW P N R c e' L' Q) : CW P N R c e L Q := cw_weaken he hL h

end Sl
end Go.Proofs.YtgppllppddaodaaGreatDoor

/-
  append of a string's bytes; unsafe.String and unsafe.SliceData as strings.Builder uses them.
-/
namespace Go.Proofs.YtgppllppddaodaaGreatDoor
namespace Sl
open Go

variable {P : Program} {N : Nat} {R : Heap} {ops : Array Oper} {rest : List Oper} {e : Env} {L : Heap} {K : Env → Heap → Prop} {Q : Exit → Env → Heap → Prop}
variable {w : World}

abbrev byteV (l : List UInt8) : List Value := l.map fun c => Value.int .u8 c.toNat

/-- A row of bytes, with what its type says. -/
def byteRowT (P : Program) (t : TypeId) : Option TypeId :=
  match P.underlying t with
  | some (.slice el) => match P.info? el with
    | some i => match i.zero with
      | some (.int .u8 n) => if n = 0 ∧ i.size = 1 ∧ i.bytes = 1 then some el else none
      | _ => none
    | none => none
  | _ => none
theorem byteRowT_spec {t el : TypeId} (h : byteRowT P t = some el) : P.underlying t = some (.slice el) ∧ ∃ i, P.info? el = some i ∧ i.zero = some (.int .u8 0) ∧ i.size = 1 ∧ i.bytes = 1 := by
  unfold byteRowT at h
  split at h
  · rename_i el' hu
    split at h
    · rename_i i hi
      split at h
      · rename_i n hz
        split at h
        · rename_i hc
          cases h
          exact ⟨hu, i, hi, by rw [hz, hc.1], hc.2.1, hc.2.2⟩
        · cases h
      · cases h
    · cases h
  · cases h

theorem Holds.swap {_A F : Heap} {o' : Obj} {b : Nat} {o : Obj} (h : Holds R ((b, o) :: F) w) : Holds R ((b, o') :: F) (setBlk w b o') := h.upd .here
theorem Mv.split_right {L' L'' F : Heap} {w' : World} (h : Mv L w L' w') (hs : Split L' L'' F) : Mv L w L'' w' := h.perm_right hs.keys
theorem Mv.perm_left {L0 L' : Heap} {w' : World} (h : Mv L w L' w') (hp : L.Perm L0) : Mv L0 w L' w' where
  os := h.os
  tape := h.tape
  output := h.output
  size := h.size
  block k hk hn := h.block k hk fun hm => hn (((hp.map Prod.fst).mem_iff).1 hm)
  new k hk := (h.new k hk).imp (fun hm => ((hp.map Prod.fst).mem_iff).1 hm) id

section
variable {d : Nat} {ty : TypeId} {pos : String} {af : Array Edge} {g : Option (Nat × Bool)} {x y : Operand} {v : Value}

theorem setRow_eq {b : Nat} {l : List Value} {T : TypeId} (h : w.heap[b]? = some (cb l T)) (cs : List Value) : w.setRow b cs.toArray = setBlk w b (cb cs T) := by
  have hb := lt_of_some h
  unfold World.setRow setBlk
  congr 1
  apply Array.ext_getElem?
  intro i
  rw [Array.getElem?_modify, Array.getElem?_setIfInBounds]
  by_cases hi : b = i
  · subst hi
    have hg : w.heap[b] = cb l T := by
      have := h; rw [Array.getElem?_eq_getElem hb] at this; exact Option.some.inj this
    simp [hb, hg]
  · simp [hi]

theorem ow_appendStr {t u el : TypeId} {sv : Value} {A F : Heap} {n : Nat} {xs : List Value} {l : List UInt8}
    (hw : wantedE ops e ⟨some d, .call ⟨.builtin .append, #[x, y], #[t, u]⟩, ty, pos, af, g⟩ = some true) (hd : Nat.blt d N = true)
    (hx : ev e x = some sv) (hy : ev e y = some (str l)) (ht : byteRowT P t = some el) (hu : strT P u = true)
    (hown : OwnS el 1 sv A n xs) (hsp : Split L A F) (hlen : n + l.length ≤ 140737488355328)
    (k : ∀ sv' A', OwnS el 1 sv' A' (n + l.length) (xs ++ byteV l) → OpsW P N R ops rest ((d, sv') :: e) (A' ++ F) K) : OpsW P N R ops (⟨some d, .call ⟨.builtin .append, #[x, y], #[t, u]⟩, ty, pos, af, g⟩ :: rest) e L K := by
  obtain ⟨ht', i, hi, hz, hsz, hby⟩ := byteRowT_spec ht
  have hu' := underlying_str hu
  have h63 : n + l.length ≤ maxLen := by unfold maxLen; omega
  refine ow_runEx (fun v L' => ∃ A', OwnS el 1 v A' (n + l.length) (xs ++ byteV l) ∧ L' = A' ++ F) hw (dlt hd) (fun a w hst => ?_) (fun v L' ⟨A', hA, hL⟩ => by rw [hL]; exact k v A' hA)
  have hpr := hst.hp.perm hsp.perm
  have hexec : ∀ {v' : Value} {w' : World}, (Builtin.append_ #[t, u] ty #[sv, str l]).run P w = .ok v' w' → (execOp a.eval ⟨some d, .call ⟨.builtin .append, #[x, y], #[t, u]⟩, ty, pos, af, g⟩).run P w = .ok (.value v') w' := by
    intro v' w' hr
    have e1 := hst.env.ev hx
    have e2 := hst.env.ev hy
    simp only [execOp, resolve, invoke, builtin, Sem.run_bind, Sem.run_pure, Result.andThen_ok, List.map_toArray, List.map_cons, List.map_nil, e1, e2, hr]
  have hxl : xs.length = n := by have := hown.len; omega
  have hsize : (⟨l.toArray⟩ : ByteArray).size = l.length := rfl
  have hcells : Lib.strCells ⟨l.toArray⟩ = byteV l := rfl
  -- a new block
  have fresh : ∀ (old : Nat), old < n + l.length → (n = 0 → xs = []) → ∀ cs : List Value, cs = xs ++ byteV l ++ (Builtin.zeroCells (Value.int .u8 0).cells (grownCap w (n + l.length) old el - (n + l.length))).toList →
      ∃ A', OwnS el 1 (.slice (some ⟨w.heap.size, 0, none⟩) (n + l.length) (grownCap w (n + l.length) old el)) A' (n + l.length) (xs ++ byteV l) ∧ Holds R (A' ++ F) (w.drew.alloc (.cells cs.toArray el)) ∧ Mv L w (A' ++ F) (w.drew.alloc (.cells cs.toArray el)) := by
    intro old ho _ cs hcs
    have hge := grownCap_ge w (n + l.length) old el
    have hcm : grownCap w (n + l.length) old el ≤ maxLen := grownCap_le_maxLen w (n + l.length) old el h63
    have hz1 : (Value.int IntKind.u8 0).cells.size = 1 := rfl
    have hcl : cs.length = grownCap w (n + l.length) old el := by
      rw [hcs]; simp [size_zeroCells, hz1, hxl]; omega
    refine ⟨[(w.heap.size, cb cs el)], .row _ _ _ _ _ hge hcm (by simpa using hcl) ?_, ?_, ?_⟩
    · rw [hcs, Nat.mul_one]
      have : (xs ++ byteV l).length = n + l.length := by simp [hxl]
      rw [← this, List.take_left]
    · have h1 := (hpr.drew (w.drawn + 1)).alloc (cb cs el)
      exact (h1.perm (List.Perm.cons _ (List.perm_append_comm (l₁ := A) (l₂ := F)))).left
    · have h1 := (Mv.drew (A ++ F) w (w.drawn + 1)).trans (Mv.alloc (A ++ F) { w with drawn := w.drawn + 1 } (cb cs el))
      have h2 := h1.perm_left (L0 := L) hsp.perm.symm
      refine h2.perm_right fun q hq => ?_
      simp only [keys, List.map_append, List.map_cons, List.singleton_append, List.mem_cons, List.mem_append] at hq ⊢
      rcases hq with hq | hq
      · exact .inl hq
      · exact .inr (.inr hq)
  cases hown with
  | nil =>
    have hx0 : ([] : List Value) = [] := rfl
    by_cases hl : l = []
    · subst hl
      refine ⟨.slice none 0 0, [] ++ F, w, ⟨[], .nil, rfl⟩, hexec ?_, hpr, (Mv.refl _ _).perm_right (fun q hq => ((hsp.perm.map Prod.fst).mem_iff).2 hq)⟩
      simp [Builtin.append_, run_underlying ht', run_underlying hu', sizeOf, typeInfo, hi, hsz, Builtin.lenOf]
      have hf' : ∀ w, (Builtin.firstCells 1 0 (.string ⟨#[]⟩)).run P w = .ok #[] w := fun w => Lib.run_firstCells_string (P := P) w 1 ⟨#[]⟩
      simp [hf', ByteArray.size]
      intro h; exact absurd rfl h
    · have hpos : 0 < l.length := by cases l <;> simp_all
      have hr := run_append_nil_string (P := P) w t u ty el i (.int .u8 0) ht' hu' hi hz ⟨l.toArray⟩ (by rw [hsize]; exact hpos) (by rw [hsize]; omega) (by rw [hsize, hby]; omega)
      rw [hsize] at hr
      obtain ⟨A', hA, hH, hM⟩ := fresh 0 (by omega) (fun _ => rfl) _ rfl
      simp only [Nat.zero_add, List.nil_append] at hA hH hM ⊢
      refine ⟨_, A' ++ F, _, ⟨A', hA, rfl⟩, hexec (hr.trans ?_), hH, hM⟩
      congr 3
      simp [byteV]
  | row b cap n cells xs h1 h2 h3 h4 =>
    have hg := hpr.own (b, cb cells el) (by simp)
    by_cases hroom : n + l.length ≤ cap
    · have hcs : cells.toArray.size = cap := by simpa using h3
      have hr := Lib.run_append_room_string (P := P) w t u ty el i ht' hu' hi hsz b n cap cells.toArray hg ⟨l.toArray⟩ (by rw [hsize]; exact hroom) (by rw [hsize]; omega)
      rw [hsize] at hr
      rw [setRow_eq hg] at hr
      have ht0 : cells.take n = xs := by simpa using h4
      have hup : Upd b (cb cells el) (cb (cells.take n ++ Lib.strCells ⟨l.toArray⟩ ++ cells.drop (n + l.length)) el) ([(b, cb cells el)] ++ F) ([(b, cb (cells.take n ++ Lib.strCells ⟨l.toArray⟩ ++ cells.drop (n + l.length)) el)] ++ F) := .here
      refine ⟨_, [(b, cb (cells.take n ++ Lib.strCells ⟨l.toArray⟩ ++ cells.drop (n + l.length)) el)] ++ F, _, ⟨_, .row b cap (n + l.length) _ _ hroom h2 ?_ ?_, rfl⟩, hexec hr, hpr.upd hup, (Mv.upd hup).perm_left hsp.perm.symm⟩
      · simp only [List.length_append, List.length_take, List.length_drop, hcells, List.length_map]; omega
      · rw [Nat.mul_one, ht0, hcells]
        have : (xs ++ byteV l).length = n + l.length := by simp [hxl]
        rw [← this, List.take_left]
    · have holds : ∀ j u, xs[j]? = some u → w.cell? ((⟨b, 0, none⟩ : Addr).add j) = some u := fun j u hj => by
        rw [add_addr, cell_of hg, Nat.zero_add]
        rw [← h4, List.getElem?_take] at hj
        split at hj
        · exact hj
        · cases hj
      have hr := Lib.run_append_grow_string (P := P) w t u ty el i (.int .u8 0) ht' hu' hi hz ⟨b, 0, none⟩ n cap xs (by rw [hsz]; omega) holds ⟨l.toArray⟩ (by rw [hsize]; omega) (by rw [hsize]; omega) (by rw [hsize, hby]; exact growslice_fits (by omega) (by omega))
      rw [hsize] at hr
      obtain ⟨A', hA, hH, hM⟩ := fresh cap (by omega) (fun h => List.eq_nil_of_length_eq_zero (by omega)) _ rfl
      refine ⟨_, A' ++ F, _, ⟨A', hA, rfl⟩, hexec (hr.trans ?_), hH, hM⟩
      congr 3
      simp [hcells]
end

end Sl
end Go.Proofs.YtgppllppddaodaaGreatDoor

/-
  A cut between two parts of a sequence.
-/
namespace Go.Proofs.YtgppllppddaodaaGreatDoor
namespace Sl
open Go
variable {P : Program} {N : Nat} {R : Heap} {e : Env} {L : Heap} {Q : Exit → Env → Heap → Prop}
theorem cw_seq_cut {α : Type} (env : α → Env) (hp : α → Heap) (W : α → Prop) {c c' : Code} (h : CW P N R c e L (thenQ (fun e' L' => ∃ y F, W y ∧ EnvLe (env y) e' ∧ Split L' (hp y) F) Q)) (k : ∀ y, W y → CW P N R c' (env y) (hp y) Q) : CW P N R (.seq c c') e L Q := by
  refine cw_seq (h.mono fun x e L hq => ?_)
  cases x with
  | normal =>
    obtain ⟨y, F, hW, he, hL⟩ := hq
    exact cw_weaken he hL (k y hW)
  | _ => exact hq
end Sl
end Go.Proofs.YtgppllppddaodaaGreatDoor

/-
  A string's bytes as a slice; an interface value beside nil or a number; shifts.
-/
namespace Go.Proofs.YtgppllppddaodaaGreatDoor
namespace Sl
open Go
variable {P : Program} {N : Nat} {R : Heap} {ops : Array Oper} {rest : List Oper} {e : Env} {L : Heap} {K : Env → Heap → Prop}
variable {d : Nat} {x y : Operand} {ty : TypeId} {pos : String} {af : Array Edge} {g : Option (Nat × Bool)} {v : Value}
theorem bytesWorld_eq (w : World) (t : TypeId) (s : ByteArray) : Lib.bytesWorld w t s = { w with drawn := w.drawn + 1, heap := w.heap.push (.cells (Lib.bytesCells w t s) t ((Lib.bytesCells w t s).size, (Lib.bytesCells w t s).size + 1)) } := by
  simp only [Lib.bytesWorld, World.freeze, World.alloc, World.drew]
  simp only [Nat.one_ne_zero, if_false]
  congr 1
  apply Array.ext
  · simp
  · intro i h1 h2
    simp only [Array.getElem_modify]
    split
    · rename_i h; subst h; simp
    · rename_i h
      have hi : i < w.heap.size := by simp at h1; omega
      rw [Array.getElem_push_lt hi, Array.getElem_push_lt hi]
def rowU8 (P : Program) (s t : TypeId) (el : TypeId) : Bool := strT P s && (match P.underlying t with
  | some (.slice e) => Nat.beq e el
  | _ => false) && (match P.underlying el with
  | some (.int .u8) => true
  | _ => false)
theorem rowU8_spec {s t el : TypeId} (h : rowU8 P s t el = true) : strT P s = true ∧ P.underlying t = some (.slice el) ∧ P.underlying el = some (.int .u8) := by
  simp only [rowU8, Bool.and_eq_true] at h
  obtain ⟨⟨h1, h2⟩, h3⟩ := h
  refine ⟨h1, ?_, ?_⟩
  · cases hu : P.underlying t with
    | none => simp [hu] at h2
    | some u => cases u <;> simp [hu] at h2; rw [h2]
  · cases hu : P.underlying el with
    | none => simp [hu] at h3
    | some u => cases u with
      | int k => cases k <;> simp [hu] at h3; rfl
      | _ => simp [hu] at h3
theorem ow_strBytes {l : List UInt8} {s t el : TypeId} (hw : wantedE ops e ⟨some d, .convert s t x, ty, pos, af, g⟩ = some true) (hd : Nat.blt d N = true) (hx : ev e x = some (str l)) (ht : rowU8 P s t el = true)
    (k : ∀ b cap ex f, l.length ≤ cap → OpsW P N R ops rest ((d, .slice (some ⟨b, 0, none⟩) l.length cap) :: e) ((b, .cells (byteV l ++ ex).toArray el f) :: L) K) : OpsW P N R ops (⟨some d, .convert s t x, ty, pos, af, g⟩ :: rest) e L K :=
  ow_runEx (fun v L' => ∃ b cap ex f, l.length ≤ cap ∧ v = .slice (some ⟨b, 0, none⟩) l.length cap ∧ L' = (b, .cells (byteV l ++ ex).toArray el f) :: L) hw (dlt hd) (fun a w hst => by
    obtain ⟨h1, h2, h3⟩ := rowU8_spec ht
    have hr := Lib.run_convert_string_bytes (P := P) w s t el ⟨l.toArray⟩ (underlying_str h1) h2 h3
    have hc : (Lib.bytesCells w el ⟨l.toArray⟩) = (byteV l ++ List.replicate (grownCap w l.length 0 el - l.length) (Value.int .u8 0)).toArray := by
      simp [Lib.bytesCells, ByteArray.size]
    refine ⟨.slice (some ⟨w.heap.size, 0, none⟩) l.length (grownCap w l.length 0 el), _, Lib.bytesWorld w el ⟨l.toArray⟩, ⟨w.heap.size, grownCap w l.length 0 el, List.replicate (grownCap w l.length 0 el - l.length) (Value.int .u8 0), ((Lib.bytesCells w el ⟨l.toArray⟩).size, (Lib.bytesCells w el ⟨l.toArray⟩).size + 1), ?_, rfl, rfl⟩, ?_, ?_, ?_⟩
    · exact grownCap_ge w l.length 0 el
    · simp only [execOp, hst.env.ev hx, Sem.run_bind]
      have hr' : (convert s t (str l)).run P w = _ := hr
      rw [hr']; rfl
    · rw [bytesWorld_eq, hc]
      exact (hst.hp.drew (w.drawn + 1)).alloc _
    · rw [bytesWorld_eq, hc]
      exact (Mv.drew L w (w.drawn + 1)).trans (Mv.alloc L { w with drawn := w.drawn + 1 } _))
    (fun v L' ⟨b, cap, ex, f, h1, hv, hL⟩ => by rw [hv, hL]; exact k b cap ex f h1)
theorem run_guard_iface (op : BinOp) (t : TypeId) (u : TypeId) (q : Value) (z : Value) (w : World) : (eqGuard op t x y (.iface u q) z).run P w = .ok () w := by
  unfold eqGuard; cases op <;> rfl
theorem y_neIfaceNil {t t' u : TypeId} {q : Value} (hx : ev e x = some (.iface u q)) (hy : ev e y = some .nilIface) (hi : P.isIface t = true) : Yld P N R ⟨some d, .binOp .neq t x y t', ty, pos, af, g⟩ e L (.bool true) :=
  y_bin hx hy (fun w => run_guard_iface _ _ _ _ _ w) (fun w => run_neq_iface_nil w t hi u q)
theorem y_neNil {t t' : TypeId} (hx : ev e x = some .nilIface) (hi : P.isIface t = true) : Yld P N R ⟨some d, .binOp .neq t x (.const .nilIface) t', ty, pos, af, g⟩ e L (.bool false) :=
  y_bin hx rfl (fun w => by unfold eqGuard; simp) (fun w => run_neq_nil_nil_at w t hi)
theorem run_shl64 (t : TypeId) (x : Int) (n : Int) (hn : 0 ≤ n) (hn2 : n ≤ 64) (w : World) : (binOp .shl t (.int .u64 x) (.int .u64 n)).run P w = .ok (.int .u64 (IntKind.u64.wrap (x * 2 ^ n.toNat))) w := by
  simp only [binOp, Op.shift]
  rw [if_neg (by omega)]
  have : min n.toNat 64 = n.toNat := by omega
  simp [IntKind.bits, this]
end Sl
end Go.Proofs.YtgppllppddaodaaGreatDoor

/-
  Regions that draw their order: where orders meet again.
-/
namespace Go.Proofs.YtgppllppddaodaaGreatDoor
namespace Sl
open Go
variable {P : Program} {N : Nat} {R : Heap} {ops : Array Oper} {e : Env} {L : Heap} {K : Env → Heap → Prop}
theorem any_share {α : Type} (env : α → Env) (hp : α → Heap) (W : α → Prop) {Ls : Heap} {fuel : Nat} {listed : Array Bool} (fuel' : Nat) (listed' : Array Bool) (h : ∀ y, W y → AnyW P N R Ls ops fuel' listed' (env y) (hp y) K)
    (k : (∀ y, W y → AnyW P N R Ls ops fuel' listed' (env y) (hp y) K) → AnyW P N R Ls ops fuel listed e L K) : AnyW P N R Ls ops fuel listed e L K := k h
theorem any_cut {Ls F L' : Heap} {e' : Env} {fuel : Nat} {listed listed' : Array Bool} (hl : listed = listed') (he : EnvLe e' e) (hL : Split L L' F) (h : AnyW P N R Ls ops fuel listed' e' L' K) : AnyW P N R Ls ops fuel listed e L K := by
  subst hl
  intro a w hst Q hQ
  refine h a w ⟨hst.env.le he, hst.hp.split hL⟩ Q ?_
  intro a' w' e'' L'' hK hs hm
  exact hQ a' w' e'' L'' hK hs ⟨hm.os, hm.tape, hm.output, hm.size, fun k hk hn => hm.block k hk fun h' => hn (hL.keys k h'), fun k hk => (hm.new k hk).imp (hL.keys k) id⟩
end Sl
end Go.Proofs.YtgppllppddaodaaGreatDoor

/-
  Heaps whose tail is a row that grows: order, appends, calls.
-/
namespace Go.Proofs.YtgppllppddaodaaGreatDoor
namespace Sl
open Go
variable {P : Program} {N : Nat} {R : Heap} {ops : Array Oper} {rest : List Oper} {e : Env} {L : Heap} {K : Env → Heap → Prop} {Q : Exit → Env → Heap → Prop}
theorem Split.tail (F A : Heap) : Split (F ++ A) A F := by
  induction A generalizing F with
  | nil => rw [List.append_nil]; exact .nil
  | cons p A ih =>
    refine .cons (L1 := F ++ A) ?_ (ih F)
    clear ih
    induction F with
    | nil => exact .here
    | cons q F ih => exact .there ih
theorem Split.whole (A : Heap) : Split A A [] := Split.tail [] A
theorem Split.skip {p : Nat × Obj} {L A F : Heap} (h : Split L A F) : Split (p :: L) A (p :: F) := by
  induction h with
  | nil => exact .nil
  | cons hp _ ih => exact .cons (.there hp) ih
theorem Split.front (A B : Heap) {L : Heap} (h : L = A ++ B) : Split L A B := by
  subst h
  induction A with
  | nil => exact .nil
  | cons p A ih => exact .cons .here ih
theorem Split.back (F A : Heap) {L : Heap} (h : L = F ++ A) : Split L A F := by subst h; exact Split.tail F A
theorem Split.app_nil (A : Heap) : Split A (A ++ []) [] := by rw [List.append_nil]; exact Split.whole A
theorem keys_perm {L L' : Heap} (h : L.Perm L') (k : Nat) : k ∈ keys L ↔ k ∈ keys L' := (h.map Prod.fst).mem_iff
theorem ow_perm {L' : Heap} (hp : L.Perm L') (h : OpsW P N R ops rest e L' K) : OpsW P N R ops rest e L K :=
  fun a w hst Q hQ => h a w ⟨hst.env, hst.hp.perm hp⟩ Q fun a' w' e' L'' hK hs hm => hQ a' w' e' L'' hK hs (hm.perm_left hp.symm)
theorem cw_perm {L' : Heap} {c : Code} (hp : L.Perm L') (h : CW P N R c e L' Q) : CW P N R c e L Q :=
  fun a w hst => wp_mono (h a w ⟨hst.env, hst.hp.perm hp⟩) fun _ _ _ ⟨e', L'', hQ, hs, hm⟩ => ⟨e', L'', hQ, hs, hm.perm_left hp.symm⟩
theorem FnW.post_perm {f : FuncId} {args : List Value} {G G' : Value → Heap → Prop} (h : FnW P f args R L G) (hg : ∀ v L', G v L' → ∃ L'', L'.Perm L'' ∧ G' v L'') : FnW P f args R L G' :=
  fun w hh => (h w hh).mono fun _ _ ⟨v, L', e, hG, hH, hM⟩ => let ⟨L'', hp, hG'⟩ := hg v L' hG; ⟨v, L'', e, hG', hH.perm hp, hM.perm_right fun k hk => (keys_perm hp k).2 hk⟩
/-- A call beside what else is owned, where a part of what the call owns is a row that grows. -/
theorem FnW.tail {f : FuncId} {args : List Value} {C A F : Heap} {G : Value → Heap → Heap → Prop} (h : FnW P f args R (C ++ A) fun v L' => ∃ C' A', L' = C' ++ A' ∧ G v C' A') (hs : Split L (C ++ A) F) :
    FnW P f args R L fun v L' => ∃ C' A', L' = C' ++ (F ++ A') ∧ G v C' A' :=
  (h.frame hs (fun _ hp => .inl hp)).post_perm fun v L' ⟨B, ⟨C', A', hB, hG⟩, hL⟩ => ⟨C' ++ (F ++ A'), by rw [hL, hB, List.append_assoc]; exact (List.perm_append_comm).append_left C', C', A', rfl, hG⟩
section
variable {d : Nat} {ty : TypeId} {pos : String} {af : Array Edge} {g : Option (Nat × Bool)} {x y : Operand} {v : Value}
theorem ow_append' {t el : TypeId} {size bytes : Nat} {sv : Value} {A F : Heap} {n m c b o : Nat} {xs news l : List Value} {T : TypeId} {fz : Nat × Nat}
    (hw : wantedE ops e ⟨some d, .call ⟨.builtin .append, #[x, y], #[t, t]⟩, ty, pos, af, g⟩ = some true) (hd : Nat.blt d N = true)
    (hx : ev e x = some sv) (hy : ev e y = some (.slice (some ⟨b, o, none⟩) m c)) (ht : rowT P t = some (el, size, bytes))
    (hown : OwnS el size sv A n xs) (hsp : Split L A F) (hm : In (b, .cells l.toArray T fz) R L) (hl : (l.drop o).take (m * size) = news) (hlen : news.length = m * size) (h1 : ∀ u ∈ news, u.oneCell' = true)
    (hm0 : 0 < m) (h63 : n + m ≤ maxLen) (hby : (n + m) * bytes ≤ 140737488355328)
    (k : ∀ sv' A', OwnS el size sv' A' (n + m) (xs ++ news) → OpsW P N R ops rest ((d, sv') :: e) (F ++ A') K) : OpsW P N R ops (⟨some d, .call ⟨.builtin .append, #[x, y], #[t, t]⟩, ty, pos, af, g⟩ :: rest) e L K :=
  ow_append hw hd hx hy ht hown hsp hm hl hlen h1 hm0 h63 hby fun sv' A' h => ow_perm List.perm_append_comm (k sv' A' h)
theorem ow_appendStr' {t u el : TypeId} {sv : Value} {A F : Heap} {n : Nat} {xs : List Value} {l : List UInt8}
    (hw : wantedE ops e ⟨some d, .call ⟨.builtin .append, #[x, y], #[t, u]⟩, ty, pos, af, g⟩ = some true) (hd : Nat.blt d N = true)
    (hx : ev e x = some sv) (hy : ev e y = some (str l)) (ht : byteRowT P t = some el) (hu : strT P u = true)
    (hown : OwnS el 1 sv A n xs) (hsp : Split L A F) (hlen : n + l.length ≤ 140737488355328)
    (k : ∀ sv' A', OwnS el 1 sv' A' (n + l.length) (xs ++ byteV l) → OpsW P N R ops rest ((d, sv') :: e) (F ++ A') K) : OpsW P N R ops (⟨some d, .call ⟨.builtin .append, #[x, y], #[t, u]⟩, ty, pos, af, g⟩ :: rest) e L K :=
  ow_appendStr hw hd hx hy ht hu hown hsp hlen fun sv' A' h => ow_perm List.perm_append_comm (k sv' A' h)
end
end Sl
end Go.Proofs.YtgppllppddaodaaGreatDoor

/-
  A new map; splits around a row that grows.
-/
namespace Go.Proofs.YtgppllppddaodaaGreatDoor
namespace Sl
open Go
variable {P : Program} {N : Nat} {R : Heap} {ops : Array Oper} {rest : List Oper} {e : Env} {L : Heap} {K : Env → Heap → Prop}
theorem Split.mid (F A B : Heap) : Split (F ++ (A ++ B)) A (F ++ B) := by
  induction A generalizing F with
  | nil => exact .nil
  | cons p A ih =>
    refine .cons (L1 := F ++ (A ++ B)) ?_ (ih F)
    clear ih
    induction F with
    | nil => exact .here
    | cons q F ih => exact .there ih
section
variable {d : Nat} {ty : TypeId} {pos : String} {af : Array Edge} {g : Option (Nat × Bool)}
theorem ow_makeMap {t : TypeId} (hw : wantedE ops e ⟨some d, .makeMap t none, ty, pos, af, g⟩ = some true) (hd : Nat.blt d N = true)
    (k : ∀ b, OpsW P N R ops rest ((d, .map (some b)) :: e) ((b, .map #[] 0) :: L) K) : OpsW P N R ops (⟨some d, .makeMap t none, ty, pos, af, g⟩ :: rest) e L K :=
  ow_runEx (fun v L' => ∃ b, v = .map (some b) ∧ L' = (b, .map #[] 0) :: L) hw (dlt hd) (fun a w hst =>
    ⟨_, _, _, ⟨w.heap.size, rfl, rfl⟩, by
      simp only [execOp, Option.map_none, Instr.makeMap]
      simp [go_sem], hst.hp.alloc _, Mv.alloc _ _ _⟩)
    (fun v L' ⟨b, hv, hL⟩ => by rw [hv, hL]; exact k b)
end
end Sl
end Go.Proofs.YtgppllppddaodaaGreatDoor

/-
  Pointers through unsafe.Pointer, a pointer beside itself, unsafe.SliceData, unsafe.String.
-/
namespace Go.Proofs.YtgppllppddaodaaGreatDoor
namespace Sl
open Go
variable {P : Program} {N : Nat} {R : Heap} {ops : Array Oper} {rest : List Oper} {e : Env} {L : Heap} {K : Env → Heap → Prop}
variable {d : Nat} {ty : TypeId} {pos : String} {af : Array Edge} {g : Option (Nat × Bool)} {x y : Operand} {v : Value}
def ptrTo (P : Program) (s t : TypeId) : Bool := (match P.underlying s with
  | some (.pointer e) => Nat.beq e t
  | _ => false) && (match P.info? t with
  | some i => !(Nat.beq i.size 0)
  | none => false)
def unsT (P : Program) (u : TypeId) : Bool := match P.underlying u with
  | some .unsafePointer => true
  | _ => false
theorem ptrTo_spec {s t : TypeId} (h : ptrTo P s t = true) : P.underlying s = some (.pointer t) ∧ ∃ i, P.info? t = some i ∧ i.size ≠ 0 := by
  simp only [ptrTo, Bool.and_eq_true] at h
  obtain ⟨h1, h2⟩ := h
  constructor
  · cases hu : P.underlying s with
    | none => simp [hu] at h1
    | some u => cases u <;> simp [hu] at h1; rw [h1]
  · cases hu : P.info? t with
    | none => simp [hu] at h2
    | some i =>
      refine ⟨i, rfl, fun h0 => ?_⟩
      rw [hu] at h2
      simp only [h0] at h2
      cases h2
theorem unsT_spec {u : TypeId} (h : unsT P u = true) : P.underlying u = some .unsafePointer := by
  unfold unsT at h
  cases hu : P.underlying u with
  | none => simp [hu] at h
  | some t => cases t <;> simp [hu] at h; rfl
theorem shape_of {w : World} {b : Nat} {l : List Value} {T : TypeId} {f : Nat × Nat} (h : w.heap[b]? = some (.cells l.toArray T f)) : w.shape? b = some (T, l.length) := by
  unfold World.shape?; rw [h]; simp
theorem y_toUnsafe {b o : Nat} {l : List Value} {T s t u : TypeId} {f : Nat × Nat} (hx : ev e x = some (.pointer (some ⟨b, o, none⟩))) (hs : ptrTo P s u = true) (ht : unsT P t = true) (hm : In (b, .cells l.toArray T f) R L) (ho : o < l.length) :
    Yld P N R ⟨some d, .convert s t x, ty, pos, af, g⟩ e L (.pointer (some ⟨b, o, none⟩)) :=
  fun a w hst => by
    obtain ⟨h1, i, h2, h3⟩ := ptrTo_spec hs
    have := Lib.run_to_unsafe (P := P) w ⟨b, o, none⟩ h1 (unsT_spec ht) h2 h3 (shape_of (hm.get hst.hp)) ho
    simp only [execOp, hst.env.ev hx, Sem.run_bind, this, Result.andThen_ok, Sem.run_pure]
theorem y_fromUnsafe {b o : Nat} {l : List Value} {T s t u : TypeId} {f : Nat × Nat} (hx : ev e x = some (.pointer (some ⟨b, o, none⟩))) (hs : unsT P s = true) (ht : ptrTo P t u = true) (hm : In (b, .cells l.toArray T f) R L) (hl : liesAt P P.depth T (l.length / P.cellsOf T) o u 1 = true) :
    Yld P N R ⟨some d, .convert s t x, ty, pos, af, g⟩ e L (.pointer (some ⟨b, o, none⟩)) :=
  fun a w hst => by
    obtain ⟨h1, i, h2, h3⟩ := ptrTo_spec ht
    have := Lib.run_from_unsafe (P := P) w ⟨b, o, none⟩ (unsT_spec hs) h1 h2 (shape_of (hm.get hst.hp)) hl
    simp only [execOp, hst.env.ev hx, Sem.run_bind, this, Result.andThen_ok, Sem.run_pure]
theorem y_extern {f : FuncId} {t : TypeId} {v' : Value} (hx : ev e x = some v) (hr : ∀ w : World, (callFunc f #[v]).run P w = .ok (.value v') w) : Yld P N R ⟨some d, .call ⟨.value (.func f), #[x], #[t]⟩, ty, pos, af, g⟩ e L v' :=
  fun a w hst => by
    have h1 := evs_of hst.env #[x] [v] (by simp [hx])
    simp only [execOp, resolve, h1, Act.eval, Deferred.ofValue, Sem.run_bind, Sem.run_pure, Result.andThen_ok, invoke]
    simpa using hr w
theorem y_nePtrSame {t t' u : TypeId} {p : Addr} (hx : ev e x = some (.pointer (some p))) (hy : ev e y = some (.pointer (some p))) (ht : ptrTo P t u = true) : Yld P N R ⟨some d, .binOp .neq t x y t', ty, pos, af, g⟩ e L (.bool false) :=
  let ⟨h1, _, h2, _⟩ := ptrTo_spec ht
  y_bin hx hy (fun w => run_guard_ptr _ _ _ _ w) (fun w => Lib.run_neq_ptr_same w p h1 h2)
theorem y_sliceData {b o n c : Nat} {t : TypeId} (hx : ev e x = some (.slice (some ⟨b, o, none⟩) n c)) (hc : c ≠ 0) : Yld P N R ⟨some d, .call ⟨.builtin .unsafeSliceData, #[x], #[t]⟩, ty, pos, af, g⟩ e L (.pointer (some ⟨b, o, none⟩)) :=
  fun a w hst => by
    have h1 := hst.env.ev hx
    have hr := Lib.run_unsafeSliceData_row (P := P) w #[t] ty ⟨b, o, none⟩ n c hc
    simp only [execOp, resolve, invoke, builtin, h1, Sem.run_bind, Sem.run_pure, Result.andThen_ok, List.map_toArray, List.map_cons, List.map_nil, hr]
theorem y_sliceData_nil {n c : Nat} {t : TypeId} (hx : ev e x = some (.slice none n c)) : Yld P N R ⟨some d, .call ⟨.builtin .unsafeSliceData, #[x], #[t]⟩, ty, pos, af, g⟩ e L (.pointer none) :=
  fun a w hst => by
    have h1 := hst.env.ev hx
    have hr := Lib.run_unsafeSliceData_nil (P := P) w #[t] ty n c
    simp only [execOp, resolve, invoke, builtin, h1, Sem.run_bind, Sem.run_pure, Result.andThen_ok, List.map_toArray, List.map_cons, List.map_nil, hr]
theorem y_unsafeString_nil {p : Option Addr} {t u : TypeId} (hx : ev e x = some (.pointer p)) (hy : ev e y = some (.int .i64 0)) : Yld P N R ⟨some d, .call ⟨.builtin .unsafeString, #[x, y], #[t, u]⟩, ty, pos, af, g⟩ e L (str []) :=
  fun a w hst => by
    have h1 := hst.env.ev hx
    have h2 := hst.env.ev hy
    have hr := Lib.run_unsafeString_none (P := P) w t u ty p
    simp only [execOp, resolve, invoke, builtin, h1, h2, Sem.run_bind, Sem.run_pure, Result.andThen_ok, List.map_toArray, List.map_cons, List.map_nil, hr]
    rfl
theorem freeze_eq {w : World} {b n : Nat} {l : List Value} {T : TypeId} (h : w.heap[b]? = some (cb l T)) (hn : n ≠ 0) : w.freeze ⟨b, 0, none⟩ n = setBlk w b (.cells l.toArray T (0, n)) := by
  unfold World.freeze setBlk
  rw [if_neg hn]
  congr 1
  have hlt := lt_of_some h
  rw [Array.getElem?_eq_getElem hlt] at h
  apply Array.ext
  · simp
  · intro i h1 h2
    by_cases hb : b = i
    · subst hb
      simp only [Array.getElem_modify, if_true, Option.some.inj h, Array.getElem_setIfInBounds_self]
      simp
    · rw [Array.getElem_modify, if_neg hb, Array.getElem_setIfInBounds_ne _ hb]
theorem ow_unsafeString {b : Nat} {l : List UInt8} {cells : List Value} {t u T : TypeId} {L' : Heap} (hw : wantedE ops e ⟨some d, .call ⟨.builtin .unsafeString, #[x, y], #[t, u]⟩, ty, pos, af, g⟩ = some true) (hd : Nat.blt d N = true)
    (hx : ev e x = some (.pointer (some ⟨b, 0, none⟩))) (hy : ev e y = some (.int .i64 (l.length : Nat))) (ht : ptrTo P t T = true) (hc : P.cellsOf T = 1) (h0 : l ≠ []) (h63 : l.length ≤ 9223372036854775807) (hcells : cells.take l.length = byteV l)
    (hu : Upd b (cb cells T) (.cells cells.toArray T (0, l.length)) L L')
    (k : OpsW P N R ops rest ((d, str l) :: e) L' K) : OpsW P N R ops (⟨some d, .call ⟨.builtin .unsafeString, #[x, y], #[t, u]⟩, ty, pos, af, g⟩ :: rest) e L K :=
  ow_run hw (dlt hd) (fun a w hst => by
    obtain ⟨hp, _⟩ := ptrTo_spec ht
    have hg := hst.hp.own _ hu.mem
    have hlen : l.length ≤ cells.length := by
      have := congrArg List.length hcells
      simp only [List.length_take, List.length_map] at this; omega
    have hr := Lib.run_unsafeString_row (P := P) w t u ty T hp hc b cells.length (shape_of hg) l h0 hlen h63 (fun j c hj => by
      have hj2 : cells[j]? = some (.int .u8 c.toNat) := by
        have hjl : j < l.length := by
          rcases Nat.lt_or_ge j l.length with h' | h'
          · exact h'
          · simp [List.getElem?_eq_none h'] at hj
        have h4 := congrArg (fun q => q[j]?) hcells
        simp only [List.getElem?_take, hjl, if_true, List.getElem?_map, hj] at h4
        simpa using h4
      rw [add_addr, Nat.zero_add]
      simp only [World.cell?, hg]
      simpa using hj2)
    have hne : l.length ≠ 0 := by simpa using h0
    refine ⟨setBlk w b (.cells cells.toArray T (0, l.length)), .inl ?_, hst.hp.upd hu, Mv.upd hu⟩
    rw [freeze_eq hg hne] at hr
    have h1 := hst.env.ev hx
    have h2 := hst.env.ev hy
    simp only [execOp, resolve, invoke, builtin, h1, h2, Sem.run_bind, Sem.run_pure, Result.andThen_ok, List.map_toArray, List.map_cons, List.map_nil, hr]) k
end Sl
end Go.Proofs.YtgppllppddaodaaGreatDoor

/-
  Arrays: their elements' addresses, slices of them; bytes as a string; operators of one operand.
-/
namespace Go.Proofs.YtgppllppddaodaaGreatDoor
namespace Sl
open Go
variable {P : Program} {N : Nat} {R : Heap} {ops : Array Oper} {rest : List Oper} {e : Env} {L : Heap} {K : Env → Heap → Prop}
variable {d : Nat} {ty : TypeId} {pos : String} {af : Array Edge} {g : Option (Nat × Bool)} {x y : Operand} {v : Value}
def arrT (P : Program) (t : TypeId) : Option (Nat × TypeId) := match P.underlying t with
  | some (.array n el) => some (n, el)
  | _ => none
theorem arrT_spec {t el : TypeId} {n : Nat} (h : arrT P t = some (n, el)) : P.underlying t = some (.array n el) := by
  unfold arrT at h
  split at h
  · rename_i n' el' hu
    simp only [Option.some.injEq, Prod.mk.injEq] at h
    rw [hu, h.1, h.2]
  · cases h
theorem y_indexArr {b o sz n : Nat} {t el : TypeId} {kk : IntKind} {i : Nat} (hx : ev e x = some (.pointer (some ⟨b, o, none⟩))) (hy : ev e y = some (.int kk (i : Int))) (ht : arrT P t = some (n, el)) (hs : sizeT P el = some sz) (hi : i < n) :
    Yld P N R ⟨some d, .indexAddr t x y, ty, pos, af, g⟩ e L (.pointer (some ⟨b, o + i * sz, none⟩)) :=
  fun a w hst => by
    have hu := arrT_spec ht
    have : (i : Int) < (n : Int) := by omega
    simp only [execOp, hst.env.ev hx, hst.env.ev hy, Instr.indexAt]
    simp [go_sem, asIntOf, run_underlying hu, run_sizeOf hs, add_addr, hi, Instr.sureAddr]
theorem y_sliceArr {b o sz n : Nat} {t el : TypeId} {lo : Operand} {i : Nat} (hx : ev e x = some (.pointer (some ⟨b, o, none⟩))) (hlo : ev e lo = some (.int .i64 (i : Int))) (ht : arrT P t = some (n, el)) (hs : sizeT P el = some sz) (hi : i < n) :
    Yld P N R ⟨some d, .slice t x (some lo) none none, ty, pos, af, g⟩ e L (.slice (some ⟨b, o + i * sz, none⟩) (n - i) (n - i)) :=
  fun a w hst => by
    have hu := arrT_spec ht
    have h1 : (i : Int) ≤ (n : Int) := by omega
    have h2 : ¬ n = i := by omega
    have hlo' : a.eval lo = .int .i64 (i : Int) := hst.env.ev hlo
    simp only [execOp, hst.env.ev hx, Instr.sliceAt, Option.map_some, Option.map_none, hlo']
    simp [go_sem, Instr.sliceBounds, Instr.sliceBound, asIntOf, run_underlying hu, run_sizeOf hs, h2, add_addr, Instr.sureAddr]
    omega
theorem y_bytesStr {b o cap : Nat} {l : List UInt8} {cells : List Value} {T s t el : TypeId} {f : Nat × Nat} (hx : ev e x = some (.slice (some ⟨b, o, none⟩) l.length cap)) (ht : rowU8 P t s el = true) (hm : In (b, .cells cells.toArray T f) R L)
    (hc : ∀ (j : Nat) c, l[j]? = some c → cells[o + j]? = some (.int .u8 c.toNat)) : Yld P N R ⟨some d, .convert s t x, ty, pos, af, g⟩ e L (str l) :=
  fun a w hst => by
    obtain ⟨h1, h2, h3⟩ := rowU8_spec ht
    have hg := hm.get hst.hp
    have hr := run_convert_bytes_back (P := P) w s t el ⟨b, o, none⟩ cap l h2 h3 (underlying_str h1) (fun j hj => by
      rw [add_addr]
      simp only [World.cell?, hg]
      simpa using hc j l[j] (List.getElem?_eq_getElem hj))
    simp only [execOp, hst.env.ev hx, Sem.run_bind, hr, Result.andThen_ok, Sem.run_pure]
theorem y_unop {op : UnOp} {t : TypeId} {v' : Value} (hx : ev e x = some v) (hr : ∀ w : World, (Op.unary op v).run P w = .ok v' w) : Yld P N R ⟨some d, .unOp op t x, ty, pos, af, g⟩ e L v' :=
  fun a w hst => by
    simp only [execOp, hst.env.ev hx, Sem.run_bind, hr, Result.andThen_ok, Sem.run_pure]
end Sl
end Go.Proofs.YtgppllppddaodaaGreatDoor

/-
  DERIVED: THE SHELF's CONTRACTS AT THIS DUMP, IN PLAIN WORDS (tools/lay-plain.mjs out of 'TryzCut.lean', which tools/lay-shelf.mjs wrote): THE SAME DECLARATIONS UNDER THE SAME NAMES: 'import', 'namespace', 'open', 'def', 'theorem' AND NOTHING ELSE: no command of the shelf's: FOR A HAND-IN. Each laying: the table of numbers ('.._ren') and one theorem, a field a fact of the dump's own or the kernel's comparison; each contract: ONE APPLICATION.
-/
namespace Go.Proofs
open Go.Shelf
def Tryz.lays156_ren : Go.Shelf.Ren := ⟨fun | 156 => 29 | 165 => 33 | 166 => 16 | 169 => 20 | 240 => 27 | 241 => 50 | 276 => 41 | 277 => 68 | n => n, fun | 31 => 38 | 9 => 9 | 3 => 3 | 4 => 4 | 0 => 0 | 20 => 20 | 72 => 44 | 76 => 47 | 70 => 42 | 37 => 30 | 75 => 46 | 127 => 78 | 164 => 92 | 5 => 5 | 80 => 53 | n => n, fun | n => n⟩
theorem Tryz.lays156 : Go.Proofs.Lays.n156 Tryz.prog Tryz.lays156_ren := {
  mixed := by kernel_rfl
  f156 := Tryz.func29.trans (congrArg some (by kernel_rfl))
  f165 := Tryz.func33.trans (congrArg some (by kernel_rfl))
  f166 := Tryz.func16.trans (congrArg some (by kernel_rfl))
  f169 := Tryz.func20.trans (congrArg some (by kernel_rfl))
  f240 := Tryz.func27.trans (congrArg some (by kernel_rfl))
  f241 := Tryz.func50.trans (congrArg some (by kernel_rfl))
  f276 := Tryz.func41.trans (congrArg some (by kernel_rfl))
  f277 := Tryz.func68.trans (congrArg some (by kernel_rfl))
  t0 := Tryz.underlying0
  a0 := Tryz.isAgg0
  z0 := Tryz.sizeOf0
  v0 := Tryz.zeroValue0
  t3 := Tryz.underlying3
  a3 := Tryz.isAgg3
  z3 := Tryz.sizeOf3
  v3 := Tryz.zeroValue3
  t4 := Tryz.underlying4
  a4 := Tryz.isAgg4
  z4 := Tryz.sizeOf4
  v4 := Tryz.zeroValue4
  t9 := Tryz.underlying9
  a9 := Tryz.isAgg9
  z9 := Tryz.sizeOf9
  v9 := Tryz.zeroValue9
  t20 := Tryz.underlying20
  a20 := Tryz.isAgg20
  z20 := Tryz.sizeOf20
  v20 := Tryz.zeroValue20
  t31 := Tryz.underlying38
  a31 := Tryz.isAgg38
  z31 := Tryz.sizeOf38
  v31 := Tryz.zeroValue38
  t37 := Tryz.underlying30
  a37 := Tryz.isAgg30
  z37 := Tryz.sizeOf30
  v37 := Tryz.zeroValue30
  t70 := Tryz.underlying42
  a70 := Tryz.isAgg42
  z70 := Tryz.sizeOf42
  v70 := Tryz.zeroValue42
  t72 := Tryz.underlying44
  a72 := Tryz.isAgg44
  z72 := Tryz.sizeOf44
  v72 := Tryz.zeroValue44
  t75 := Tryz.underlying46
  a75 := Tryz.isAgg46
  z75 := Tryz.sizeOf46
  v75 := Tryz.zeroValue46
  t76 := Tryz.underlying47
  a76 := Tryz.isAgg47
  z76 := Tryz.sizeOf47
  v76 := Tryz.zeroValue47
  t127 := Tryz.underlying78
  a127 := Tryz.isAgg78
  z127 := Tryz.sizeOf78
  v127 := Tryz.zeroValue78
  t164 := Tryz.underlying92
  a164 := Tryz.isAgg92
  z164 := Tryz.sizeOf92
  v164 := Tryz.zeroValue92 }
theorem Tryz.Builder_Extra_156 : Builder.Extra Tryz.prog Tryz.lays156_ren := {
  sizeBuilder := by kernel_rfl
  liesBuilder := by kernel_rfl
  t5 := Tryz.underlying5
  a5 := Tryz.isAgg5
  z5 := Tryz.sizeOf5
  v5 := Tryz.zeroValue5
  infoByte := by kernel_rfl
  cellsByte := by kernel_rfl
  sizeByte := by kernel_rfl
  neB5 := by decide }
open Go.RowKit in
theorem Tryz.strings_Join_none (a : Option Addr) (c : Nat) (sep : ByteArray) (w : World) :
    Calls Tryz.prog 29 #[.slice a 0 c, .string sep] w fun e w' => e = .returned (.string ⟨#[]⟩) ∧ w' = w := Any.strings_Join_none Tryz.lays156 Tryz.Builder_Extra_156 a c sep w
open Go.RowKit in
theorem Tryz.strings_Join (bk o c : Nat) (xs : List ByteArray) (sep : ByteArray) (w : World) (hcells : ∀ (j : Nat) x, xs[j]? = some x → w.cell? ⟨bk, o + j, none⟩ = some (.string x)) (hbk : bk < w.heap.size) (hN : xs.length ≤ 140737488355328) (hcap : xs.length ≤ c) (hlen : (Lib.join (xs.map (·.data.toList)) sep.data.toList).length ≤ 140737488355328) :
    Calls Tryz.prog 29 #[.slice (some ⟨bk, o, none⟩) xs.length c, .string sep] w fun e w' => e = .returned (.string ⟨(Lib.join (xs.map (·.data.toList)) sep.data.toList).toArray⟩) ∧ Below w.heap.size w w' := Any.strings_Join Tryz.lays156 Tryz.Builder_Extra_156 bk o c xs sep w hcells hbk hN hcap hlen
def Tryz.lays160_ren : Go.Shelf.Ren := ⟨fun | 160 => 70 | 232 => 87 | 231 => 86 | 227 => 77 | 234 => 89 | 233 => 88 | 236 => 91 | 235 => 90 | 228 => 78 | 271 => 100 | 151 => 99 | 197 => 80 | 120 => 108 | 152 => 75 | 260 => 95 | 137 => 23 | 119 => 92 | 224 => 93 | 225 => 94 | 217 => 37 | 266 => 57 | n => n, fun | 9 => 9 | 4 => 4 | 3 => 3 | 5 => 5 | 117 => 137 | 116 => 136 | 0 => 0 | 124 => 147 | 21 => 21 | 105 => 140 | 46 => 68 | 119 => 153 | 139 => 156 | 138 => 155 | n => n, fun | 3 => 4 | 4 => 5 | n => n⟩
theorem Tryz.lays160 : Go.Proofs.Lays.n160 Tryz.prog Tryz.lays160_ren := {
  mixed := by kernel_rfl
  f119 := Tryz.func92.trans (congrArg some (by kernel_rfl))
  f120 := Tryz.func108.trans (congrArg some (by kernel_rfl))
  f137 := Tryz.func23.trans (congrArg some (by kernel_rfl))
  f151 := Tryz.func99.trans (congrArg some (by kernel_rfl))
  f152 := Tryz.func75.trans (congrArg some (by kernel_rfl))
  f160 := Tryz.func70.trans (congrArg some (by kernel_rfl))
  f197 := Tryz.func80.trans (congrArg some (by kernel_rfl))
  f217 := Tryz.func37.trans (congrArg some (by kernel_rfl))
  f224 := Tryz.func93.trans (congrArg some (by kernel_rfl))
  f225 := Tryz.func94.trans (congrArg some (by kernel_rfl))
  f227 := Tryz.func77.trans (congrArg some (by kernel_rfl))
  f228 := Tryz.func78.trans (congrArg some (by kernel_rfl))
  f231 := Tryz.func86.trans (congrArg some (by kernel_rfl))
  f232 := Tryz.func87.trans (congrArg some (by kernel_rfl))
  f233 := Tryz.func88.trans (congrArg some (by kernel_rfl))
  f234 := Tryz.func89.trans (congrArg some (by kernel_rfl))
  f235 := Tryz.func90.trans (congrArg some (by kernel_rfl))
  f236 := Tryz.func91.trans (congrArg some (by kernel_rfl))
  f260 := Tryz.func95.trans (congrArg some (by kernel_rfl))
  f266 := Tryz.func57.trans (congrArg some (by kernel_rfl))
  f271 := Tryz.func100.trans (congrArg some (by kernel_rfl))
  t0 := Tryz.underlying0
  a0 := Tryz.isAgg0
  z0 := Tryz.sizeOf0
  v0 := Tryz.zeroValue0
  t3 := Tryz.underlying3
  a3 := Tryz.isAgg3
  z3 := Tryz.sizeOf3
  v3 := Tryz.zeroValue3
  t4 := Tryz.underlying4
  a4 := Tryz.isAgg4
  z4 := Tryz.sizeOf4
  v4 := Tryz.zeroValue4
  t5 := Tryz.underlying5
  a5 := Tryz.isAgg5
  z5 := Tryz.sizeOf5
  v5 := Tryz.zeroValue5
  t9 := Tryz.underlying9
  a9 := Tryz.isAgg9
  z9 := Tryz.sizeOf9
  v9 := Tryz.zeroValue9
  t21 := Tryz.underlying21
  a21 := Tryz.isAgg21
  z21 := Tryz.sizeOf21
  v21 := Tryz.zeroValue21
  t46 := Tryz.underlying68
  a46 := Tryz.isAgg68
  z46 := Tryz.sizeOf68
  v46 := Tryz.zeroValue68
  t105 := Tryz.underlying140
  a105 := Tryz.isAgg140
  z105 := Tryz.sizeOf140
  v105 := Tryz.zeroValue140
  t116 := Tryz.underlying136
  a116 := Tryz.isAgg136
  z116 := Tryz.sizeOf136
  t117 := Tryz.underlying137
  a117 := Tryz.isAgg137
  z117 := Tryz.sizeOf137
  v117 := Tryz.zeroValue137
  t119 := Tryz.underlying153
  a119 := Tryz.isAgg153
  z119 := Tryz.sizeOf153
  t124 := Tryz.underlying147
  a124 := Tryz.isAgg147
  z124 := Tryz.sizeOf147
  v124 := Tryz.zeroValue147
  t138 := Tryz.underlying155
  a138 := Tryz.isAgg155
  z138 := Tryz.sizeOf155
  v138 := Tryz.zeroValue155
  t139 := Tryz.underlying156
  a139 := Tryz.isAgg156
  z139 := Tryz.sizeOf156
  v139 := Tryz.zeroValue156
  g3 := by kernel_rfl
  g4 := by kernel_rfl }
open Go.RowKit in
theorem Tryz.strings_Trim_one (s : ByteArray) (c : UInt8) (hc : c.toNat < 128) (w : World) (hs : s.size ≤ 9223372036854775807) :
    Calls Tryz.prog 70 #[.string s, .string ⟨#[c]⟩] w fun e w' => e = .returned (.string ⟨(Lib.trimB s.data.toList c).toArray⟩) ∧ (w' = w ∨ w' = w.drew) := Any.strings_Trim_one Tryz.lays160 s c hc w hs
def Tryz.lays137_ren : Go.Shelf.Ren := ⟨fun | 137 => 23 | 217 => 37 | 266 => 57 | n => n, fun | 9 => 9 | 5 => 5 | 3 => 3 | n => n, fun | n => n⟩
theorem Tryz.lays137 : Go.Proofs.Lays.n137 Tryz.prog Tryz.lays137_ren := {
  mixed := by kernel_rfl
  f137 := Tryz.func23.trans (congrArg some (by kernel_rfl))
  f217 := Tryz.func37.trans (congrArg some (by kernel_rfl))
  f266 := Tryz.func57.trans (congrArg some (by kernel_rfl))
  t3 := Tryz.underlying3
  a3 := Tryz.isAgg3
  z3 := Tryz.sizeOf3
  v3 := Tryz.zeroValue3
  t5 := Tryz.underlying5
  a5 := Tryz.isAgg5
  z5 := Tryz.sizeOf5
  v5 := Tryz.zeroValue5
  t9 := Tryz.underlying9
  a9 := Tryz.isAgg9
  z9 := Tryz.sizeOf9
  v9 := Tryz.zeroValue9 }
open Go.RowKit in
theorem Tryz.strings_IndexByte (s : ByteArray) (c : Int) (w : World) :
    Calls Tryz.prog 23 #[.string s, .int .u8 c] w fun e w' => e = .returned (.int .i64 (Lib.indexByte s.data.toList c.toNat.toUInt8)) ∧ w' = w := Any.strings_IndexByte Tryz.lays137 s c w
def Tryz.laysM171_ren : Go.Shelf.Ren := ⟨fun | 171 => 28 | 243 => 42 | 246 => 62 | 283 => 43 | 284 => 44 | 285 => 45 | 286 => 46 | 129 => 64 | 317 => 63 | 318 => 65 | 319 => 66 | 320 => 67 | 337 => 83 | 338 => 84 | n => n, fun | 3 => 3 | 9 => 9 | 2 => 2 | 4 => 4 | 171 => 94 | 0 => 0 | 53 => 51 | 37 => 30 | 5 => 5 | 173 => 97 | 212 => 123 | 51 => 36 | 20 => 20 | 213 => 124 | 46 => 68 | 232 => 149 | 233 => 150 | n => n, fun | 17 => 0 | 18 => 2 | 19 => 3 | n => n⟩
theorem Tryz.laysM171 : Go.Proofs.LaysM.n171 Tryz.prog Tryz.laysM171_ren := {
  mixed := by kernel_rfl
  f129 := Tryz.func64.trans (congrArg some (by kernel_rfl))
  f171 := Tryz.func28.trans (congrArg some (by kernel_rfl))
  f243 := Tryz.func42.trans (congrArg some (by kernel_rfl))
  f246 := Tryz.func62.trans (congrArg some (by kernel_rfl))
  f283 := Tryz.func43.trans (congrArg some (by kernel_rfl))
  f284 := Tryz.func44.trans (congrArg some (by kernel_rfl))
  f285 := Tryz.func45.trans (congrArg some (by kernel_rfl))
  f286 := Tryz.func46.trans (congrArg some (by kernel_rfl))
  f317 := Tryz.func63.trans (congrArg some (by kernel_rfl))
  f318 := Tryz.func65.trans (congrArg some (by kernel_rfl))
  f319 := Tryz.func66.trans (congrArg some (by kernel_rfl))
  f320 := Tryz.func67.trans (congrArg some (by kernel_rfl))
  f337 := Tryz.func83.trans (congrArg some (by kernel_rfl))
  f338 := Tryz.func84.trans (congrArg some (by kernel_rfl))
  t0 := Tryz.underlying0
  a0 := Tryz.isAgg0
  z0 := Tryz.sizeOf0
  v0 := Tryz.zeroValue0
  t2 := Tryz.underlying2
  a2 := Tryz.isAgg2
  z2 := Tryz.sizeOf2
  v2 := Tryz.zeroValue2
  t3 := Tryz.underlying3
  a3 := Tryz.isAgg3
  z3 := Tryz.sizeOf3
  v3 := Tryz.zeroValue3
  t4 := Tryz.underlying4
  a4 := Tryz.isAgg4
  z4 := Tryz.sizeOf4
  v4 := Tryz.zeroValue4
  t5 := Tryz.underlying5
  a5 := Tryz.isAgg5
  z5 := Tryz.sizeOf5
  v5 := Tryz.zeroValue5
  t9 := Tryz.underlying9
  a9 := Tryz.isAgg9
  z9 := Tryz.sizeOf9
  v9 := Tryz.zeroValue9
  t20 := Tryz.underlying20
  a20 := Tryz.isAgg20
  z20 := Tryz.sizeOf20
  v20 := Tryz.zeroValue20
  t37 := Tryz.underlying30
  a37 := Tryz.isAgg30
  z37 := Tryz.sizeOf30
  v37 := Tryz.zeroValue30
  t46 := Tryz.underlying68
  a46 := Tryz.isAgg68
  z46 := Tryz.sizeOf68
  v46 := Tryz.zeroValue68
  t51 := Tryz.underlying36
  a51 := Tryz.isAgg36
  z51 := Tryz.sizeOf36
  v51 := Tryz.zeroValue36
  t53 := Tryz.underlying51
  a53 := Tryz.isAgg51
  z53 := Tryz.sizeOf51
  v53 := Tryz.zeroValue51
  t171 := Tryz.underlying94
  a171 := Tryz.isAgg94
  z171 := Tryz.sizeOf94
  v171 := Tryz.zeroValue94
  t173 := Tryz.underlying97
  a173 := Tryz.isAgg97
  z173 := Tryz.sizeOf97
  v173 := Tryz.zeroValue97
  t212 := Tryz.underlying123
  a212 := Tryz.isAgg123
  z212 := Tryz.sizeOf123
  v212 := Tryz.zeroValue123
  t213 := Tryz.underlying124
  a213 := Tryz.isAgg124
  z213 := Tryz.sizeOf124
  t232 := Tryz.underlying149
  a232 := Tryz.isAgg149
  z232 := Tryz.sizeOf149
  v232 := Tryz.zeroValue149
  t233 := Tryz.underlying150
  a233 := Tryz.isAgg150
  z233 := Tryz.sizeOf150
  v233 := Tryz.zeroValue150
  g17 := by kernel_rfl
  g18 := by kernel_rfl
  g19 := by kernel_rfl
  i0 := by kernel_rfl
  i2 := by kernel_rfl
  i3 := by kernel_rfl
  i4 := by kernel_rfl
  i5 := by kernel_rfl
  i9 := by kernel_rfl
  i20 := by kernel_rfl
  i37 := by kernel_rfl
  i46 := by kernel_rfl
  i51 := by kernel_rfl
  i53 := by kernel_rfl
  i171 := by kernel_rfl
  i173 := by kernel_rfl
  i212 := by kernel_rfl
  i232 := by kernel_rfl
  i233 := by kernel_rfl
  m17 := by kernel_rfl
  m18 := by kernel_rfl
  m19 := by kernel_rfl }
open Go.RowKit Go.Sort Go.Lib in
theorem Tryz.strconv_Itoa (n : Int) (h0 : -9223372036854775808 ≤ n) (h1 : n ≤ 9223372036854775807) (w : World) (htab : Lib.TabIs Tryz.prog w "internal/strconv.uint64pow10" .u64 Lib.pow10Tab) :
    Calls Tryz.prog 28 #[.int .i64 n] w fun e w' => e = .returned (.string ⟨(Lib.itoa n).toArray⟩) ∧ ∃ k os, w' = grow (w.drewN k) os := Any.strconv_Itoa Tryz.laysM171 n h0 h1 w htab
def Tryz.laysPu14_ren : Go.Shelf.Ren := ⟨fun | 14 => 85 | 16 => 97 | 17 => 98 | 19 => 102 | 20 => 103 | 21 => 104 | 22 => 105 | 23 => 106 | 24 => 107 | 25 => 109 | 27 => 28 | 26 => 110 | 28 => 42 | 29 => 62 | 30 => 43 | 31 => 44 | 32 => 45 | 33 => 46 | 35 => 64 | 34 => 63 | 36 => 65 | 37 => 66 | 38 => 67 | 39 => 83 | 40 => 84 | n => n, fun | 9 => 9 | 3 => 3 | 22 => 51 | 24 => 46 | 25 => 143 | 4 => 4 | 34 => 158 | 5 => 5 | 36 => 68 | 37 => 30 | 0 => 0 | 39 => 160 | 21 => 21 | 44 => 165 | 47 => 78 | 50 => 169 | 48 => 167 | 2 => 2 | 52 => 94 | 55 => 97 | 59 => 123 | 60 => 36 | 20 => 20 | 61 => 124 | 65 => 149 | 66 => 150 | 67 => 53 | n => n, fun | 0 => 6 | 1 => 7 | 2 => 0 | 3 => 2 | 4 => 3 | n => n⟩
theorem Tryz.laysPu14 : Go.Proofs.LaysPu.n14 Tryz.prog Tryz.laysPu14_ren := {
  mixed := by kernel_rfl
  f14 := Tryz.func85.trans (congrArg some (by kernel_rfl))
  f16 := Tryz.func97.trans (congrArg some (by kernel_rfl))
  f17 := Tryz.func98.trans (congrArg some (by kernel_rfl))
  f19 := Tryz.func102.trans (congrArg some (by kernel_rfl))
  f20 := Tryz.func103.trans (congrArg some (by kernel_rfl))
  f21 := Tryz.func104.trans (congrArg some (by kernel_rfl))
  f22 := Tryz.func105.trans (congrArg some (by kernel_rfl))
  f23 := Tryz.func106.trans (congrArg some (by kernel_rfl))
  f24 := Tryz.func107.trans (congrArg some (by kernel_rfl))
  f25 := Tryz.func109.trans (congrArg some (by kernel_rfl))
  f26 := Tryz.func110.trans (congrArg some (by kernel_rfl))
  f27 := Tryz.func28.trans (congrArg some (by kernel_rfl))
  f28 := Tryz.func42.trans (congrArg some (by kernel_rfl))
  f29 := Tryz.func62.trans (congrArg some (by kernel_rfl))
  f30 := Tryz.func43.trans (congrArg some (by kernel_rfl))
  f31 := Tryz.func44.trans (congrArg some (by kernel_rfl))
  f32 := Tryz.func45.trans (congrArg some (by kernel_rfl))
  f33 := Tryz.func46.trans (congrArg some (by kernel_rfl))
  f34 := Tryz.func63.trans (congrArg some (by kernel_rfl))
  f35 := Tryz.func64.trans (congrArg some (by kernel_rfl))
  f36 := Tryz.func65.trans (congrArg some (by kernel_rfl))
  f37 := Tryz.func66.trans (congrArg some (by kernel_rfl))
  f38 := Tryz.func67.trans (congrArg some (by kernel_rfl))
  f39 := Tryz.func83.trans (congrArg some (by kernel_rfl))
  f40 := Tryz.func84.trans (congrArg some (by kernel_rfl))
  t0 := Tryz.underlying0
  a0 := Tryz.isAgg0
  z0 := Tryz.sizeOf0
  v0 := Tryz.zeroValue0
  i0 := by kernel_rfl
  t2 := Tryz.underlying2
  a2 := Tryz.isAgg2
  z2 := Tryz.sizeOf2
  v2 := Tryz.zeroValue2
  i2 := by kernel_rfl
  t3 := Tryz.underlying3
  a3 := Tryz.isAgg3
  z3 := Tryz.sizeOf3
  v3 := Tryz.zeroValue3
  i3 := by kernel_rfl
  t4 := Tryz.underlying4
  a4 := Tryz.isAgg4
  z4 := Tryz.sizeOf4
  v4 := Tryz.zeroValue4
  i4 := by kernel_rfl
  t5 := Tryz.underlying5
  a5 := Tryz.isAgg5
  z5 := Tryz.sizeOf5
  v5 := Tryz.zeroValue5
  i5 := by kernel_rfl
  t9 := Tryz.underlying9
  a9 := Tryz.isAgg9
  z9 := Tryz.sizeOf9
  v9 := Tryz.zeroValue9
  i9 := by kernel_rfl
  t20 := Tryz.underlying20
  a20 := Tryz.isAgg20
  z20 := Tryz.sizeOf20
  v20 := Tryz.zeroValue20
  i20 := by kernel_rfl
  t21 := Tryz.underlying21
  a21 := Tryz.isAgg21
  z21 := Tryz.sizeOf21
  v21 := Tryz.zeroValue21
  i21 := by kernel_rfl
  t22 := Tryz.underlying51
  a22 := Tryz.isAgg51
  z22 := Tryz.sizeOf51
  v22 := Tryz.zeroValue51
  i22 := by kernel_rfl
  t24 := Tryz.underlying46
  a24 := Tryz.isAgg46
  z24 := Tryz.sizeOf46
  v24 := Tryz.zeroValue46
  i24 := by kernel_rfl
  t25 := Tryz.underlying143
  a25 := Tryz.isAgg143
  z25 := Tryz.sizeOf143
  v25 := Tryz.zeroValue143
  i25 := by kernel_rfl
  t34 := Tryz.underlying158
  a34 := Tryz.isAgg158
  z34 := Tryz.sizeOf158
  v34 := Tryz.zeroValue158
  i34 := by kernel_rfl
  c34 := by kernel_rfl
  t36 := Tryz.underlying68
  a36 := Tryz.isAgg68
  z36 := Tryz.sizeOf68
  v36 := Tryz.zeroValue68
  i36 := by kernel_rfl
  t37 := Tryz.underlying30
  a37 := Tryz.isAgg30
  z37 := Tryz.sizeOf30
  v37 := Tryz.zeroValue30
  i37 := by kernel_rfl
  t39 := Tryz.underlying160
  a39 := Tryz.isAgg160
  z39 := Tryz.sizeOf160
  v39 := Tryz.zeroValue160
  i39 := by kernel_rfl
  t44 := Tryz.underlying165
  a44 := Tryz.isAgg165
  z44 := Tryz.sizeOf165
  v44 := Tryz.zeroValue165
  i44 := by kernel_rfl
  t47 := Tryz.underlying78
  a47 := Tryz.isAgg78
  z47 := Tryz.sizeOf78
  v47 := Tryz.zeroValue78
  i47 := by kernel_rfl
  t48 := Tryz.underlying167
  a48 := Tryz.isAgg167
  z48 := Tryz.sizeOf167
  v48 := Tryz.zeroValue167
  i48 := by kernel_rfl
  t50 := Tryz.underlying169
  a50 := Tryz.isAgg169
  z50 := Tryz.sizeOf169
  v50 := Tryz.zeroValue169
  i50 := by kernel_rfl
  t52 := Tryz.underlying94
  a52 := Tryz.isAgg94
  z52 := Tryz.sizeOf94
  v52 := Tryz.zeroValue94
  i52 := by kernel_rfl
  t55 := Tryz.underlying97
  a55 := Tryz.isAgg97
  z55 := Tryz.sizeOf97
  v55 := Tryz.zeroValue97
  i55 := by kernel_rfl
  t59 := Tryz.underlying123
  a59 := Tryz.isAgg123
  z59 := Tryz.sizeOf123
  v59 := Tryz.zeroValue123
  i59 := by kernel_rfl
  t60 := Tryz.underlying36
  a60 := Tryz.isAgg36
  z60 := Tryz.sizeOf36
  v60 := Tryz.zeroValue36
  i60 := by kernel_rfl
  t61 := Tryz.underlying124
  a61 := Tryz.isAgg124
  z61 := Tryz.sizeOf124
  t65 := Tryz.underlying149
  a65 := Tryz.isAgg149
  z65 := Tryz.sizeOf149
  v65 := Tryz.zeroValue149
  i65 := by kernel_rfl
  t66 := Tryz.underlying150
  a66 := Tryz.isAgg150
  z66 := Tryz.sizeOf150
  v66 := Tryz.zeroValue150
  i66 := by kernel_rfl
  t67 := Tryz.underlying53
  a67 := Tryz.isAgg53
  z67 := Tryz.sizeOf53
  v67 := Tryz.zeroValue53
  i67 := by kernel_rfl
  g0 := by kernel_rfl
  m0 := by kernel_rfl
  g1 := by kernel_rfl
  m1 := by kernel_rfl
  g2 := by kernel_rfl
  m2 := by kernel_rfl
  g3 := by kernel_rfl
  m3 := by kernel_rfl
  g4 := by kernel_rfl
  m4 := by kernel_rfl }
open Go.RowKit in
theorem Tryz.strconv_ParseUint_10_at64_ok (s : ByteArray) (hmax : s.size ≤ 9223372036854775806) (u : Nat) (h : Lib.parseUintB 64 s.data.toList = .ok u) (w : World) :
    Calls Tryz.prog 85 #[.string s, .int .i64 10, .int .i64 64] w fun e w' => e = .returned (.tuple #[.int .u64 u, .nilIface]) ∧ (w' = w ∨ w' = Lib.bytesWorld w 5 s) := Any.strconv_ParseUint_10_at64_ok Tryz.laysPu14 s hmax u h w
open Go.RowKit in
theorem Tryz.strconv_ParseUint_10_at64_syntax (s : ByteArray) (hlim : s.size ≤ 281474976710656) (h1 : ∀ u, Lib.parseUintB 64 s.data.toList ≠ .ok u) (h2 : Lib.parseUintB 64 s.data.toList ≠ .range) (ev : Value) (w : World) (hv : w.cell? ⟨6, 0, none⟩ = some ev) (hev : ev = .nilIface ∨ ∃ te pe, ev = .iface te pe) :
    Calls Tryz.prog 85 #[.string s, .int .i64 10, .int .i64 64] w fun e w' => ∃ N, e = .returned (.tuple #[.int .u64 0, .iface 160 (.pointer (some ⟨N, 0, none⟩))]) ∧ w.heap.size ≤ N ∧ w'.heap[N]? = some (.cells #[.string ⟨#[80, 97, 114, 115, 101, 85, 105, 110, 116]⟩, .string s, ev] 165 (0, 0)) ∧ Below w.heap.size w w' := by
  cases hp : Lib.parseUintB 64 s.data.toList with
  | ok u => exact absurd hp (h1 u)
  | range => exact absurd hp h2
  | _ => exact Any.strconv_ParseUint_10_at64_syntax Tryz.laysPu14 s hlim hp ev w hv hev
open Go.RowKit in
theorem Tryz.strconv_ParseUint_10_at64_range (s : ByteArray) (hlim : s.size ≤ 281474976710656) (h : Lib.parseUintB 64 s.data.toList = .range) (ev : Value) (w : World) (hv : w.cell? ⟨7, 0, none⟩ = some ev) (hev : ev = .nilIface ∨ ∃ te pe, ev = .iface te pe) :
    Calls Tryz.prog 85 #[.string s, .int .i64 10, .int .i64 64] w fun e w' => ∃ N, e = .returned (.tuple #[.int .u64 18446744073709551615, .iface 160 (.pointer (some ⟨N, 0, none⟩))]) ∧ w.heap.size ≤ N ∧ w'.heap[N]? = some (.cells #[.string ⟨#[80, 97, 114, 115, 101, 85, 105, 110, 116]⟩, .string s, ev] 165 (0, 0)) ∧ Below w.heap.size w w' := Any.strconv_ParseUint_10_at64_range Tryz.laysPu14 s hlim h ev w hv hev
def Tryz.lays99_ren : Go.Shelf.Ren := ⟨fun | 99 => 32 | 206 => 49 | n => n, fun | 9 => 9 | 4 => 4 | 3 => 3 | n => n, fun | n => n⟩
theorem Tryz.lays99 : Go.Proofs.Lays.n99 Tryz.prog Tryz.lays99_ren := {
  mixed := by kernel_rfl
  f99 := Tryz.func32.trans (congrArg some (by kernel_rfl))
  f206 := Tryz.func49.trans (congrArg some (by kernel_rfl))
  t3 := Tryz.underlying3
  a3 := Tryz.isAgg3
  z3 := Tryz.sizeOf3
  v3 := Tryz.zeroValue3
  t4 := Tryz.underlying4
  a4 := Tryz.isAgg4
  z4 := Tryz.sizeOf4
  v4 := Tryz.zeroValue4
  t9 := Tryz.underlying9
  a9 := Tryz.isAgg9
  z9 := Tryz.sizeOf9
  v9 := Tryz.zeroValue9 }
open Go.RowKit Go.Lib in
theorem Tryz.strings_HasPrefix (s p : ByteArray) (w : World) :
    Calls Tryz.prog 32 #[.string s, .string p] w fun e w' => e = .returned (.bool (Lib.hasPrefix s.data.toList p.data.toList)) ∧ w' = w := Any.strings_HasPrefix Tryz.lays99 s p w
def Tryz.lays146_ren : Go.Shelf.Ren := ⟨fun | 146 => 26 | 221 => 40 | 268 => 59 | 138 => 60 | 143 => 61 | 195 => 79 | 197 => 80 | 218 => 81 | 219 => 82 | 260 => 95 | 217 => 37 | 225 => 94 | 224 => 93 | 267 => 96 | 266 => 57 | 314 => 101 | n => n, fun | 9 => 9 | 31 => 38 | 3 => 3 | 4 => 4 | 0 => 0 | 105 => 140 | 21 => 21 | 5 => 5 | 46 => 68 | 119 => 153 | 139 => 156 | 138 => 155 | 146 => 99 | 51 => 36 | n => n, fun | 1 => 1 | 3 => 4 | 4 => 5 | n => n⟩
theorem Tryz.lays146 : Go.Proofs.Lays.n146 Tryz.prog Tryz.lays146_ren := {
  mixed := by kernel_rfl
  f138 := Tryz.func60.trans (congrArg some (by kernel_rfl))
  f143 := Tryz.func61.trans (congrArg some (by kernel_rfl))
  f146 := Tryz.func26.trans (congrArg some (by kernel_rfl))
  f195 := Tryz.func79.trans (congrArg some (by kernel_rfl))
  f197 := Tryz.func80.trans (congrArg some (by kernel_rfl))
  f217 := Tryz.func37.trans (congrArg some (by kernel_rfl))
  f218 := Tryz.func81.trans (congrArg some (by kernel_rfl))
  f219 := Tryz.func82.trans (congrArg some (by kernel_rfl))
  f221 := Tryz.func40.trans (congrArg some (by kernel_rfl))
  f224 := Tryz.func93.trans (congrArg some (by kernel_rfl))
  f225 := Tryz.func94.trans (congrArg some (by kernel_rfl))
  f260 := Tryz.func95.trans (congrArg some (by kernel_rfl))
  f266 := Tryz.func57.trans (congrArg some (by kernel_rfl))
  f267 := Tryz.func96.trans (congrArg some (by kernel_rfl))
  f268 := Tryz.func59.trans (congrArg some (by kernel_rfl))
  f314 := Tryz.func101.trans (congrArg some (by kernel_rfl))
  t0 := Tryz.underlying0
  a0 := Tryz.isAgg0
  z0 := Tryz.sizeOf0
  v0 := Tryz.zeroValue0
  t3 := Tryz.underlying3
  a3 := Tryz.isAgg3
  z3 := Tryz.sizeOf3
  v3 := Tryz.zeroValue3
  t4 := Tryz.underlying4
  a4 := Tryz.isAgg4
  z4 := Tryz.sizeOf4
  v4 := Tryz.zeroValue4
  t5 := Tryz.underlying5
  a5 := Tryz.isAgg5
  z5 := Tryz.sizeOf5
  v5 := Tryz.zeroValue5
  t9 := Tryz.underlying9
  a9 := Tryz.isAgg9
  z9 := Tryz.sizeOf9
  v9 := Tryz.zeroValue9
  t21 := Tryz.underlying21
  a21 := Tryz.isAgg21
  z21 := Tryz.sizeOf21
  v21 := Tryz.zeroValue21
  t31 := Tryz.underlying38
  a31 := Tryz.isAgg38
  z31 := Tryz.sizeOf38
  v31 := Tryz.zeroValue38
  t46 := Tryz.underlying68
  a46 := Tryz.isAgg68
  z46 := Tryz.sizeOf68
  v46 := Tryz.zeroValue68
  t51 := Tryz.underlying36
  a51 := Tryz.isAgg36
  z51 := Tryz.sizeOf36
  v51 := Tryz.zeroValue36
  t105 := Tryz.underlying140
  a105 := Tryz.isAgg140
  z105 := Tryz.sizeOf140
  v105 := Tryz.zeroValue140
  t119 := Tryz.underlying153
  a119 := Tryz.isAgg153
  z119 := Tryz.sizeOf153
  t138 := Tryz.underlying155
  a138 := Tryz.isAgg155
  z138 := Tryz.sizeOf155
  v138 := Tryz.zeroValue155
  t139 := Tryz.underlying156
  a139 := Tryz.isAgg156
  z139 := Tryz.sizeOf156
  v139 := Tryz.zeroValue156
  t146 := Tryz.underlying99
  a146 := Tryz.isAgg99
  z146 := Tryz.sizeOf99
  v146 := Tryz.zeroValue99
  g1 := by kernel_rfl
  g3 := by kernel_rfl
  g4 := by kernel_rfl }
open Go.RowKit Go.Lib in
theorem Tryz.strings_Split (s sep : ByteArray) (m : Int) (w : World) (hs : s.size < 4294967281) (hm : w.cell? ⟨1, 0, none⟩ = some (.int .i64 m)) (h1 : 1 ≤ sep.size) :
    Calls Tryz.prog 26 #[.string s, .string sep] w fun e w' =>
      e = .returned (.slice (some ⟨w.heap.size, 0, none⟩) (Lib.countB s sep + 1) (Lib.countB s sep + 1)) ∧ w' = w.alloc (.cells ((Lib.splitB sep 0 (Lib.countB s sep) s).map Value.string).toArray 9) := Any.strings_Split Tryz.lays146 (by kernel_rfl) s sep m w hs hm h1
def Tryz.lays153_ren : Go.Shelf.Ren := ⟨fun | 153 => 58 | 152 => 75 | 226 => 76 | 227 => 77 | 228 => 78 | 137 => 23 | 119 => 92 | 224 => 93 | 225 => 94 | 217 => 37 | 266 => 57 | n => n, fun | 9 => 9 | 3 => 3 | 4 => 4 | 5 => 5 | 21 => 21 | 117 => 137 | 116 => 136 | 0 => 0 | 46 => 68 | 124 => 147 | n => n, fun | n => n⟩
theorem Tryz.lays153 : Go.Proofs.Lays.n153 Tryz.prog Tryz.lays153_ren := {
  mixed := by kernel_rfl
  f119 := Tryz.func92.trans (congrArg some (by kernel_rfl))
  f137 := Tryz.func23.trans (congrArg some (by kernel_rfl))
  f152 := Tryz.func75.trans (congrArg some (by kernel_rfl))
  f153 := Tryz.func58.trans (congrArg some (by kernel_rfl))
  f217 := Tryz.func37.trans (congrArg some (by kernel_rfl))
  f224 := Tryz.func93.trans (congrArg some (by kernel_rfl))
  f225 := Tryz.func94.trans (congrArg some (by kernel_rfl))
  f226 := Tryz.func76.trans (congrArg some (by kernel_rfl))
  f227 := Tryz.func77.trans (congrArg some (by kernel_rfl))
  f228 := Tryz.func78.trans (congrArg some (by kernel_rfl))
  f266 := Tryz.func57.trans (congrArg some (by kernel_rfl))
  t0 := Tryz.underlying0
  a0 := Tryz.isAgg0
  z0 := Tryz.sizeOf0
  v0 := Tryz.zeroValue0
  t3 := Tryz.underlying3
  a3 := Tryz.isAgg3
  z3 := Tryz.sizeOf3
  v3 := Tryz.zeroValue3
  t4 := Tryz.underlying4
  a4 := Tryz.isAgg4
  z4 := Tryz.sizeOf4
  v4 := Tryz.zeroValue4
  t5 := Tryz.underlying5
  a5 := Tryz.isAgg5
  z5 := Tryz.sizeOf5
  v5 := Tryz.zeroValue5
  t9 := Tryz.underlying9
  a9 := Tryz.isAgg9
  z9 := Tryz.sizeOf9
  v9 := Tryz.zeroValue9
  t21 := Tryz.underlying21
  a21 := Tryz.isAgg21
  z21 := Tryz.sizeOf21
  v21 := Tryz.zeroValue21
  t46 := Tryz.underlying68
  a46 := Tryz.isAgg68
  z46 := Tryz.sizeOf68
  v46 := Tryz.zeroValue68
  t116 := Tryz.underlying136
  a116 := Tryz.isAgg136
  z116 := Tryz.sizeOf136
  t117 := Tryz.underlying137
  a117 := Tryz.isAgg137
  z117 := Tryz.sizeOf137
  v117 := Tryz.zeroValue137
  t124 := Tryz.underlying147
  a124 := Tryz.isAgg147
  z124 := Tryz.sizeOf147
  v124 := Tryz.zeroValue147 }
open Go.RowKit Go.Lib in
theorem Tryz.strings_IndexAny_laid (s chars : ByteArray) (w : World) (hs : s.size < 4294967281) (hcs : chars.size < 4294967281) (has : ∀ (j : Nat) b, s.data.toList[j]? = some b → b.toNat < 128) (hac : ∀ (j : Nat) b, chars.data.toList[j]? = some b → b.toNat < 128) :
    Calls Tryz.prog 58 #[.string s, .string chars] w fun e w' => e = .returned (.int .i64 (Lib.indexAny s.data.toList chars.data.toList)) ∧ Below w.heap.size w w' := Any.strings_IndexAny_laid Tryz.lays153 (by kernel_rfl) s chars w hs hcs has hac
def Tryz.lays105_ren : Go.Shelf.Ren := ⟨fun | 105 => 19 | 212 => 31 | 99 => 32 | 165 => 33 | 166 => 16 | 170 => 34 | 169 => 20 | 263 => 47 | 264 => 48 | 206 => 49 | 240 => 27 | 241 => 50 | 276 => 41 | 277 => 68 | n => n, fun | 9 => 9 | 3 => 3 | 4 => 4 | 20 => 20 | 0 => 0 | 46 => 68 | 109 => 73 | 5 => 5 | 72 => 44 | 76 => 47 | 51 => 36 | 146 => 99 | 53 => 51 | 148 => 101 | 70 => 42 | 37 => 30 | 75 => 46 | 127 => 78 | 164 => 92 | 80 => 53 | n => n, fun | n => n⟩
theorem Tryz.lays105 : Go.Proofs.Lays.n105 Tryz.prog Tryz.lays105_ren := {
  mixed := by kernel_rfl
  f99 := Tryz.func32.trans (congrArg some (by kernel_rfl))
  f105 := Tryz.func19.trans (congrArg some (by kernel_rfl))
  f165 := Tryz.func33.trans (congrArg some (by kernel_rfl))
  f166 := Tryz.func16.trans (congrArg some (by kernel_rfl))
  f169 := Tryz.func20.trans (congrArg some (by kernel_rfl))
  f170 := Tryz.func34.trans (congrArg some (by kernel_rfl))
  f206 := Tryz.func49.trans (congrArg some (by kernel_rfl))
  f212 := Tryz.func31.trans (congrArg some (by kernel_rfl))
  f240 := Tryz.func27.trans (congrArg some (by kernel_rfl))
  f241 := Tryz.func50.trans (congrArg some (by kernel_rfl))
  f263 := Tryz.func47.trans (congrArg some (by kernel_rfl))
  f264 := Tryz.func48.trans (congrArg some (by kernel_rfl))
  f276 := Tryz.func41.trans (congrArg some (by kernel_rfl))
  f277 := Tryz.func68.trans (congrArg some (by kernel_rfl))
  t0 := Tryz.underlying0
  a0 := Tryz.isAgg0
  z0 := Tryz.sizeOf0
  v0 := Tryz.zeroValue0
  t3 := Tryz.underlying3
  a3 := Tryz.isAgg3
  z3 := Tryz.sizeOf3
  v3 := Tryz.zeroValue3
  t4 := Tryz.underlying4
  a4 := Tryz.isAgg4
  z4 := Tryz.sizeOf4
  v4 := Tryz.zeroValue4
  t5 := Tryz.underlying5
  a5 := Tryz.isAgg5
  z5 := Tryz.sizeOf5
  v5 := Tryz.zeroValue5
  t9 := Tryz.underlying9
  a9 := Tryz.isAgg9
  z9 := Tryz.sizeOf9
  v9 := Tryz.zeroValue9
  t20 := Tryz.underlying20
  a20 := Tryz.isAgg20
  z20 := Tryz.sizeOf20
  v20 := Tryz.zeroValue20
  t37 := Tryz.underlying30
  a37 := Tryz.isAgg30
  z37 := Tryz.sizeOf30
  v37 := Tryz.zeroValue30
  t46 := Tryz.underlying68
  a46 := Tryz.isAgg68
  z46 := Tryz.sizeOf68
  v46 := Tryz.zeroValue68
  t51 := Tryz.underlying36
  a51 := Tryz.isAgg36
  z51 := Tryz.sizeOf36
  v51 := Tryz.zeroValue36
  t53 := Tryz.underlying51
  a53 := Tryz.isAgg51
  z53 := Tryz.sizeOf51
  v53 := Tryz.zeroValue51
  t70 := Tryz.underlying42
  a70 := Tryz.isAgg42
  z70 := Tryz.sizeOf42
  v70 := Tryz.zeroValue42
  t72 := Tryz.underlying44
  a72 := Tryz.isAgg44
  z72 := Tryz.sizeOf44
  v72 := Tryz.zeroValue44
  t75 := Tryz.underlying46
  a75 := Tryz.isAgg46
  z75 := Tryz.sizeOf46
  v75 := Tryz.zeroValue46
  t76 := Tryz.underlying47
  a76 := Tryz.isAgg47
  z76 := Tryz.sizeOf47
  v76 := Tryz.zeroValue47
  t109 := Tryz.underlying73
  a109 := Tryz.isAgg73
  z109 := Tryz.sizeOf73
  v109 := Tryz.zeroValue73
  t127 := Tryz.underlying78
  a127 := Tryz.isAgg78
  z127 := Tryz.sizeOf78
  v127 := Tryz.zeroValue78
  t146 := Tryz.underlying99
  a146 := Tryz.isAgg99
  z146 := Tryz.sizeOf99
  v146 := Tryz.zeroValue99
  t148 := Tryz.underlying101
  a148 := Tryz.isAgg101
  z148 := Tryz.sizeOf101
  v148 := Tryz.zeroValue101
  t164 := Tryz.underlying92
  a164 := Tryz.isAgg92
  z164 := Tryz.sizeOf92
  v164 := Tryz.zeroValue92 }
theorem Tryz.Builder_Extra_105 : Builder.Extra Tryz.prog Tryz.lays105_ren := {
  sizeBuilder := by kernel_rfl
  liesBuilder := by kernel_rfl
  t5 := Tryz.underlying5
  a5 := Tryz.isAgg5
  z5 := Tryz.sizeOf5
  v5 := Tryz.zeroValue5
  infoByte := by kernel_rfl
  cellsByte := by kernel_rfl
  sizeByte := by kernel_rfl
  neB5 := by decide }
open Go.RowKit Go.Lib in
theorem Tryz.strings_Repeat (s : ByteArray) (c : Nat) (w : World) (hc : c ≤ 9223372036854775807) (hlen : s.size * c ≤ 140737488355328) :
    Calls Tryz.prog 19 #[.string s, .int .i64 c] w fun e w' => e = .returned (.string ⟨(Lib.repeatL s.data.toList c).toArray⟩) ∧ Below w.heap.size w w' := Any.strings_Repeat Tryz.lays105 Tryz.Builder_Extra_105 s c w hc hlen
end Go.Proofs

/-
  The library's contracts as contracts over blocks: strings.Split, HasPrefix, Trim, IndexByte, IndexAny, Join, Repeat; strconv.Itoa, ParseUint at base 10.
-/
namespace Go.Proofs.YtgppllppddaodaaGreatDoor
open Sl Am

def pow10V : List Value := Lib.pow10Tab.map (Value.int .u64)
/-- The package-level variables that the library reads. -/
structure Glob (R : Heap) : Prop where
  pow : ∃ T f, (0, Obj.cells pow10V.toArray T f) ∈ R
  mx : ∃ m T f, (1, Obj.cells #[.int .i64 m] T f) ∈ R
  eS : ∃ te pe T f, (6, Obj.cells #[.iface te pe] T f) ∈ R
  eR : ∃ te pe T f, (7, Obj.cells #[.iface te pe] T f) ∈ R

theorem hasPrefix_c (R L : Heap) (s p : List UInt8) : FnW Tryz.prog 32 [str s, str p] R L fun v L' => v = .bool (Lib.hasPrefix s p) ∧ L' = L :=
  FnW.of_same' fun w _ => Tryz.strings_HasPrefix ⟨s.toArray⟩ ⟨p.toArray⟩ w
theorem indexByte_c (R L : Heap) (s : List UInt8) (c : UInt8) : FnW Tryz.prog 23 [str s, .int .u8 c.toNat] R L fun v L' => v = .int .i64 (Lib.indexByte s c) ∧ L' = L := by
  have h := FnW.of_same' (P := Tryz.prog) (f := 23) (args := [str s, .int .u8 c.toNat]) (R := R) (L := L) fun w _ => Tryz.strings_IndexByte ⟨s.toArray⟩ c.toNat w
  refine h.mono fun v L' ⟨h1, h2⟩ => ⟨?_, h2⟩
  rw [h1]; simp

theorem split_c (R L : Heap) (hR : Glob R) (s : List UInt8) (c : UInt8) (hs : s.length < 4294967281) :
    FnW Tryz.prog 26 [str s, str [c]] R L fun v L' => ∃ b, v = .slice (some ⟨b, 0, none⟩) (splitC c s).length (splitC c s).length ∧ L' = (b, cb ((splitC c s).map str) 9) :: L := by
  intro w hh
  obtain ⟨m, T, f, hm⟩ := hR.mx
  have hcell : w.cell? ⟨1, 0, none⟩ = some (.int .i64 m) := by simp [World.cell?, hh.ro _ hm]
  refine (Tryz.strings_Split ⟨s.toArray⟩ ⟨[c].toArray⟩ m w hs hcell (Nat.le_refl 1)).mono ?_
  rintro x w' ⟨rfl, rfl⟩
  have hcount : Lib.countB ⟨s.toArray⟩ ⟨[c].toArray⟩ = s.count c := Lib.count_one c s
  have hlen := splitC_length c s
  have hsp : (Lib.splitB ⟨[c].toArray⟩ 0 (Lib.countB ⟨s.toArray⟩ ⟨[c].toArray⟩) ⟨s.toArray⟩).map Value.string = (splitC c s).map str := by
    have h1 := Lib.splitB_data ⟨[c].toArray⟩ 0 (Lib.countB ⟨s.toArray⟩ ⟨[c].toArray⟩) ⟨s.toArray⟩
    have h2 : Lib.splitK [c] 0 (s.count c) s = splitC c s := splitK_splitC c _ s (by omega)
    rw [hcount] at h1 ⊢
    have h3 : (Lib.splitB ⟨[c].toArray⟩ 0 (s.count c) ⟨s.toArray⟩).map (·.data.toList) = splitC c s := h1.trans h2
    rw [← h3, List.map_map]
    apply List.map_congr_left
    intro x _
    simp [str]
  refine ⟨_, (w.heap.size, cb ((splitC c s).map str) 9) :: L, rfl, ⟨w.heap.size, ?_, rfl⟩, ?_, ?_⟩
  · rw [hcount, ← hlen]
  · have := hh.alloc (cb ((splitC c s).map str) 9)
    rw [← hsp] at this ⊢
    exact this
  · have := Mv.alloc L w (cb ((splitC c s).map str) 9)
    rw [← hsp] at this ⊢
    exact this

theorem trim_c (R L : Heap) (s cut : List UInt8) (hs : s.length ≤ 9223372036854775807) (hc : cut.length < 4294967281) (ha : cut.all (fun b => decide (b.toNat < 128)) = true) :
    FnW Tryz.prog 70 [str s, str cut] R L fun v L' => v = str (Lib.trimS s cut) ∧ L' = L :=
  FnW.of_below (G := fun v => v = str (Lib.trimS s cut)) fun w _ => (Any.strings_Trim_laid (ρ := Tryz.lays160_ren) Tryz.lays160 (by kernel_rfl) ⟨s.toArray⟩ ⟨cut.toArray⟩ w hs hc (ascii_of_all ha)).mono fun _ _ ⟨h1, h2⟩ => ⟨_, h1, rfl, h2⟩

theorem indexAny_c (R L : Heap) (s cs : List UInt8) (hs : s.length < 4294967281) (hc : cs.length < 4294967281) (ha : s.all (fun b => decide (b.toNat < 128)) = true) (hb : cs.all (fun b => decide (b.toNat < 128)) = true) :
    FnW Tryz.prog 58 [str s, str cs] R L fun v L' => v = .int .i64 (Lib.indexAny s cs) ∧ L' = L :=
  FnW.of_below (G := fun v => v = .int .i64 (Lib.indexAny s cs)) fun w _ => (Tryz.strings_IndexAny_laid ⟨s.toArray⟩ ⟨cs.toArray⟩ w hs hc (ascii_of_all ha) (ascii_of_all hb)).mono fun _ _ ⟨h1, h2⟩ => ⟨_, h1, rfl, h2⟩

theorem repeat_c (R L : Heap) (s : List UInt8) (c : Nat) (hc : c ≤ 9223372036854775807) (hl : s.length * c ≤ 140737488355328) :
    FnW Tryz.prog 19 [str s, .int .i64 c] R L fun v L' => v = str (Lib.repeatL s c) ∧ L' = L :=
  FnW.of_below (G := fun v => v = str (Lib.repeatL s c)) fun w _ => (Tryz.strings_Repeat ⟨s.toArray⟩ c w hc hl).mono fun _ _ ⟨h1, h2⟩ => ⟨_, h1, rfl, h2⟩

/-- Of a slice whose cells are strings. -/
theorem join_c (R L : Heap) (b o cap : Nat) (T : TypeId) (f : Nat × Nat) (cells : List Value) (xs : List (List UInt8)) (sep : List UInt8) (hm : In (b, .cells cells.toArray T f) R L) (hx : ∀ (j : Nat) x, xs[j]? = some x → cells[o + j]? = some (str x)) (hcap : xs.length ≤ cap)
    (hn : xs.length ≤ 140737488355328) (hl : (Lib.join xs sep).length ≤ 140737488355328) :
    FnW Tryz.prog 29 [.slice (some ⟨b, o, none⟩) xs.length cap, str sep] R L fun v L' => v = str (Lib.join xs sep) ∧ L' = L := by
  have he : (xs.map fun l => (⟨l.toArray⟩ : ByteArray)).map (·.data.toList) = xs := by simp [List.map_map, Function.comp_def]
  refine FnW.of_below (G := fun v => v = str (Lib.join xs sep)) fun w hh => ?_
  have hg := hm.get hh
  have := Tryz.strings_Join b o cap (xs.map fun l => ⟨l.toArray⟩) ⟨sep.toArray⟩ w (fun j x hj => by
    rw [cellB_of hg]
    rw [List.getElem?_map] at hj
    cases hxj : xs[j]? with
    | none => simp [hxj] at hj
    | some y =>
      simp [hxj] at hj
      subst hj
      exact hx j y hxj) (lt_of_some hg) (by simpa using hn) (by simpa using hcap) (by rw [he]; exact hl)
  rw [List.length_map, he] at this
  exact this.mono fun _ _ ⟨h1, h2⟩ => ⟨_, h1, rfl, h2⟩

theorem itoa_c (R L : Heap) (hR : Glob R) (n : Int) (h0 : -9223372036854775808 ≤ n) (h1 : n ≤ 9223372036854775807) : FnW Tryz.prog 28 [.int .i64 n] R L fun v L' => v = str (Lib.itoa n) ∧ L' = L := by
  refine FnW.of_below (G := fun v => v = str (Lib.itoa n)) fun w hh => ?_
  obtain ⟨T, f, hm⟩ := hR.pow
  have hg : Tryz.prog.globalNamed "internal/strconv.uint64pow10" = some 0 := by kernel_rfl
  have htab : Lib.TabIs Tryz.prog w "internal/strconv.uint64pow10" .u64 Lib.pow10Tab := by
    unfold Lib.TabIs World.var?
    rw [hg]
    simp [hh.ro _ hm, pow10V]
  refine (Tryz.strconv_Itoa n h0 h1 w htab).mono ?_
  rintro x w' ⟨rfl, k, os, rfl⟩
  refine ⟨_, rfl, rfl, ⟨rfl, rfl, rfl, by simp [Sort.grow], fun i hi => ?_⟩⟩
  show (w.heap ++ os)[i]? = _
  rw [Array.getElem?_append_left hi]

/-- strconv.ParseUint(s, 10, 64): the number, or some error that is not nil. -/
def ParsedU (r : Lib.NumEnd Nat) (v : Value) : Prop := match r with
  | .ok u => v = .tuple #[.int .u64 u, .nilIface]
  | _ => ∃ n t p, v = .tuple #[.int .u64 n, .iface t p]
theorem parse10_c (R L : Heap) (hR : Glob R) (s : List UInt8) (hs : s.length ≤ 281474976710656) : FnW Tryz.prog 85 [str s, .int .i64 10, .int .i64 64] R L fun v L' => ParsedU (Lib.parseUintB 64 s) v ∧ L' = L := by
  refine FnW.of_below (G := fun v => ParsedU (Lib.parseUintB 64 s) v) fun w hh => ?_
  cases hp : Lib.parseUintB 64 s with
  | ok u =>
    refine (Tryz.strconv_ParseUint_10_at64_ok ⟨s.toArray⟩ (by show s.length ≤ _; omega) u hp w).mono ?_
    rintro x w' ⟨rfl, hw⟩
    refine ⟨_, rfl, rfl, ?_⟩
    rcases hw with rfl | rfl
    · exact RowKit.Below.refl _ _
    · unfold Lib.bytesWorld
      refine Lib.below_freeze (p := ⟨w.heap.size, _, none⟩) ?_ (Nat.le_refl _) 1
      exact ((RowKit.Below.refl _ _).drew).alloc (Nat.le_refl _) _
  | range =>
    obtain ⟨te, pe, T, f, hm⟩ := hR.eR
    refine (Tryz.strconv_ParseUint_10_at64_range ⟨s.toArray⟩ hs hp (.iface te pe) w (by simp [World.cell?, hh.ro _ hm]) (.inr ⟨_, _, rfl⟩)).mono ?_
    rintro x w' ⟨N, rfl, _, _, hb⟩
    exact ⟨_, rfl, ⟨_, _, _, rfl⟩, hb⟩
  | _ =>
    obtain ⟨te, pe, T, f, hm⟩ := hR.eS
    refine (Tryz.strconv_ParseUint_10_at64_syntax ⟨s.toArray⟩ hs (fun u hu => by rw [show (⟨s.toArray⟩ : ByteArray).data.toList = s from rfl, hp] at hu; cases hu) (fun hu => by rw [show (⟨s.toArray⟩ : ByteArray).data.toList = s from rfl, hp] at hu; cases hu) (.iface te pe) w (by simp [World.cell?, hh.ro _ hm]) (.inr ⟨_, _, rfl⟩)).mono ?_
    rintro x w' ⟨N, rfl, _, _, hb⟩
    exact ⟨_, rfl, ⟨_, _, _, rfl⟩, hb⟩

end Go.Proofs.YtgppllppddaodaaGreatDoor

/-
  How tokens and the reader lie in memory.
-/
namespace Go.Proofs.YtgppllppddaodaaGreatDoor
open Sl Am

def encT : Tok → Value
  | .sign r => .iface 108 (.int .i32 r)
  | .num n => .iface 114 (.int .u64 n)
  | .reg n => .iface 131 (.int .u64 n)
  | .name l => .iface 109 (str l)
def encO : Option Tok → Value
  | none => .nilIface
  | some t => encT t
def encI (i : Ins) : List Value := [.int .i64 i.op, .int .i64 i.a, .int .i64 i.b, .int .i64 i.c, .int .i64 i.imm]

/-- A slice of tokens, read only. -/
def TokS (R : Heap) (v : Value) (ts : List Tok) : Prop :=
  ∃ ad c, v = .slice ad ts.length c ∧ ts.length ≤ c ∧ (ts ≠ [] → ∃ (tb o : Nat) (cells : List Value) (T : TypeId) (f : Nat × Nat), ad = some ⟨tb, o, none⟩ ∧ (tb, .cells cells.toArray T f) ∈ R ∧ Sub cells o ts.length (ts.map encT))

theorem Sub.tail {l vs : List Value} {o n : Nat} {v : Value} (h : Sub l o (n + 1) (v :: vs)) : Sub l (o + 1) n vs ∧ l[o]? = some v := by
  generalize hm : n + 1 = m at h
  generalize hu : v :: vs = us at h
  induction h with
  | nil => cases hm
  | take h _ =>
    cases hu; cases hm
    exact ⟨.skip h, by simp⟩
  | skip _ ih =>
    obtain ⟨h1, h2⟩ := ih hm hu
    exact ⟨.skip h1, by simpa using h2⟩

theorem TokS.cons {R : Heap} {v : Value} {t : Tok} {ts : List Tok} (h : TokS R v (t :: ts)) :
    ∃ (tb o c : Nat) (cells : List Value) (T : TypeId) (f : Nat × Nat), v = .slice (some ⟨tb, o, none⟩) (ts.length + 1) c ∧ ts.length + 1 ≤ c ∧ (tb, .cells cells.toArray T f) ∈ R ∧ cells[o]? = some (encT t) ∧
      TokS R (.slice (if c = 1 then (some ⟨tb, o, none⟩) else (some (⟨tb, o, none⟩ : Addr)).map (·.add (1 * 1))) (ts.length + 1 - 1) (c - 1)) ts := by
  obtain ⟨ad, c, hv, hc, hr⟩ := h
  obtain ⟨tb, o, cells, T, f, had, hm, hs⟩ := hr (by simp)
  subst had
  simp only [List.map_cons, List.length_cons] at hs hv hc
  obtain ⟨h1, h2⟩ := Sub.tail hs
  refine ⟨tb, o, c, cells, T, f, hv, hc, hm, h2, ?_⟩
  refine ⟨_, c - 1, rfl, by omega, fun hne => ?_⟩
  have hlen : 0 < ts.length := by cases ts <;> simp_all
  have : ¬ c = 1 := by omega
  refine ⟨tb, o + 1, cells, T, f, ?_, hm, by simpa using h1⟩
  simp only [this, if_false, Option.map_some, add_addr]

theorem TokS.nil {R : Heap} {v : Value} (h : TokS R v []) : ∃ ad c, v = .slice ad 0 c := let ⟨ad, c, hv, _⟩ := h; ⟨ad, c, by simpa using hv⟩

/-- The reader's struct at block rb. -/
abbrev rdC (rb : Nat) (sl : Value) (r : Rd) : Nat × Obj := (rb, cb [sl, .bool r.syn, .bool r.rng] 84)

/-- A reader's method: the value, the reader behind it. -/
def RdPost (R : Heap) (rb : Nat) (V : Value) (r' : Rd) : Value → Heap → Prop := fun v L' => ∃ sl', v = V ∧ L' = [rdC rb sl' r'] ∧ TokS R sl' r'.ts

theorem wrap_zero : IntKind.i64.wrap 0 = 0 := by decide

end Go.Proofs.YtgppllppddaodaaGreatDoor

/-
  The walks of the reader: next, sign, register.
-/
namespace Go.Proofs.YtgppllppddaodaaGreatDoor
open Sl Am

theorem el_79 : elemT Tryz.prog 79 = some 104 := by kernel_rfl
theorem ft_84_0 : fieldT Tryz.prog 84 0 = some 0 := by kernel_rfl
theorem ft_84_1 : fieldT Tryz.prog 84 1 = some 1 := by kernel_rfl
theorem pt_104 : plainT Tryz.prog 104 = true := by kernel_rfl
theorem pt_79 : plainT Tryz.prog 79 = true := by kernel_rfl
theorem sz_104 : sizeT Tryz.prog 104 = some 1 := by kernel_rfl
theorem sz_4 : sizeT Tryz.prog 4 = some 1 := by kernel_rfl
theorem sz_79 : sizeT Tryz.prog 79 = some 1 := by kernel_rfl
set_option maxRecDepth 100000 in
set_option maxHeartbeats 400000 in
theorem next_nil : ∀ (R : Heap) (rb : Nat) (sl : Value) (r : Rd), r.ts = [] → TokS R sl r.ts → FnW Tryz.prog 55 [.pointer (some ⟨rb, 0, none⟩)] R [rdC rb sl r] (RdPost R rb .nilIface { r with syn := true }) := by
  rintro R rb sl ⟨ts, syn, rng⟩ ht hs
  simp only at ht
  subst ht
  obtain ⟨ad, c, rfl⟩ := hs.nil
  refine fn_of_body Tryz.func55 rfl Tryz.ntmps55 Tryz.results55 (by rfl) ?_
  refine cw_regseq ?_
  refine ow_y (y_assign rfl) rfl rfl rfl ?_
  refine ow_nil ?_
  refine cw_seq ?_
  refine cw_regseq ?_
  refine ow_y (y_move rfl) rfl rfl rfl ?_
  refine ow_y (y_nilCheck rfl) rfl rfl rfl ?_
  refine ow_y (y_fieldAddr 0 rfl ft_84_0 rfl) rfl rfl rfl ?_
  refine ow_y (y_load rfl pt_79 (by first | (apply In.own; (repeat (first | exact List.Mem.head _ | apply List.Mem.tail)); done) | (apply In.ro; (repeat (first | exact List.Mem.head _ | apply List.Mem.tail)); done)) rfl) rfl rfl rfl ?_
  refine ow_y (y_lenSl rfl el_79) rfl rfl rfl ?_
  refine ow_cmp_t rfl rfl rfl rfl rfl (by simp only [cmpP]; omega) ?_
  refine ow_nil ?_
  refine cw_if_t rfl ?_
  refine cw_regseq ?_
  refine ow_y (y_move rfl) rfl rfl rfl ?_
  refine ow_y (y_nilCheck rfl) rfl rfl rfl ?_
  refine ow_y (y_fieldAddr 1 rfl ft_84_1 rfl) rfl rfl rfl ?_
  refine ow_store rfl rfl rfl sz_4 rfl (by repeat (first | exact Upd.here | apply Upd.there)) (by repeat (first | exact SetL.here | apply SetL.there)) ?_
  refine ow_nil ?_
  refine cw_regseq ?_
  refine ow_y (y_assign rfl) rfl rfl rfl ?_
  refine ow_nil ?_
  refine cw_ret ?_
  repeat with_reducible first | refine thenQ_ret ?_ | refine thenQ_normal ?_ | refine thenQ_exit ?_ | refine blockQ_ret ?_ | refine blockQ_normal ?_ | refine blockQ_exit_same ?_ | refine blockQ_exit_ne rfl ?_
  refine body_ret (.one (.tmp rfl)) ?_
  exact ⟨_, rfl, rfl, hs⟩

set_option maxRecDepth 100000 in
set_option maxHeartbeats 400000 in
theorem next_cons : ∀ (R : Heap) (rb : Nat) (sl : Value) (t : Tok) (ts : List Tok) (syn rng : Bool), TokS R sl (t :: ts) → FnW Tryz.prog 55 [.pointer (some ⟨rb, 0, none⟩)] R [rdC rb sl ⟨t :: ts, syn, rng⟩] (RdPost R rb (encT t) ⟨ts, syn, rng⟩) := by
  intro R rb sl t ts syn rng hs
  obtain ⟨tb, o, c, cells, T, f, rfl, hc, hm, hcell, htl⟩ := hs.cons
  have hcell0 : cells[o + 0 * 1]? = some (encT t) := by simpa using hcell
  refine fn_of_body Tryz.func55 rfl Tryz.ntmps55 Tryz.results55 (by rfl) ?_
  refine cw_regseq ?_
  refine ow_y (y_assign rfl) rfl rfl rfl ?_
  refine ow_nil ?_
  refine cw_seq ?_
  refine cw_regseq ?_
  refine ow_y (y_move rfl) rfl rfl rfl ?_
  refine ow_y (y_nilCheck rfl) rfl rfl rfl ?_
  refine ow_y (y_fieldAddr 0 rfl ft_84_0 rfl) rfl rfl rfl ?_
  refine ow_y (y_load rfl pt_79 (by first | (apply In.own; (repeat (first | exact List.Mem.head _ | apply List.Mem.tail)); done) | (apply In.ro; (repeat (first | exact List.Mem.head _ | apply List.Mem.tail)); done)) rfl) rfl rfl rfl ?_
  refine ow_y (y_lenSl rfl el_79) rfl rfl rfl ?_
  refine ow_cmp_f rfl rfl rfl rfl rfl (by simp only [cmpP]; omega) ?_
  refine ow_nil ?_
  refine cw_if_f rfl ?_
  refine cw_skip ?_
  repeat with_reducible first | refine thenQ_ret ?_ | refine thenQ_normal ?_ | refine thenQ_exit ?_ | refine blockQ_ret ?_ | refine blockQ_normal ?_ | refine blockQ_exit_same ?_ | refine blockQ_exit_ne rfl ?_
  refine cw_regseq ?_
  refine ow_y (y_move rfl) rfl rfl rfl ?_
  refine ow_y (y_nilCheck rfl) rfl rfl rfl ?_
  refine ow_y (y_fieldAddr 0 rfl ft_84_0 rfl) rfl rfl rfl ?_
  refine ow_y (y_load rfl pt_79 (by first | (apply In.own; (repeat (first | exact List.Mem.head _ | apply List.Mem.tail)); done) | (apply In.ro; (repeat (first | exact List.Mem.head _ | apply List.Mem.tail)); done)) rfl) rfl rfl rfl ?_
  refine ow_y (y_indexAddr (i := 0) rfl rfl el_79 sz_104 (by omega)) rfl rfl rfl ?_
  refine ow_y (y_load rfl pt_104 (.inr hm) hcell0) rfl rfl rfl ?_
  refine ow_y (y_assign rfl) rfl rfl rfl ?_
  refine ow_nil ?_
  refine cw_regseq ?_
  refine ow_y (y_move rfl) rfl rfl rfl ?_
  refine ow_y (y_move rfl) rfl rfl rfl ?_
  refine ow_y (y_nilCheck rfl) rfl rfl rfl ?_
  refine ow_y (y_fieldAddr 0 rfl ft_84_0 rfl) rfl rfl rfl ?_
  refine ow_y (y_load rfl pt_79 (by first | (apply In.own; (repeat (first | exact List.Mem.head _ | apply List.Mem.tail)); done) | (apply In.ro; (repeat (first | exact List.Mem.head _ | apply List.Mem.tail)); done)) rfl) rfl rfl rfl ?_
  refine ow_y (y_sliceSl (vlo := some (.int .i64 1)) (vhi := none) (i := 1) (j := ts.length + 1) rfl el_79 sz_104 rfl rfl (.inr rfl) (.inl ⟨rfl, rfl⟩) (by omega) (by omega)) rfl rfl rfl ?_
  refine ow_y (y_nilCheck rfl) rfl rfl rfl ?_
  refine ow_y (y_fieldAddr 0 rfl ft_84_0 rfl) rfl rfl rfl ?_
  refine ow_store rfl rfl rfl sz_79 rfl (by repeat (first | exact Upd.here | apply Upd.there)) (by repeat (first | exact SetL.here | apply SetL.there)) ?_
  refine ow_nil ?_
  refine cw_regseq ?_
  refine ow_y (y_move rfl) rfl rfl rfl ?_
  refine ow_y (y_assign rfl) rfl rfl rfl ?_
  refine ow_nil ?_
  refine cw_ret ?_
  repeat with_reducible first | refine thenQ_ret ?_ | refine thenQ_normal ?_ | refine thenQ_exit ?_ | refine blockQ_ret ?_ | refine blockQ_normal ?_ | refine blockQ_exit_same ?_ | refine blockQ_exit_ne rfl ?_
  refine body_ret (.one (.tmp rfl)) ?_
  exact ⟨_, rfl, rfl, htl⟩

theorem next_c (R : Heap) (rb : Nat) (sl : Value) (r : Rd) (hs : TokS R sl r.ts) : FnW Tryz.prog 55 [.pointer (some ⟨rb, 0, none⟩)] R [rdC rb sl r] (RdPost R rb (encO r.next.1) r.next.2) := by
  obtain ⟨ts, syn, rng⟩ := r
  cases ts with
  | nil => exact next_nil R rb sl _ rfl hs
  | cons t ts => exact next_cons R rb sl t ts syn rng hs

end Go.Proofs.YtgppllppddaodaaGreatDoor

/-
  The walks of the reader: sign, register.
-/
namespace Go.Proofs.YtgppllppddaodaaGreatDoor
open Sl Am

theorem cc_108 : concreteT Tryz.prog 108 = true := by kernel_rfl
theorem cc_131 : concreteT Tryz.prog 131 = true := by kernel_rfl
theorem ct_55 : callT Tryz.prog 55 = true := by kernel_rfl
theorem cv_131_3 : convT Tryz.prog 131 3 .i64 = true := by kernel_rfl
theorem ft_84_2 : fieldT Tryz.prog 84 2 = some 2 := by kernel_rfl
theorem pt_4 : plainT Tryz.prog 4 = true := by kernel_rfl
theorem zt_108 : zeroT Tryz.prog 108 = some (.int .i32 0) := by kernel_rfl
theorem zt_131 : zeroT Tryz.prog 131 = some (.int .u64 0) := by kernel_rfl
set_option maxRecDepth 100000 in
set_option maxHeartbeats 400000 in
theorem sign_nil : ∀ (R : Heap) (rb : Nat) (sl : Value) (c : Int) (syn rng : Bool) , TokS R sl ([]) → FnW Tryz.prog 72 [.pointer (some ⟨rb, 0, none⟩), .int .i32 c] R [rdC rb sl ⟨[], syn, rng⟩] (RdPost R rb (.tuple #[]) (Rd.sign ⟨[], syn, rng⟩ c)) := by
  intro R rb sl c syn rng  hs
  refine fn_of_body Tryz.func72 rfl Tryz.ntmps72 Tryz.results72 (by rfl) ?_
  refine cw_regseq ?_
  refine ow_y (y_move rfl) rfl rfl rfl ?_
  refine ow_call rfl rfl (by rfl) ct_55 (next_nil R rb sl ⟨[], syn, rng⟩ rfl hs) ?_
  rintro _ _ ⟨sl1, rfl, rfl, hs1⟩
  refine ow_y (y_assert_nil rfl cc_108 zt_108) rfl rfl rfl ?_
  refine ow_y (y_move rfl) rfl rfl rfl ?_
  refine ow_y (y_extract rfl rfl) rfl rfl rfl ?_
  refine ow_y (y_extract rfl rfl) rfl rfl rfl ?_
  refine ow_y (y_assign rfl) rfl rfl rfl ?_
  refine ow_y (y_assign rfl) rfl rfl rfl ?_
  refine ow_nil ?_
  refine cw_regseq ?_
  refine ow_y (y_move rfl) rfl rfl rfl ?_
  refine ow_y (y_not rfl) rfl rfl rfl ?_
  refine ow_y (y_move rfl) rfl rfl rfl ?_
  refine ow_skip rfl rfl rfl ?_
  refine ow_skip rfl rfl rfl ?_
  refine ow_skip rfl rfl rfl ?_
  refine ow_y (y_pick_t rfl rfl) rfl rfl rfl ?_
  refine ow_nil ?_
  refine cw_if_t rfl ?_
  refine cw_region ?_
  refine ow_y (y_move rfl) rfl rfl rfl ?_
  refine ow_y (y_nilCheck rfl) rfl rfl rfl ?_
  refine ow_y (y_fieldAddr 1 rfl ft_84_1 rfl) rfl rfl rfl ?_
  refine ow_store rfl rfl rfl sz_4 rfl (by repeat (first | exact Upd.here | apply Upd.there)) (by repeat (first | exact SetL.here | apply SetL.there)) ?_
  refine ow_nil ?_
  repeat with_reducible first | refine thenQ_ret ?_ | refine thenQ_normal ?_ | refine thenQ_exit ?_ | refine blockQ_ret ?_ | refine blockQ_normal ?_ | refine blockQ_exit_same ?_ | refine blockQ_exit_ne rfl ?_
  refine body_end (.none) ?_
  exact ⟨_, rfl, rfl, hs1⟩

set_option maxRecDepth 100000 in
set_option maxHeartbeats 400000 in
theorem register_nil : ∀ (R : Heap) (rb : Nat) (sl : Value) (syn rng : Bool) , TokS R sl ([]) → FnW Tryz.prog 73 [.pointer (some ⟨rb, 0, none⟩)] R [rdC rb sl ⟨[], syn, rng⟩] (RdPost R rb (.int .i64 (Rd.reg ⟨[], syn, rng⟩).1) (Rd.reg ⟨[], syn, rng⟩).2) := by
  intro R rb sl syn rng  hs
  refine fn_of_body Tryz.func73 rfl Tryz.ntmps73 Tryz.results73 (by rfl) ?_
  refine cw_regseq ?_
  refine ow_y (y_assign rfl) rfl rfl rfl ?_
  refine ow_nil ?_
  refine cw_regseq ?_
  refine ow_y (y_move rfl) rfl rfl rfl ?_
  refine ow_call rfl rfl (by rfl) ct_55 (next_nil R rb sl ⟨[], syn, rng⟩ rfl hs) ?_
  rintro _ _ ⟨sl1, rfl, rfl, hs1⟩
  refine ow_y (y_assert_nil rfl cc_131 zt_131) rfl rfl rfl ?_
  refine ow_y (y_move rfl) rfl rfl rfl ?_
  refine ow_y (y_extract rfl rfl) rfl rfl rfl ?_
  refine ow_y (y_extract rfl rfl) rfl rfl rfl ?_
  refine ow_y (y_assign rfl) rfl rfl rfl ?_
  refine ow_y (y_assign rfl) rfl rfl rfl ?_
  refine ow_nil ?_
  refine cw_regseq ?_
  refine ow_y (y_move rfl) rfl rfl rfl ?_
  refine ow_y (y_move rfl) rfl rfl rfl ?_
  refine ow_y (y_nilCheck rfl) rfl rfl rfl ?_
  refine ow_y (y_fieldAddr 1 rfl ft_84_1 rfl) rfl rfl rfl ?_
  refine ow_y (y_load rfl pt_4 (by first | (apply In.own; (repeat (first | exact List.Mem.head _ | apply List.Mem.tail)); done) | (apply In.ro; (repeat (first | exact List.Mem.head _ | apply List.Mem.tail)); done)) rfl) rfl rfl rfl ?_
  refine ow_y (y_move rfl) rfl rfl rfl ?_
  refine ow_split (t := 16) rfl (fun hq1 => ?_) (fun hq1 => ?_)
  · refine ow_skip rfl rfl rfl ?_
    refine ow_skip rfl rfl rfl ?_
    refine ow_y (y_pick_t rfl rfl) rfl rfl rfl ?_
    refine ow_y (y_nilCheck rfl) rfl rfl rfl ?_
    refine ow_y (y_fieldAddr 1 rfl ft_84_1 rfl) rfl rfl rfl ?_
    refine ow_store rfl rfl rfl sz_4 rfl (by repeat (first | exact Upd.here | apply Upd.there)) (by repeat (first | exact SetL.here | apply SetL.there)) ?_
    refine ow_nil ?_
    refine cw_seq ?_
    refine cw_regseq ?_
    refine ow_y (y_move rfl) rfl rfl rfl ?_
    refine ow_cmp_f rfl rfl rfl rfl rfl (by simp only [cmpP]; omega) ?_
    refine ow_nil ?_
    refine cw_if_f rfl ?_
    refine cw_skip ?_
    repeat with_reducible first | refine thenQ_ret ?_ | refine thenQ_normal ?_ | refine thenQ_exit ?_ | refine blockQ_ret ?_ | refine blockQ_normal ?_ | refine blockQ_exit_same ?_ | refine blockQ_exit_ne rfl ?_
    refine cw_regseq ?_
    refine ow_y (y_move rfl) rfl rfl rfl ?_
    refine ow_y (y_convInt rfl cv_131_3) rfl rfl rfl ?_
    refine ow_y (y_assign rfl) rfl rfl rfl ?_
    refine ow_nil ?_
    refine cw_ret ?_
    repeat with_reducible first | refine thenQ_ret ?_ | refine thenQ_normal ?_ | refine thenQ_exit ?_ | refine blockQ_ret ?_ | refine blockQ_normal ?_ | refine blockQ_exit_same ?_ | refine blockQ_exit_ne rfl ?_
    refine body_ret (.one (.tmp rfl)) ?_
    refine ⟨_, ?_, ?_, hs1⟩
    · simp [Rd.reg, wrap_zero]
    · first | (simp_all; done) | simp_all [Rd.reg]
  · refine ow_y (y_move rfl) rfl rfl rfl ?_
    refine ow_y (y_not rfl) rfl rfl rfl ?_
    refine ow_y (y_pick_f rfl rfl) rfl rfl rfl ?_
    refine ow_y (y_nilCheck rfl) rfl rfl rfl ?_
    refine ow_y (y_fieldAddr 1 rfl ft_84_1 rfl) rfl rfl rfl ?_
    refine ow_store rfl rfl rfl sz_4 rfl (by repeat (first | exact Upd.here | apply Upd.there)) (by repeat (first | exact SetL.here | apply SetL.there)) ?_
    refine ow_nil ?_
    refine cw_seq ?_
    refine cw_regseq ?_
    refine ow_y (y_move rfl) rfl rfl rfl ?_
    refine ow_cmp_f rfl rfl rfl rfl rfl (by simp only [cmpP]; omega) ?_
    refine ow_nil ?_
    refine cw_if_f rfl ?_
    refine cw_skip ?_
    repeat with_reducible first | refine thenQ_ret ?_ | refine thenQ_normal ?_ | refine thenQ_exit ?_ | refine blockQ_ret ?_ | refine blockQ_normal ?_ | refine blockQ_exit_same ?_ | refine blockQ_exit_ne rfl ?_
    refine cw_regseq ?_
    refine ow_y (y_move rfl) rfl rfl rfl ?_
    refine ow_y (y_convInt rfl cv_131_3) rfl rfl rfl ?_
    refine ow_y (y_assign rfl) rfl rfl rfl ?_
    refine ow_nil ?_
    refine cw_ret ?_
    repeat with_reducible first | refine thenQ_ret ?_ | refine thenQ_normal ?_ | refine thenQ_exit ?_ | refine blockQ_ret ?_ | refine blockQ_normal ?_ | refine blockQ_exit_same ?_ | refine blockQ_exit_ne rfl ?_
    refine body_ret (.one (.tmp rfl)) ?_
    refine ⟨_, ?_, ?_, hs1⟩
    · simp [Rd.reg, wrap_zero]
    · first | (simp_all; done) | simp_all [Rd.reg]

set_option maxRecDepth 100000 in
set_option maxHeartbeats 400000 in
theorem sign_sign : ∀ (R : Heap) (rb : Nat) (sl : Value) (c : Int) (syn rng : Bool) (d : Int) (ts : List Tok) , TokS R sl (.sign d :: ts) → FnW Tryz.prog 72 [.pointer (some ⟨rb, 0, none⟩), .int .i32 c] R [rdC rb sl ⟨.sign d :: ts, syn, rng⟩] (RdPost R rb (.tuple #[]) (Rd.sign ⟨.sign d :: ts, syn, rng⟩ c)) := by
  intro R rb sl c syn rng d ts hs
  refine fn_of_body Tryz.func72 rfl Tryz.ntmps72 Tryz.results72 (by rfl) ?_
  refine cw_regseq ?_
  refine ow_y (y_move rfl) rfl rfl rfl ?_
  refine ow_call rfl rfl (by rfl) ct_55 (next_cons R rb sl (.sign d) ts syn rng hs) ?_
  rintro _ _ ⟨sl1, rfl, rfl, hs1⟩
  refine ow_y (y_assert_yes rfl cc_108) rfl rfl rfl ?_
  refine ow_y (y_move rfl) rfl rfl rfl ?_
  refine ow_y (y_extract rfl rfl) rfl rfl rfl ?_
  refine ow_y (y_extract rfl rfl) rfl rfl rfl ?_
  refine ow_y (y_assign rfl) rfl rfl rfl ?_
  refine ow_y (y_assign rfl) rfl rfl rfl ?_
  refine ow_nil ?_
  refine cw_regseq ?_
  refine ow_y (y_move rfl) rfl rfl rfl ?_
  refine ow_y (y_not rfl) rfl rfl rfl ?_
  refine ow_y (y_move rfl) rfl rfl rfl ?_
  refine ow_y (y_move rfl) rfl rfl rfl ?_
  refine ow_y (y_move rfl) rfl rfl rfl ?_
  refine ow_cmp rfl rfl rfl rfl rfl (fun h17 => ?_) (fun h17 => ?_)
  · simp only [cmpP] at h17
    refine ow_y (y_pick_f rfl rfl) rfl rfl rfl ?_
    refine ow_nil ?_
    refine cw_if_t rfl ?_
    refine cw_region ?_
    refine ow_y (y_move rfl) rfl rfl rfl ?_
    refine ow_y (y_nilCheck rfl) rfl rfl rfl ?_
    refine ow_y (y_fieldAddr 1 rfl ft_84_1 rfl) rfl rfl rfl ?_
    refine ow_store rfl rfl rfl sz_4 rfl (by repeat (first | exact Upd.here | apply Upd.there)) (by repeat (first | exact SetL.here | apply SetL.there)) ?_
    refine ow_nil ?_
    repeat with_reducible first | refine thenQ_ret ?_ | refine thenQ_normal ?_ | refine thenQ_exit ?_ | refine blockQ_ret ?_ | refine blockQ_normal ?_ | refine blockQ_exit_same ?_ | refine blockQ_exit_ne rfl ?_
    refine body_end (.none) ?_
    exact ⟨_, rfl, by simp [Rd.sign, h17], hs1⟩
  · simp only [cmpP] at h17
    refine ow_y (y_pick_f rfl rfl) rfl rfl rfl ?_
    refine ow_nil ?_
    refine cw_if_f rfl ?_
    refine cw_skip ?_
    repeat with_reducible first | refine thenQ_ret ?_ | refine thenQ_normal ?_ | refine thenQ_exit ?_ | refine blockQ_ret ?_ | refine blockQ_normal ?_ | refine blockQ_exit_same ?_ | refine blockQ_exit_ne rfl ?_
    refine body_end (.none) ?_
    exact ⟨_, rfl, by simp [Rd.sign, Classical.not_not.1 h17], hs1⟩

set_option maxRecDepth 100000 in
set_option maxHeartbeats 400000 in
theorem register_sign : ∀ (R : Heap) (rb : Nat) (sl : Value) (syn rng : Bool) (d : Int) (ts : List Tok) , TokS R sl (.sign d :: ts) → FnW Tryz.prog 73 [.pointer (some ⟨rb, 0, none⟩)] R [rdC rb sl ⟨.sign d :: ts, syn, rng⟩] (RdPost R rb (.int .i64 (Rd.reg ⟨.sign d :: ts, syn, rng⟩).1) (Rd.reg ⟨.sign d :: ts, syn, rng⟩).2) := by
  intro R rb sl syn rng d ts hs
  refine fn_of_body Tryz.func73 rfl Tryz.ntmps73 Tryz.results73 (by rfl) ?_
  refine cw_regseq ?_
  refine ow_y (y_assign rfl) rfl rfl rfl ?_
  refine ow_nil ?_
  refine cw_regseq ?_
  refine ow_y (y_move rfl) rfl rfl rfl ?_
  refine ow_call rfl rfl (by rfl) ct_55 (next_cons R rb sl (.sign d) ts syn rng hs) ?_
  rintro _ _ ⟨sl1, rfl, rfl, hs1⟩
  refine ow_y (y_assert_no rfl rfl cc_131 zt_131) rfl rfl rfl ?_
  refine ow_y (y_move rfl) rfl rfl rfl ?_
  refine ow_y (y_extract rfl rfl) rfl rfl rfl ?_
  refine ow_y (y_extract rfl rfl) rfl rfl rfl ?_
  refine ow_y (y_assign rfl) rfl rfl rfl ?_
  refine ow_y (y_assign rfl) rfl rfl rfl ?_
  refine ow_nil ?_
  refine cw_regseq ?_
  refine ow_y (y_move rfl) rfl rfl rfl ?_
  refine ow_y (y_move rfl) rfl rfl rfl ?_
  refine ow_y (y_nilCheck rfl) rfl rfl rfl ?_
  refine ow_y (y_fieldAddr 1 rfl ft_84_1 rfl) rfl rfl rfl ?_
  refine ow_y (y_load rfl pt_4 (by first | (apply In.own; (repeat (first | exact List.Mem.head _ | apply List.Mem.tail)); done) | (apply In.ro; (repeat (first | exact List.Mem.head _ | apply List.Mem.tail)); done)) rfl) rfl rfl rfl ?_
  refine ow_y (y_move rfl) rfl rfl rfl ?_
  refine ow_split (t := 16) rfl (fun hq1 => ?_) (fun hq1 => ?_)
  · refine ow_skip rfl rfl rfl ?_
    refine ow_skip rfl rfl rfl ?_
    refine ow_y (y_pick_t rfl rfl) rfl rfl rfl ?_
    refine ow_y (y_nilCheck rfl) rfl rfl rfl ?_
    refine ow_y (y_fieldAddr 1 rfl ft_84_1 rfl) rfl rfl rfl ?_
    refine ow_store rfl rfl rfl sz_4 rfl (by repeat (first | exact Upd.here | apply Upd.there)) (by repeat (first | exact SetL.here | apply SetL.there)) ?_
    refine ow_nil ?_
    refine cw_seq ?_
    refine cw_regseq ?_
    refine ow_y (y_move rfl) rfl rfl rfl ?_
    refine ow_cmp_f rfl rfl rfl rfl rfl (by simp only [cmpP]; omega) ?_
    refine ow_nil ?_
    refine cw_if_f rfl ?_
    refine cw_skip ?_
    repeat with_reducible first | refine thenQ_ret ?_ | refine thenQ_normal ?_ | refine thenQ_exit ?_ | refine blockQ_ret ?_ | refine blockQ_normal ?_ | refine blockQ_exit_same ?_ | refine blockQ_exit_ne rfl ?_
    refine cw_regseq ?_
    refine ow_y (y_move rfl) rfl rfl rfl ?_
    refine ow_y (y_convInt rfl cv_131_3) rfl rfl rfl ?_
    refine ow_y (y_assign rfl) rfl rfl rfl ?_
    refine ow_nil ?_
    refine cw_ret ?_
    repeat with_reducible first | refine thenQ_ret ?_ | refine thenQ_normal ?_ | refine thenQ_exit ?_ | refine blockQ_ret ?_ | refine blockQ_normal ?_ | refine blockQ_exit_same ?_ | refine blockQ_exit_ne rfl ?_
    refine body_ret (.one (.tmp rfl)) ?_
    refine ⟨_, ?_, ?_, hs1⟩
    · simp [Rd.reg, wrap_zero]
    · first | (simp_all; done) | simp_all [Rd.reg]
  · refine ow_y (y_move rfl) rfl rfl rfl ?_
    refine ow_y (y_not rfl) rfl rfl rfl ?_
    refine ow_y (y_pick_f rfl rfl) rfl rfl rfl ?_
    refine ow_y (y_nilCheck rfl) rfl rfl rfl ?_
    refine ow_y (y_fieldAddr 1 rfl ft_84_1 rfl) rfl rfl rfl ?_
    refine ow_store rfl rfl rfl sz_4 rfl (by repeat (first | exact Upd.here | apply Upd.there)) (by repeat (first | exact SetL.here | apply SetL.there)) ?_
    refine ow_nil ?_
    refine cw_seq ?_
    refine cw_regseq ?_
    refine ow_y (y_move rfl) rfl rfl rfl ?_
    refine ow_cmp_f rfl rfl rfl rfl rfl (by simp only [cmpP]; omega) ?_
    refine ow_nil ?_
    refine cw_if_f rfl ?_
    refine cw_skip ?_
    repeat with_reducible first | refine thenQ_ret ?_ | refine thenQ_normal ?_ | refine thenQ_exit ?_ | refine blockQ_ret ?_ | refine blockQ_normal ?_ | refine blockQ_exit_same ?_ | refine blockQ_exit_ne rfl ?_
    refine cw_regseq ?_
    refine ow_y (y_move rfl) rfl rfl rfl ?_
    refine ow_y (y_convInt rfl cv_131_3) rfl rfl rfl ?_
    refine ow_y (y_assign rfl) rfl rfl rfl ?_
    refine ow_nil ?_
    refine cw_ret ?_
    repeat with_reducible first | refine thenQ_ret ?_ | refine thenQ_normal ?_ | refine thenQ_exit ?_ | refine blockQ_ret ?_ | refine blockQ_normal ?_ | refine blockQ_exit_same ?_ | refine blockQ_exit_ne rfl ?_
    refine body_ret (.one (.tmp rfl)) ?_
    refine ⟨_, ?_, ?_, hs1⟩
    · simp [Rd.reg, wrap_zero]
    · first | (simp_all; done) | simp_all [Rd.reg]

set_option maxRecDepth 100000 in
set_option maxHeartbeats 400000 in
theorem sign_num : ∀ (R : Heap) (rb : Nat) (sl : Value) (c : Int) (syn rng : Bool) (n : Nat) (ts : List Tok) , TokS R sl (.num n :: ts) → FnW Tryz.prog 72 [.pointer (some ⟨rb, 0, none⟩), .int .i32 c] R [rdC rb sl ⟨.num n :: ts, syn, rng⟩] (RdPost R rb (.tuple #[]) (Rd.sign ⟨.num n :: ts, syn, rng⟩ c)) := by
  intro R rb sl c syn rng n ts hs
  refine fn_of_body Tryz.func72 rfl Tryz.ntmps72 Tryz.results72 (by rfl) ?_
  refine cw_regseq ?_
  refine ow_y (y_move rfl) rfl rfl rfl ?_
  refine ow_call rfl rfl (by rfl) ct_55 (next_cons R rb sl (.num n) ts syn rng hs) ?_
  rintro _ _ ⟨sl1, rfl, rfl, hs1⟩
  refine ow_y (y_assert_no rfl rfl cc_108 zt_108) rfl rfl rfl ?_
  refine ow_y (y_move rfl) rfl rfl rfl ?_
  refine ow_y (y_extract rfl rfl) rfl rfl rfl ?_
  refine ow_y (y_extract rfl rfl) rfl rfl rfl ?_
  refine ow_y (y_assign rfl) rfl rfl rfl ?_
  refine ow_y (y_assign rfl) rfl rfl rfl ?_
  refine ow_nil ?_
  refine cw_regseq ?_
  refine ow_y (y_move rfl) rfl rfl rfl ?_
  refine ow_y (y_not rfl) rfl rfl rfl ?_
  refine ow_y (y_move rfl) rfl rfl rfl ?_
  refine ow_skip rfl rfl rfl ?_
  refine ow_skip rfl rfl rfl ?_
  refine ow_skip rfl rfl rfl ?_
  refine ow_y (y_pick_t rfl rfl) rfl rfl rfl ?_
  refine ow_nil ?_
  refine cw_if_t rfl ?_
  refine cw_region ?_
  refine ow_y (y_move rfl) rfl rfl rfl ?_
  refine ow_y (y_nilCheck rfl) rfl rfl rfl ?_
  refine ow_y (y_fieldAddr 1 rfl ft_84_1 rfl) rfl rfl rfl ?_
  refine ow_store rfl rfl rfl sz_4 rfl (by repeat (first | exact Upd.here | apply Upd.there)) (by repeat (first | exact SetL.here | apply SetL.there)) ?_
  refine ow_nil ?_
  repeat with_reducible first | refine thenQ_ret ?_ | refine thenQ_normal ?_ | refine thenQ_exit ?_ | refine blockQ_ret ?_ | refine blockQ_normal ?_ | refine blockQ_exit_same ?_ | refine blockQ_exit_ne rfl ?_
  refine body_end (.none) ?_
  exact ⟨_, rfl, rfl, hs1⟩

set_option maxRecDepth 100000 in
set_option maxHeartbeats 400000 in
theorem register_num : ∀ (R : Heap) (rb : Nat) (sl : Value) (syn rng : Bool) (n : Nat) (ts : List Tok) , TokS R sl (.num n :: ts) → FnW Tryz.prog 73 [.pointer (some ⟨rb, 0, none⟩)] R [rdC rb sl ⟨.num n :: ts, syn, rng⟩] (RdPost R rb (.int .i64 (Rd.reg ⟨.num n :: ts, syn, rng⟩).1) (Rd.reg ⟨.num n :: ts, syn, rng⟩).2) := by
  intro R rb sl syn rng n ts hs
  refine fn_of_body Tryz.func73 rfl Tryz.ntmps73 Tryz.results73 (by rfl) ?_
  refine cw_regseq ?_
  refine ow_y (y_assign rfl) rfl rfl rfl ?_
  refine ow_nil ?_
  refine cw_regseq ?_
  refine ow_y (y_move rfl) rfl rfl rfl ?_
  refine ow_call rfl rfl (by rfl) ct_55 (next_cons R rb sl (.num n) ts syn rng hs) ?_
  rintro _ _ ⟨sl1, rfl, rfl, hs1⟩
  refine ow_y (y_assert_no rfl rfl cc_131 zt_131) rfl rfl rfl ?_
  refine ow_y (y_move rfl) rfl rfl rfl ?_
  refine ow_y (y_extract rfl rfl) rfl rfl rfl ?_
  refine ow_y (y_extract rfl rfl) rfl rfl rfl ?_
  refine ow_y (y_assign rfl) rfl rfl rfl ?_
  refine ow_y (y_assign rfl) rfl rfl rfl ?_
  refine ow_nil ?_
  refine cw_regseq ?_
  refine ow_y (y_move rfl) rfl rfl rfl ?_
  refine ow_y (y_move rfl) rfl rfl rfl ?_
  refine ow_y (y_nilCheck rfl) rfl rfl rfl ?_
  refine ow_y (y_fieldAddr 1 rfl ft_84_1 rfl) rfl rfl rfl ?_
  refine ow_y (y_load rfl pt_4 (by first | (apply In.own; (repeat (first | exact List.Mem.head _ | apply List.Mem.tail)); done) | (apply In.ro; (repeat (first | exact List.Mem.head _ | apply List.Mem.tail)); done)) rfl) rfl rfl rfl ?_
  refine ow_y (y_move rfl) rfl rfl rfl ?_
  refine ow_split (t := 16) rfl (fun hq1 => ?_) (fun hq1 => ?_)
  · refine ow_skip rfl rfl rfl ?_
    refine ow_skip rfl rfl rfl ?_
    refine ow_y (y_pick_t rfl rfl) rfl rfl rfl ?_
    refine ow_y (y_nilCheck rfl) rfl rfl rfl ?_
    refine ow_y (y_fieldAddr 1 rfl ft_84_1 rfl) rfl rfl rfl ?_
    refine ow_store rfl rfl rfl sz_4 rfl (by repeat (first | exact Upd.here | apply Upd.there)) (by repeat (first | exact SetL.here | apply SetL.there)) ?_
    refine ow_nil ?_
    refine cw_seq ?_
    refine cw_regseq ?_
    refine ow_y (y_move rfl) rfl rfl rfl ?_
    refine ow_cmp_f rfl rfl rfl rfl rfl (by simp only [cmpP]; omega) ?_
    refine ow_nil ?_
    refine cw_if_f rfl ?_
    refine cw_skip ?_
    repeat with_reducible first | refine thenQ_ret ?_ | refine thenQ_normal ?_ | refine thenQ_exit ?_ | refine blockQ_ret ?_ | refine blockQ_normal ?_ | refine blockQ_exit_same ?_ | refine blockQ_exit_ne rfl ?_
    refine cw_regseq ?_
    refine ow_y (y_move rfl) rfl rfl rfl ?_
    refine ow_y (y_convInt rfl cv_131_3) rfl rfl rfl ?_
    refine ow_y (y_assign rfl) rfl rfl rfl ?_
    refine ow_nil ?_
    refine cw_ret ?_
    repeat with_reducible first | refine thenQ_ret ?_ | refine thenQ_normal ?_ | refine thenQ_exit ?_ | refine blockQ_ret ?_ | refine blockQ_normal ?_ | refine blockQ_exit_same ?_ | refine blockQ_exit_ne rfl ?_
    refine body_ret (.one (.tmp rfl)) ?_
    refine ⟨_, ?_, ?_, hs1⟩
    · simp [Rd.reg, wrap_zero]
    · first | (simp_all; done) | simp_all [Rd.reg]
  · refine ow_y (y_move rfl) rfl rfl rfl ?_
    refine ow_y (y_not rfl) rfl rfl rfl ?_
    refine ow_y (y_pick_f rfl rfl) rfl rfl rfl ?_
    refine ow_y (y_nilCheck rfl) rfl rfl rfl ?_
    refine ow_y (y_fieldAddr 1 rfl ft_84_1 rfl) rfl rfl rfl ?_
    refine ow_store rfl rfl rfl sz_4 rfl (by repeat (first | exact Upd.here | apply Upd.there)) (by repeat (first | exact SetL.here | apply SetL.there)) ?_
    refine ow_nil ?_
    refine cw_seq ?_
    refine cw_regseq ?_
    refine ow_y (y_move rfl) rfl rfl rfl ?_
    refine ow_cmp_f rfl rfl rfl rfl rfl (by simp only [cmpP]; omega) ?_
    refine ow_nil ?_
    refine cw_if_f rfl ?_
    refine cw_skip ?_
    repeat with_reducible first | refine thenQ_ret ?_ | refine thenQ_normal ?_ | refine thenQ_exit ?_ | refine blockQ_ret ?_ | refine blockQ_normal ?_ | refine blockQ_exit_same ?_ | refine blockQ_exit_ne rfl ?_
    refine cw_regseq ?_
    refine ow_y (y_move rfl) rfl rfl rfl ?_
    refine ow_y (y_convInt rfl cv_131_3) rfl rfl rfl ?_
    refine ow_y (y_assign rfl) rfl rfl rfl ?_
    refine ow_nil ?_
    refine cw_ret ?_
    repeat with_reducible first | refine thenQ_ret ?_ | refine thenQ_normal ?_ | refine thenQ_exit ?_ | refine blockQ_ret ?_ | refine blockQ_normal ?_ | refine blockQ_exit_same ?_ | refine blockQ_exit_ne rfl ?_
    refine body_ret (.one (.tmp rfl)) ?_
    refine ⟨_, ?_, ?_, hs1⟩
    · simp [Rd.reg, wrap_zero]
    · first | (simp_all; done) | simp_all [Rd.reg]

set_option maxRecDepth 100000 in
set_option maxHeartbeats 400000 in
theorem sign_reg : ∀ (R : Heap) (rb : Nat) (sl : Value) (c : Int) (syn rng : Bool) (n : Nat) (ts : List Tok) , TokS R sl (.reg n :: ts) → FnW Tryz.prog 72 [.pointer (some ⟨rb, 0, none⟩), .int .i32 c] R [rdC rb sl ⟨.reg n :: ts, syn, rng⟩] (RdPost R rb (.tuple #[]) (Rd.sign ⟨.reg n :: ts, syn, rng⟩ c)) := by
  intro R rb sl c syn rng n ts hs
  refine fn_of_body Tryz.func72 rfl Tryz.ntmps72 Tryz.results72 (by rfl) ?_
  refine cw_regseq ?_
  refine ow_y (y_move rfl) rfl rfl rfl ?_
  refine ow_call rfl rfl (by rfl) ct_55 (next_cons R rb sl (.reg n) ts syn rng hs) ?_
  rintro _ _ ⟨sl1, rfl, rfl, hs1⟩
  refine ow_y (y_assert_no rfl rfl cc_108 zt_108) rfl rfl rfl ?_
  refine ow_y (y_move rfl) rfl rfl rfl ?_
  refine ow_y (y_extract rfl rfl) rfl rfl rfl ?_
  refine ow_y (y_extract rfl rfl) rfl rfl rfl ?_
  refine ow_y (y_assign rfl) rfl rfl rfl ?_
  refine ow_y (y_assign rfl) rfl rfl rfl ?_
  refine ow_nil ?_
  refine cw_regseq ?_
  refine ow_y (y_move rfl) rfl rfl rfl ?_
  refine ow_y (y_not rfl) rfl rfl rfl ?_
  refine ow_y (y_move rfl) rfl rfl rfl ?_
  refine ow_skip rfl rfl rfl ?_
  refine ow_skip rfl rfl rfl ?_
  refine ow_skip rfl rfl rfl ?_
  refine ow_y (y_pick_t rfl rfl) rfl rfl rfl ?_
  refine ow_nil ?_
  refine cw_if_t rfl ?_
  refine cw_region ?_
  refine ow_y (y_move rfl) rfl rfl rfl ?_
  refine ow_y (y_nilCheck rfl) rfl rfl rfl ?_
  refine ow_y (y_fieldAddr 1 rfl ft_84_1 rfl) rfl rfl rfl ?_
  refine ow_store rfl rfl rfl sz_4 rfl (by repeat (first | exact Upd.here | apply Upd.there)) (by repeat (first | exact SetL.here | apply SetL.there)) ?_
  refine ow_nil ?_
  repeat with_reducible first | refine thenQ_ret ?_ | refine thenQ_normal ?_ | refine thenQ_exit ?_ | refine blockQ_ret ?_ | refine blockQ_normal ?_ | refine blockQ_exit_same ?_ | refine blockQ_exit_ne rfl ?_
  refine body_end (.none) ?_
  exact ⟨_, rfl, rfl, hs1⟩

set_option maxRecDepth 100000 in
set_option maxHeartbeats 400000 in
theorem register_reg : ∀ (R : Heap) (rb : Nat) (sl : Value) (syn rng : Bool) (n : Nat) (ts : List Tok) , n < 18446744073709551616 → TokS R sl (.reg n :: ts) → FnW Tryz.prog 73 [.pointer (some ⟨rb, 0, none⟩)] R [rdC rb sl ⟨.reg n :: ts, syn, rng⟩] (RdPost R rb (.int .i64 (Rd.reg ⟨.reg n :: ts, syn, rng⟩).1) (Rd.reg ⟨.reg n :: ts, syn, rng⟩).2) := by
  intro R rb sl syn rng n ts hn hs
  refine fn_of_body Tryz.func73 rfl Tryz.ntmps73 Tryz.results73 (by rfl) ?_
  refine cw_regseq ?_
  refine ow_y (y_assign rfl) rfl rfl rfl ?_
  refine ow_nil ?_
  refine cw_regseq ?_
  refine ow_y (y_move rfl) rfl rfl rfl ?_
  refine ow_call rfl rfl (by rfl) ct_55 (next_cons R rb sl (.reg n) ts syn rng hs) ?_
  rintro _ _ ⟨sl1, rfl, rfl, hs1⟩
  refine ow_y (y_assert_yes rfl cc_131) rfl rfl rfl ?_
  refine ow_y (y_move rfl) rfl rfl rfl ?_
  refine ow_y (y_extract rfl rfl) rfl rfl rfl ?_
  refine ow_y (y_extract rfl rfl) rfl rfl rfl ?_
  refine ow_y (y_assign rfl) rfl rfl rfl ?_
  refine ow_y (y_assign rfl) rfl rfl rfl ?_
  refine ow_nil ?_
  refine cw_regseq ?_
  refine ow_y (y_move rfl) rfl rfl rfl ?_
  refine ow_y (y_move rfl) rfl rfl rfl ?_
  refine ow_y (y_nilCheck rfl) rfl rfl rfl ?_
  refine ow_y (y_fieldAddr 1 rfl ft_84_1 rfl) rfl rfl rfl ?_
  refine ow_y (y_load rfl pt_4 (by first | (apply In.own; (repeat (first | exact List.Mem.head _ | apply List.Mem.tail)); done) | (apply In.ro; (repeat (first | exact List.Mem.head _ | apply List.Mem.tail)); done)) rfl) rfl rfl rfl ?_
  refine ow_y (y_move rfl) rfl rfl rfl ?_
  refine ow_split (t := 16) rfl (fun hq1 => ?_) (fun hq1 => ?_)
  · refine ow_skip rfl rfl rfl ?_
    refine ow_skip rfl rfl rfl ?_
    refine ow_y (y_pick_t rfl rfl) rfl rfl rfl ?_
    refine ow_y (y_nilCheck rfl) rfl rfl rfl ?_
    refine ow_y (y_fieldAddr 1 rfl ft_84_1 rfl) rfl rfl rfl ?_
    refine ow_store rfl rfl rfl sz_4 rfl (by repeat (first | exact Upd.here | apply Upd.there)) (by repeat (first | exact SetL.here | apply SetL.there)) ?_
    refine ow_nil ?_
    refine cw_seq ?_
    refine cw_regseq ?_
    refine ow_y (y_move rfl) rfl rfl rfl ?_
    refine ow_cmp rfl rfl rfl rfl rfl (fun h23 => ?_) (fun h23 => ?_)
    · simp only [cmpP] at h23
      refine ow_nil ?_
      refine cw_if_t rfl ?_
      refine cw_regseq ?_
      refine ow_y (y_move rfl) rfl rfl rfl ?_
      refine ow_y (y_nilCheck rfl) rfl rfl rfl ?_
      refine ow_y (y_fieldAddr 2 rfl ft_84_2 rfl) rfl rfl rfl ?_
      refine ow_store rfl rfl rfl sz_4 rfl (by repeat (first | exact Upd.here | apply Upd.there)) (by repeat (first | exact SetL.here | apply SetL.there)) ?_
      refine ow_nil ?_
      refine cw_regseq ?_
      refine ow_y (y_assign rfl) rfl rfl rfl ?_
      refine ow_nil ?_
      refine cw_ret ?_
      repeat with_reducible first | refine thenQ_ret ?_ | refine thenQ_normal ?_ | refine thenQ_exit ?_ | refine blockQ_ret ?_ | refine blockQ_normal ?_ | refine blockQ_exit_same ?_ | refine blockQ_exit_ne rfl ?_
      refine body_ret (.one (.tmp rfl)) ?_
      have er : Rd.reg ⟨.reg n :: ts, syn, rng⟩ = (0, ⟨ts, syn, true⟩) := by simp only [Rd.reg]; rw [if_pos (by omega)]
      exact ⟨sl1, by rw [er], by rw [er]; simp_all, by rw [er]; exact hs1⟩
    · simp only [cmpP] at h23
      refine ow_nil ?_
      refine cw_if_f rfl ?_
      refine cw_skip ?_
      repeat with_reducible first | refine thenQ_ret ?_ | refine thenQ_normal ?_ | refine thenQ_exit ?_ | refine blockQ_ret ?_ | refine blockQ_normal ?_ | refine blockQ_exit_same ?_ | refine blockQ_exit_ne rfl ?_
      refine cw_regseq ?_
      refine ow_y (y_move rfl) rfl rfl rfl ?_
      refine ow_y (y_convInt rfl cv_131_3) rfl rfl rfl ?_
      refine ow_y (y_assign rfl) rfl rfl rfl ?_
      refine ow_nil ?_
      refine cw_ret ?_
      repeat with_reducible first | refine thenQ_ret ?_ | refine thenQ_normal ?_ | refine thenQ_exit ?_ | refine blockQ_ret ?_ | refine blockQ_normal ?_ | refine blockQ_exit_same ?_ | refine blockQ_exit_ne rfl ?_
      refine body_ret (.one (.tmp rfl)) ?_
      have er : Rd.reg ⟨.reg n :: ts, syn, rng⟩ = (↑n, ⟨ts, syn, rng⟩) := by simp only [Rd.reg]; rw [if_neg (by omega)]
      exact ⟨sl1, by rw [wrap64_id (by omega) (by omega), er], by rw [er]; simp_all, by rw [er]; exact hs1⟩
  · refine ow_y (y_move rfl) rfl rfl rfl ?_
    refine ow_y (y_not rfl) rfl rfl rfl ?_
    refine ow_y (y_pick_f rfl rfl) rfl rfl rfl ?_
    refine ow_y (y_nilCheck rfl) rfl rfl rfl ?_
    refine ow_y (y_fieldAddr 1 rfl ft_84_1 rfl) rfl rfl rfl ?_
    refine ow_store rfl rfl rfl sz_4 rfl (by repeat (first | exact Upd.here | apply Upd.there)) (by repeat (first | exact SetL.here | apply SetL.there)) ?_
    refine ow_nil ?_
    refine cw_seq ?_
    refine cw_regseq ?_
    refine ow_y (y_move rfl) rfl rfl rfl ?_
    refine ow_cmp rfl rfl rfl rfl rfl (fun h23 => ?_) (fun h23 => ?_)
    · simp only [cmpP] at h23
      refine ow_nil ?_
      refine cw_if_t rfl ?_
      refine cw_regseq ?_
      refine ow_y (y_move rfl) rfl rfl rfl ?_
      refine ow_y (y_nilCheck rfl) rfl rfl rfl ?_
      refine ow_y (y_fieldAddr 2 rfl ft_84_2 rfl) rfl rfl rfl ?_
      refine ow_store rfl rfl rfl sz_4 rfl (by repeat (first | exact Upd.here | apply Upd.there)) (by repeat (first | exact SetL.here | apply SetL.there)) ?_
      refine ow_nil ?_
      refine cw_regseq ?_
      refine ow_y (y_assign rfl) rfl rfl rfl ?_
      refine ow_nil ?_
      refine cw_ret ?_
      repeat with_reducible first | refine thenQ_ret ?_ | refine thenQ_normal ?_ | refine thenQ_exit ?_ | refine blockQ_ret ?_ | refine blockQ_normal ?_ | refine blockQ_exit_same ?_ | refine blockQ_exit_ne rfl ?_
      refine body_ret (.one (.tmp rfl)) ?_
      have er : Rd.reg ⟨.reg n :: ts, syn, rng⟩ = (0, ⟨ts, syn, true⟩) := by simp only [Rd.reg]; rw [if_pos (by omega)]
      exact ⟨sl1, by rw [er], by rw [er]; simp_all, by rw [er]; exact hs1⟩
    · simp only [cmpP] at h23
      refine ow_nil ?_
      refine cw_if_f rfl ?_
      refine cw_skip ?_
      repeat with_reducible first | refine thenQ_ret ?_ | refine thenQ_normal ?_ | refine thenQ_exit ?_ | refine blockQ_ret ?_ | refine blockQ_normal ?_ | refine blockQ_exit_same ?_ | refine blockQ_exit_ne rfl ?_
      refine cw_regseq ?_
      refine ow_y (y_move rfl) rfl rfl rfl ?_
      refine ow_y (y_convInt rfl cv_131_3) rfl rfl rfl ?_
      refine ow_y (y_assign rfl) rfl rfl rfl ?_
      refine ow_nil ?_
      refine cw_ret ?_
      repeat with_reducible first | refine thenQ_ret ?_ | refine thenQ_normal ?_ | refine thenQ_exit ?_ | refine blockQ_ret ?_ | refine blockQ_normal ?_ | refine blockQ_exit_same ?_ | refine blockQ_exit_ne rfl ?_
      refine body_ret (.one (.tmp rfl)) ?_
      have er : Rd.reg ⟨.reg n :: ts, syn, rng⟩ = (↑n, ⟨ts, syn, rng⟩) := by simp only [Rd.reg]; rw [if_neg (by omega)]
      exact ⟨sl1, by rw [wrap64_id (by omega) (by omega), er], by rw [er]; simp_all, by rw [er]; exact hs1⟩

set_option maxRecDepth 100000 in
set_option maxHeartbeats 400000 in
theorem sign_name : ∀ (R : Heap) (rb : Nat) (sl : Value) (c : Int) (syn rng : Bool) (l : List UInt8) (ts : List Tok) , TokS R sl (.name l :: ts) → FnW Tryz.prog 72 [.pointer (some ⟨rb, 0, none⟩), .int .i32 c] R [rdC rb sl ⟨.name l :: ts, syn, rng⟩] (RdPost R rb (.tuple #[]) (Rd.sign ⟨.name l :: ts, syn, rng⟩ c)) := by
  intro R rb sl c syn rng l ts hs
  refine fn_of_body Tryz.func72 rfl Tryz.ntmps72 Tryz.results72 (by rfl) ?_
  refine cw_regseq ?_
  refine ow_y (y_move rfl) rfl rfl rfl ?_
  refine ow_call rfl rfl (by rfl) ct_55 (next_cons R rb sl (.name l) ts syn rng hs) ?_
  rintro _ _ ⟨sl1, rfl, rfl, hs1⟩
  refine ow_y (y_assert_no rfl rfl cc_108 zt_108) rfl rfl rfl ?_
  refine ow_y (y_move rfl) rfl rfl rfl ?_
  refine ow_y (y_extract rfl rfl) rfl rfl rfl ?_
  refine ow_y (y_extract rfl rfl) rfl rfl rfl ?_
  refine ow_y (y_assign rfl) rfl rfl rfl ?_
  refine ow_y (y_assign rfl) rfl rfl rfl ?_
  refine ow_nil ?_
  refine cw_regseq ?_
  refine ow_y (y_move rfl) rfl rfl rfl ?_
  refine ow_y (y_not rfl) rfl rfl rfl ?_
  refine ow_y (y_move rfl) rfl rfl rfl ?_
  refine ow_skip rfl rfl rfl ?_
  refine ow_skip rfl rfl rfl ?_
  refine ow_skip rfl rfl rfl ?_
  refine ow_y (y_pick_t rfl rfl) rfl rfl rfl ?_
  refine ow_nil ?_
  refine cw_if_t rfl ?_
  refine cw_region ?_
  refine ow_y (y_move rfl) rfl rfl rfl ?_
  refine ow_y (y_nilCheck rfl) rfl rfl rfl ?_
  refine ow_y (y_fieldAddr 1 rfl ft_84_1 rfl) rfl rfl rfl ?_
  refine ow_store rfl rfl rfl sz_4 rfl (by repeat (first | exact Upd.here | apply Upd.there)) (by repeat (first | exact SetL.here | apply SetL.there)) ?_
  refine ow_nil ?_
  repeat with_reducible first | refine thenQ_ret ?_ | refine thenQ_normal ?_ | refine thenQ_exit ?_ | refine blockQ_ret ?_ | refine blockQ_normal ?_ | refine blockQ_exit_same ?_ | refine blockQ_exit_ne rfl ?_
  refine body_end (.none) ?_
  exact ⟨_, rfl, rfl, hs1⟩

set_option maxRecDepth 100000 in
set_option maxHeartbeats 400000 in
theorem register_name : ∀ (R : Heap) (rb : Nat) (sl : Value) (syn rng : Bool) (l : List UInt8) (ts : List Tok) , TokS R sl (.name l :: ts) → FnW Tryz.prog 73 [.pointer (some ⟨rb, 0, none⟩)] R [rdC rb sl ⟨.name l :: ts, syn, rng⟩] (RdPost R rb (.int .i64 (Rd.reg ⟨.name l :: ts, syn, rng⟩).1) (Rd.reg ⟨.name l :: ts, syn, rng⟩).2) := by
  intro R rb sl syn rng l ts hs
  refine fn_of_body Tryz.func73 rfl Tryz.ntmps73 Tryz.results73 (by rfl) ?_
  refine cw_regseq ?_
  refine ow_y (y_assign rfl) rfl rfl rfl ?_
  refine ow_nil ?_
  refine cw_regseq ?_
  refine ow_y (y_move rfl) rfl rfl rfl ?_
  refine ow_call rfl rfl (by rfl) ct_55 (next_cons R rb sl (.name l) ts syn rng hs) ?_
  rintro _ _ ⟨sl1, rfl, rfl, hs1⟩
  refine ow_y (y_assert_no rfl rfl cc_131 zt_131) rfl rfl rfl ?_
  refine ow_y (y_move rfl) rfl rfl rfl ?_
  refine ow_y (y_extract rfl rfl) rfl rfl rfl ?_
  refine ow_y (y_extract rfl rfl) rfl rfl rfl ?_
  refine ow_y (y_assign rfl) rfl rfl rfl ?_
  refine ow_y (y_assign rfl) rfl rfl rfl ?_
  refine ow_nil ?_
  refine cw_regseq ?_
  refine ow_y (y_move rfl) rfl rfl rfl ?_
  refine ow_y (y_move rfl) rfl rfl rfl ?_
  refine ow_y (y_nilCheck rfl) rfl rfl rfl ?_
  refine ow_y (y_fieldAddr 1 rfl ft_84_1 rfl) rfl rfl rfl ?_
  refine ow_y (y_load rfl pt_4 (by first | (apply In.own; (repeat (first | exact List.Mem.head _ | apply List.Mem.tail)); done) | (apply In.ro; (repeat (first | exact List.Mem.head _ | apply List.Mem.tail)); done)) rfl) rfl rfl rfl ?_
  refine ow_y (y_move rfl) rfl rfl rfl ?_
  refine ow_split (t := 16) rfl (fun hq1 => ?_) (fun hq1 => ?_)
  · refine ow_skip rfl rfl rfl ?_
    refine ow_skip rfl rfl rfl ?_
    refine ow_y (y_pick_t rfl rfl) rfl rfl rfl ?_
    refine ow_y (y_nilCheck rfl) rfl rfl rfl ?_
    refine ow_y (y_fieldAddr 1 rfl ft_84_1 rfl) rfl rfl rfl ?_
    refine ow_store rfl rfl rfl sz_4 rfl (by repeat (first | exact Upd.here | apply Upd.there)) (by repeat (first | exact SetL.here | apply SetL.there)) ?_
    refine ow_nil ?_
    refine cw_seq ?_
    refine cw_regseq ?_
    refine ow_y (y_move rfl) rfl rfl rfl ?_
    refine ow_cmp_f rfl rfl rfl rfl rfl (by simp only [cmpP]; omega) ?_
    refine ow_nil ?_
    refine cw_if_f rfl ?_
    refine cw_skip ?_
    repeat with_reducible first | refine thenQ_ret ?_ | refine thenQ_normal ?_ | refine thenQ_exit ?_ | refine blockQ_ret ?_ | refine blockQ_normal ?_ | refine blockQ_exit_same ?_ | refine blockQ_exit_ne rfl ?_
    refine cw_regseq ?_
    refine ow_y (y_move rfl) rfl rfl rfl ?_
    refine ow_y (y_convInt rfl cv_131_3) rfl rfl rfl ?_
    refine ow_y (y_assign rfl) rfl rfl rfl ?_
    refine ow_nil ?_
    refine cw_ret ?_
    repeat with_reducible first | refine thenQ_ret ?_ | refine thenQ_normal ?_ | refine thenQ_exit ?_ | refine blockQ_ret ?_ | refine blockQ_normal ?_ | refine blockQ_exit_same ?_ | refine blockQ_exit_ne rfl ?_
    refine body_ret (.one (.tmp rfl)) ?_
    refine ⟨_, ?_, ?_, hs1⟩
    · simp [Rd.reg, wrap_zero]
    · first | (simp_all; done) | simp_all [Rd.reg]
  · refine ow_y (y_move rfl) rfl rfl rfl ?_
    refine ow_y (y_not rfl) rfl rfl rfl ?_
    refine ow_y (y_pick_f rfl rfl) rfl rfl rfl ?_
    refine ow_y (y_nilCheck rfl) rfl rfl rfl ?_
    refine ow_y (y_fieldAddr 1 rfl ft_84_1 rfl) rfl rfl rfl ?_
    refine ow_store rfl rfl rfl sz_4 rfl (by repeat (first | exact Upd.here | apply Upd.there)) (by repeat (first | exact SetL.here | apply SetL.there)) ?_
    refine ow_nil ?_
    refine cw_seq ?_
    refine cw_regseq ?_
    refine ow_y (y_move rfl) rfl rfl rfl ?_
    refine ow_cmp_f rfl rfl rfl rfl rfl (by simp only [cmpP]; omega) ?_
    refine ow_nil ?_
    refine cw_if_f rfl ?_
    refine cw_skip ?_
    repeat with_reducible first | refine thenQ_ret ?_ | refine thenQ_normal ?_ | refine thenQ_exit ?_ | refine blockQ_ret ?_ | refine blockQ_normal ?_ | refine blockQ_exit_same ?_ | refine blockQ_exit_ne rfl ?_
    refine cw_regseq ?_
    refine ow_y (y_move rfl) rfl rfl rfl ?_
    refine ow_y (y_convInt rfl cv_131_3) rfl rfl rfl ?_
    refine ow_y (y_assign rfl) rfl rfl rfl ?_
    refine ow_nil ?_
    refine cw_ret ?_
    repeat with_reducible first | refine thenQ_ret ?_ | refine thenQ_normal ?_ | refine thenQ_exit ?_ | refine blockQ_ret ?_ | refine blockQ_normal ?_ | refine blockQ_exit_same ?_ | refine blockQ_exit_ne rfl ?_
    refine body_ret (.one (.tmp rfl)) ?_
    refine ⟨_, ?_, ?_, hs1⟩
    · simp [Rd.reg, wrap_zero]
    · first | (simp_all; done) | simp_all [Rd.reg]

theorem sign_c (R : Heap) (rb : Nat) (sl : Value) (c : Int) (r : Rd) (hs : TokS R sl r.ts) : FnW Tryz.prog 72 [.pointer (some ⟨rb, 0, none⟩), .int .i32 c] R [rdC rb sl r] (RdPost R rb (.tuple #[]) (r.sign c)) := by
  obtain ⟨ts, syn, rng⟩ := r
  cases ts with
  | nil => exact sign_nil R rb sl c syn rng hs
  | cons t ts => cases t with
    | sign d => exact sign_sign R rb sl c syn rng d ts hs
    | num n => exact sign_num R rb sl c syn rng n ts hs
    | reg n => exact sign_reg R rb sl c syn rng n ts hs
    | name l => exact sign_name R rb sl c syn rng l ts hs

theorem register_c (R : Heap) (rb : Nat) (sl : Value)  (r : Rd) (hs : TokS R sl r.ts) (hb : ∀ n, .reg n ∈ r.ts → n < 18446744073709551616) : FnW Tryz.prog 73 [.pointer (some ⟨rb, 0, none⟩)] R [rdC rb sl r] (RdPost R rb (.int .i64 r.reg.1) r.reg.2) := by
  obtain ⟨ts, syn, rng⟩ := r
  cases ts with
  | nil => exact register_nil R rb sl  syn rng hs
  | cons t ts => cases t with
    | sign d => exact register_sign R rb sl syn rng d ts hs
    | num n => exact register_num R rb sl syn rng n ts hs
    | reg n => exact register_reg R rb sl syn rng n ts (hb _ (.head _)) hs
    | name l => exact register_name R rb sl syn rng l ts hs

end Go.Proofs.YtgppllppddaodaaGreatDoor
