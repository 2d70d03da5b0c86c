/-
  Two printed programs, one behind the other, assemble to the words of both (up to 70 words each). The card of viceroylaw06.AsmJoins. Conditions: those of the row alone (the package-level variables that the library reads hold what the program's text lays; the tie is given).
-/
import Derived.Test.YtgppllppddaodaaGreatDoorB7
import Derived.Test.YtgppllppddaodaaGreatDoorL1
namespace Go.Proofs.YtgppllppddaodaaGreatDoor.asmJoins
open Sl Am Go.ChangeShapes Go.WideShapes Go.ChangeAt Go.RowKit
set_option maxRecDepth 100000 in
theorem contract (H : Type) (enc : TypeId × Value → H) (W : World) (base : Nat) (args : Array Value) (ds gs : List (DataW H)) (before : List MemPlace)
    (hval : ∀ (j : Nat) t v, Tryz.f5.params[j]? = some t → args[j]? = some v → Value.okWide Tryz.prog W .any base t v)
    (hW : DataW.Whole enc Tryz.prog Tryz.f5.params.toList Rows.asmJoinsSpec.vars false W args.toList ds gs before) (hL : laidMetH Tryz.prog laidL W) (hS : W.ShapedOpen Tryz.prog) :
    Calls Tryz.prog 5 args W fun e W' => ∃ v, e = .returned v ∧ Rows.asmJoinsSpec.post enc Tryz.prog Tryz.f5 false true false false W args v W' := by
  obtain ⟨R, hR, hRW⟩ := globs hL hS
  have hW' := hW
  obtain ⟨p, q, hA0, hV, rfl, hfz, hnd⟩ := hW
  have hA : DataW.TrodAll enc Tryz.prog W 0 (fun _ => true) true Tryz.f5.params.toList args.toList ds p := hA0
  rw [Tryz.params5] at hA hval
  obtain ⟨v0, vs0, d0, ds0, p0, q0, hargs, rfl, rfl, h0, r0⟩ := trodAll_cons hA
  obtain ⟨v1, vs1, d1, ds1, p1, q1, rfl, rfl, rfl, h1, r1⟩ := trodAll_cons r0
  obtain ⟨rfl, rfl, rfl⟩ := trodAll_nil r1
  obtain rfl : args = #[v0, v1] := Array.toList_inj.1 hargs
  obtain ⟨rfl, rfl⟩ := trodVars_none hV
  clear hA0
  obtain ⟨ws0, R0, hU0, hlt0, hR0⟩ := words_of (hval 0 22 v0 rfl rfl) h0
  obtain ⟨ws1, R1, hU1, hlt1, hR1⟩ := words_of (hval 1 22 v1 rfl rfl) h1
  refine (joins_w (R ++ R0 ++ R1) v0 v1 ws0 ws1 (globP_mono (globP_mono hR)) (U32S.mono hU0 fun p hp => List.mem_append_left _ (List.mem_append_right _ hp)) (U32S.mono hU1 fun p hp => List.mem_append_right _ hp) hlt0 hlt1 W (holds0 (fun p hp => (List.mem_append.1 hp).elim (fun hp => (List.mem_append.1 hp).elim (hRW p) (hR0 p)) (hR1 p)))).mono ?_
  rintro e W' ⟨v, L', rfl, rfl, _, hm⟩
  exact ⟨_, rfl, law_post rfl rfl (by kernel_rfl) rfl hW' (below_of hm)⟩
theorem reads (os : Os) {H : Type} (enc : TypeId × Value → H) : ∃ places, DataW.whole enc Tryz.prog ((World.laidAll Tryz.prog os laidL).forCall (fun _ _ => 0) ⟨#[], #[.slice none 0 0, .slice none 0 0], []⟩).memory Tryz.f5.params.toList Rows.asmJoinsSpec.vars false (#[Value.slice none 0 0, Value.slice none 0 0] : Array Value).toList 8 = some ([.nil, .nil], [], places) :=
  ⟨[], by kernel_rfl⟩
set_option maxRecDepth 100000 in
theorem lifted (os : Os) (started : os.Started) (H : Type) (enc : TypeId × Value → H) (F : Stop.Interp) :
    ReturnsInHanded {} Tryz.checked os 5 .any ((OpenSpec.ofChange Rows.asmJoinsSpec).preRow enc Tryz.prog Tryz.f5 Rows.asmJoinsRow.domain false Rows.asmJoinsRow.laid) (((OpenSpec.ofChange Rows.asmJoinsSpec).at F).post enc Tryz.prog Tryz.f5 false true false false) := by
  obtain ⟨places, hx⟩ := reads os enc
  refine returnsInHanded_of_row (C := Tryz.checked) (s := OpenSpec.ofChange Rows.asmJoinsSpec) ownK started (by kernel_rfl) Tryz.func5
    (witness_row_atRef (enc := enc) (C := Tryz.checked) false (World.laidAll Tryz.prog os laidL) #[.slice none 0 0, .slice none 0 0] (World.laidAll_os _ _ _) (varsRef os _) (varsRest os _) (by kernel_rfl)
      (OpenSpec.preRow_of_cond 8 hx (by kernel_rfl) (fun k hk => by cases hk) (by kernel_rfl) (laidMet_all os _))) ?_
  intro W base args ds gs before hval hW _ _ _ hL hS _
  exact contract H enc W base args ds gs before hval hW hL hS
theorem said : Rows.AsmJoinsSaid :=
  OpenClaim.holds_of_cond 5 Tryz.f5 rfl rfl rfl rfl rfl rfl rfl ⟨rfl, rfl, rfl, rfl, rfl⟩ rfl rfl rfl rfl rfl (by kernel_rfl) Tryz.func5 (by kernel_rfl)
    (of_decide_eq_true (by kernel_rfl)) (by unfold Func.isWrapper; first | (rw [if_pos (by decide +kernel)]; kernel_rfl) | (rw [if_neg (by decide +kernel)]; exact ⟨rfl, rfl⟩))
    (fun os started H enc _ F => by rw [OpenClaim.pre_eq_preRow]; exact lifted os started H enc F)
theorem plain (f : FuncId) (fn : Func) (hf : Tryz.pinned.checked.prog.funcNamed "viceroy/viceroylaw06.AsmJoins" = some f) (hfn : Tryz.pinned.checked.prog.funcs[f]? = some fn) :
    true = Tryz.pinned.checked.prog.looks [] ∧ ∀ (j : Nat) t, fn.params[j]? = some t → Tryz.pinned.checked.prog.wantsStandIn t = false := by
  obtain rfl : f = 5 := Option.some.inj ((show Tryz.prog.funcNamed "viceroy/viceroylaw06.AsmJoins" = some 5 by kernel_rfl).symm.trans hf) |>.symm
  obtain rfl : fn = Tryz.f5 := (Option.some.inj (Tryz.func5.symm.trans hfn)).symm
  refine ⟨by kernel_rfl, fun j t ht => ?_⟩
  rw [Tryz.params5] at ht
  have hm : t ∈ [22, 22] := by simpa using Array.mem_of_getElem? ht
  have hall : ([22, 22].all fun u => !Tryz.prog.wantsStandIn u) = true := by kernel_rfl
  exact (show Tryz.prog.wantsStandIn t = false by simpa using List.all_eq_true.1 hall t hm)
end Go.Proofs.YtgppllppddaodaaGreatDoor.asmJoins
namespace Go.Proofs.YtgppllppddaodaaGreatDoor
open Go
theorem asmJoins_card : Rows.AsmJoinsCardSaid :=
  Claim7.holds_tied_plain_at .later [] _ _ _ _ asmJoins.said (fun _ h => by cases h) (by kernel_rfl) (fun _ h => by cases h) asmJoins_row_tie rfl ⟨rfl, rfl⟩ (by kernel_rfl) rfl asmJoins.plain (by kernel_rfl)
#print axioms asmJoins_card
end Go.Proofs.YtgppllppddaodaaGreatDoor
