/-
  Blanks put round the signs of a source that is taken, and remarks at its lines' ends, change no word of it (unless the source grows too long). The card of viceroylaw06.AsmBlanks. Conditions: those of the row alone (the package-level variables that the library reads hold what the program's text lays; the tie is given).
-/
import Derived.Test.YtgppllppddaodaaGreatDoorB7
import Derived.Test.YtgppllppddaodaaGreatDoorL2
namespace Go.Proofs.YtgppllppddaodaaGreatDoor.asmBlanks
open Sl Am Go.ChangeShapes Go.WideShapes Go.ChangeAt Go.RowKit
set_option maxRecDepth 100000 in
theorem contract (H : Type) (enc : TypeId × Value → H) (W : World) (base : Nat) (args : Array Value) (ds gs : List (DataW H)) (before : List MemPlace)
    (hval : ∀ (j : Nat) t v, Tryz.f4.params[j]? = some t → args[j]? = some v → Value.okWide Tryz.prog W .any base t v)
    (hW : DataW.Whole enc Tryz.prog Tryz.f4.params.toList Rows.asmBlanksSpec.vars false W args.toList ds gs before) (hL : laidMetH Tryz.prog laidL W) (hS : W.ShapedOpen Tryz.prog) :
    Calls Tryz.prog 4 args W fun e W' => ∃ v, e = .returned v ∧ Rows.asmBlanksSpec.post enc Tryz.prog Tryz.f4 false true false false W args v W' := by
  obtain ⟨R, hR, hRW⟩ := globs hL hS
  have hW' := hW
  obtain ⟨p, q, hA0, hV, rfl, hfz, hnd⟩ := hW
  have hA : DataW.TrodAll enc Tryz.prog W 0 (fun _ => true) true Tryz.f4.params.toList args.toList ds p := hA0
  rw [Tryz.params4] at hA hval
  obtain ⟨v0, vs0, d0, ds0, p0, q0, hargs, rfl, rfl, h0, r0⟩ := trodAll_cons hA
  obtain ⟨v1, vs1, d1, ds1, p1, q1, rfl, rfl, rfl, h1, r1⟩ := trodAll_cons r0
  obtain ⟨v2, vs2, d2, ds2, p2, q2, rfl, rfl, rfl, h2, r2⟩ := trodAll_cons r1
  obtain ⟨rfl, rfl, rfl⟩ := trodAll_nil r2
  obtain rfl : args = #[v0, v1, v2] := Array.toList_inj.1 hargs
  obtain ⟨rfl, rfl⟩ := trodVars_none hV
  clear hA0
  obtain ⟨n0, rfl, rfl, rfl, _⟩ := open_int Tryz.underlying3 (hval 0 3 v0 rfl rfl) h0
  obtain ⟨s1, rfl, rfl, rfl, _⟩ := Go.ChangeMaps.open_string Tryz.underlying9 (hval 1 9 v1 rfl rfl) h1
  rw [string_str s1] at hW' ⊢
  obtain ⟨n2, rfl, rfl, rfl, _⟩ := open_int Tryz.underlying3 (hval 2 3 v2 rfl rfl) h2
  refine (blanks_w R n0 n2 s1.data.toList hR W (holds0 (hRW))).mono ?_
  rintro e W' ⟨v, L', rfl, rfl, _, hm⟩
  exact ⟨_, rfl, law_post rfl rfl (by kernel_rfl) rfl hW' (below_of hm)⟩
theorem reads (os : Os) {H : Type} (enc : TypeId × Value → H) : ∃ places, DataW.whole enc Tryz.prog ((World.laidAll Tryz.prog os laidL).forCall (fun _ _ => 0) ⟨#[], #[.int .i64 0, .string ⟨#[]⟩, .int .i64 0], []⟩).memory Tryz.f4.params.toList Rows.asmBlanksSpec.vars false (#[Value.int .i64 0, Value.string ⟨#[]⟩, Value.int .i64 0] : Array Value).toList 8 = some ([.lit (.int .i64 0), .lit (.string []), .lit (.int .i64 0)], [], places) :=
  ⟨[], by kernel_rfl⟩
set_option maxRecDepth 100000 in
theorem lifted (os : Os) (started : os.Started) (H : Type) (enc : TypeId × Value → H) (F : Stop.Interp) :
    ReturnsInHanded {} Tryz.checked os 4 .any ((OpenSpec.ofChange Rows.asmBlanksSpec).preRow enc Tryz.prog Tryz.f4 Rows.asmBlanksRow.domain false Rows.asmBlanksRow.laid) (((OpenSpec.ofChange Rows.asmBlanksSpec).at F).post enc Tryz.prog Tryz.f4 false true false false) := by
  obtain ⟨places, hx⟩ := reads os enc
  refine returnsInHanded_of_row (C := Tryz.checked) (s := OpenSpec.ofChange Rows.asmBlanksSpec) ownK started (by kernel_rfl) Tryz.func4
    (witness_row_atRef (enc := enc) (C := Tryz.checked) false (World.laidAll Tryz.prog os laidL) #[.int .i64 0, .string ⟨#[]⟩, .int .i64 0] (World.laidAll_os _ _ _) (varsRef os _) (varsRest os _) (by kernel_rfl)
      (OpenSpec.preRow_of_cond 8 hx (by kernel_rfl) (fun k hk => by cases hk) (by kernel_rfl) (laidMet_all os _))) ?_
  intro W base args ds gs before hval hW _ _ _ hL hS _
  exact contract H enc W base args ds gs before hval hW hL hS
theorem said : Rows.AsmBlanksSaid :=
  OpenClaim.holds_of_cond 4 Tryz.f4 rfl rfl rfl rfl rfl rfl rfl ⟨rfl, rfl, rfl, rfl, rfl⟩ rfl rfl rfl rfl rfl (by kernel_rfl) Tryz.func4 (by kernel_rfl)
    (of_decide_eq_true (by kernel_rfl)) (by unfold Func.isWrapper; first | (rw [if_pos (by decide +kernel)]; kernel_rfl) | (rw [if_neg (by decide +kernel)]; exact ⟨rfl, rfl⟩))
    (fun os started H enc _ F => by rw [OpenClaim.pre_eq_preRow]; exact lifted os started H enc F)
theorem plain (f : FuncId) (fn : Func) (hf : Tryz.pinned.checked.prog.funcNamed "viceroy/viceroylaw06.AsmBlanks" = some f) (hfn : Tryz.pinned.checked.prog.funcs[f]? = some fn) :
    true = Tryz.pinned.checked.prog.looks [] ∧ ∀ (j : Nat) t, fn.params[j]? = some t → Tryz.pinned.checked.prog.wantsStandIn t = false := by
  obtain rfl : f = 4 := Option.some.inj ((show Tryz.prog.funcNamed "viceroy/viceroylaw06.AsmBlanks" = some 4 by kernel_rfl).symm.trans hf) |>.symm
  obtain rfl : fn = Tryz.f4 := (Option.some.inj (Tryz.func4.symm.trans hfn)).symm
  refine ⟨by kernel_rfl, fun j t ht => ?_⟩
  rw [Tryz.params4] at ht
  have hm : t ∈ [3, 9, 3] := by simpa using Array.mem_of_getElem? ht
  have hall : ([3, 9, 3].all fun u => !Tryz.prog.wantsStandIn u) = true := by kernel_rfl
  exact (show Tryz.prog.wantsStandIn t = false by simpa using List.all_eq_true.1 hall t hm)
end Go.Proofs.YtgppllppddaodaaGreatDoor.asmBlanks
namespace Go.Proofs.YtgppllppddaodaaGreatDoor
open Go
theorem asmBlanks_card : Rows.AsmBlanksCardSaid :=
  Claim7.holds_tied_plain_at .later [] _ _ _ _ asmBlanks.said (fun _ h => by cases h) (by kernel_rfl) (fun _ h => by cases h) asmBlanks_row_tie rfl ⟨rfl, rfl⟩ (by kernel_rfl) rfl asmBlanks.plain (by kernel_rfl)
#print axioms asmBlanks_card
end Go.Proofs.YtgppllppddaodaaGreatDoor
