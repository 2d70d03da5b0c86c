/-
  Lemmas and walks that the seat's cards rest on, merged: W27, W28, W29. No statement of the set is proved here.
-/
import Derived.Test.YtgppllppddaodaaGreatDoorL1
/-
  The walk of AsmFirst.
-/
namespace Go.Proofs.YtgppllppddaodaaGreatDoor
open Sl Am
open Go
theorem el_39 : elemT Tryz.prog 39 = some 25 := by kernel_rfl
theorem pt_25 : plainT Tryz.prog 25 = true := by kernel_rfl
theorem sz_25 : sizeT Tryz.prog 25 = some 1 := by kernel_rfl
def wrongV : List Value := wrongL.map str
def errV : List Value := errL.map (Value.int .i64)
theorem wrongV_at (k : Nat) (h : k < 16) : wrongV[0 + k * 1]? = some (str (wrongAt k)) := by
  have hl : wrongL.length = 16 := by decide
  rw [wrongV, Nat.zero_add, Nat.mul_one, List.getElem?_map, wrongAt, List.getElem?_eq_getElem (by omega), List.getD_eq_getElem?_getD, List.getElem?_eq_getElem (by omega)]; rfl
theorem errV_at (k : Nat) (h : k < 16) : errV[0 + k * 1]? = some (.int .i64 (errL.getD k 0)) := by
  have hl : errL.length = 16 := by decide
  rw [errV, Nat.zero_add, Nat.mul_one, List.getElem?_map, List.getElem?_eq_getElem (by omega), List.getD_eq_getElem?_getD, List.getElem?_eq_getElem (by omega)]; rfl
theorem firstF_len {a k : Nat} (hk : k < 16) : ∀ n, (cat (firstF a k) n).length ≤ 42 * n
  | 0 => by simp [cat]
  | n + 1 => by
    have := firstF_len (a := a) hk n
    have hw := wrong_len_n k hk
    simp only [cat, firstF, List.length_append]
    split <;> simp [fineL] <;> omega
theorem run_rem16 (t : TypeId) (x : Int) (P : Program) (w : World) : (binOp .rem t (.int .i64 x) (.int .i64 16)).run P w = .ok (.int .i64 (x.tmod 16)) w := by
  simp only [binOp, Op.intDiv]; rfl
theorem run_negq (q : Nat) (h : q < 16) (P : Program) (w : World) : (Op.unary .neg (.int .i64 (-(q : Int)))).run P w = .ok (.int .i64 (q : Int)) w := by
  have : IntKind.i64.wrap (0 - -(q : Int)) = (q : Int) := by rw [wrap64_id (by omega) (by omega)]; omega
  simp only [Op.unary, Op.intArith, this]; rfl

set_option maxRecDepth 100000 in
set_option maxHeartbeats 400000 in
theorem first_w : ∀ (R : Heap) (many at0 which : Int), GlobP R → FnW Tryz.prog 8 [.int .i64 many, .int .i64 at0, .int .i64 which] R [] fun v _ => v = .bool true := by
  intro R many at0 which hR
  refine fn_of_body Tryz.func8 rfl Tryz.ntmps8 Tryz.results8 (by rfl) ?_
  refine cw_regseq ?_
  refine ow_y (y_assign rfl) rfl rfl rfl ?_
  refine ow_nil ?_
  refine cw_regseq ?_
  refine ow_call rfl rfl (by rfl) ct_10 (awake_c R _ hR) ?_
  · rintro _ _ ⟨rfl, rfl⟩
    refine ow_y (y_assign rfl) rfl rfl rfl ?_
    refine ow_nil ?_
    refine cw_seq ?_
    refine cw_regseq ?_
    refine ow_y (y_move rfl) rfl rfl rfl ?_
    refine ow_cmp rfl rfl rfl rfl rfl (fun h18 => ?_) (fun h18 => ?_)
    · simp only [cmpP] at h18
      refine ow_y (y_move rfl) rfl rfl rfl ?_
      refine ow_skip rfl rfl rfl ?_
      refine ow_skip rfl rfl rfl ?_
      refine ow_y (y_pick_t rfl rfl) rfl rfl rfl ?_
      refine ow_y (y_move rfl) rfl rfl rfl ?_
      refine ow_skip rfl rfl rfl ?_
      refine ow_skip rfl rfl rfl ?_
      refine ow_y (y_pick_t rfl rfl) rfl rfl rfl ?_
      refine ow_y (y_move rfl) rfl rfl rfl ?_
      refine ow_skip rfl rfl rfl ?_
      refine ow_skip rfl rfl rfl ?_
      refine ow_skip rfl rfl rfl ?_
      refine ow_y (y_pick_t rfl rfl) rfl rfl rfl ?_
      refine ow_nil ?_
      refine cw_if_t rfl ?_
      refine cw_regseq ?_
      refine ow_y (y_move rfl) rfl rfl rfl ?_
      refine ow_y (y_assign rfl) rfl rfl rfl ?_
      refine ow_nil ?_
      refine cw_ret ?_
      repeat with_reducible first | refine thenQ_ret ?_ | refine thenQ_normal ?_ | refine thenQ_exit ?_ | refine blockQ_ret ?_ | refine blockQ_normal ?_ | refine blockQ_exit_same ?_ | refine blockQ_exit_ne rfl ?_
      refine body_ret (.one (.tmp rfl)) ?_
      rfl
    · simp only [cmpP] at h18
      refine ow_y (y_move rfl) rfl rfl rfl ?_
      refine ow_y (y_move rfl) rfl rfl rfl ?_
      refine ow_cmp rfl rfl rfl rfl rfl (fun h21 => ?_) (fun h21 => ?_)
      · simp only [cmpP] at h21
        refine ow_y (y_pick_f rfl rfl) rfl rfl rfl ?_
        refine ow_y (y_move rfl) rfl rfl rfl ?_
        refine ow_skip rfl rfl rfl ?_
        refine ow_skip rfl rfl rfl ?_
        refine ow_y (y_pick_t rfl rfl) rfl rfl rfl ?_
        refine ow_y (y_move rfl) rfl rfl rfl ?_
        refine ow_skip rfl rfl rfl ?_
        refine ow_skip rfl rfl rfl ?_
        refine ow_skip rfl rfl rfl ?_
        refine ow_y (y_pick_t rfl rfl) rfl rfl rfl ?_
        refine ow_nil ?_
        refine cw_if_t rfl ?_
        refine cw_regseq ?_
        refine ow_y (y_move rfl) rfl rfl rfl ?_
        refine ow_y (y_assign rfl) rfl rfl rfl ?_
        refine ow_nil ?_
        refine cw_ret ?_
        repeat with_reducible first | refine thenQ_ret ?_ | refine thenQ_normal ?_ | refine thenQ_exit ?_ | refine blockQ_ret ?_ | refine blockQ_normal ?_ | refine blockQ_exit_same ?_ | refine blockQ_exit_ne rfl ?_
        refine body_ret (.one (.tmp rfl)) ?_
        rfl
      · simp only [cmpP] at h21
        refine ow_y (y_pick_f rfl rfl) rfl rfl rfl ?_
        refine ow_y (y_move rfl) rfl rfl rfl ?_
        refine ow_y (y_move rfl) rfl rfl rfl ?_
        refine ow_cmp rfl rfl rfl rfl rfl (fun h25 => ?_) (fun h25 => ?_)
        · simp only [cmpP] at h25
          refine ow_y (y_pick_f rfl rfl) rfl rfl rfl ?_
          refine ow_y (y_move rfl) rfl rfl rfl ?_
          refine ow_skip rfl rfl rfl ?_
          refine ow_skip rfl rfl rfl ?_
          refine ow_skip rfl rfl rfl ?_
          refine ow_y (y_pick_t rfl rfl) rfl rfl rfl ?_
          refine ow_nil ?_
          refine cw_if_t rfl ?_
          refine cw_regseq ?_
          refine ow_y (y_move rfl) rfl rfl rfl ?_
          refine ow_y (y_assign rfl) rfl rfl rfl ?_
          refine ow_nil ?_
          refine cw_ret ?_
          repeat with_reducible first | refine thenQ_ret ?_ | refine thenQ_normal ?_ | refine thenQ_exit ?_ | refine blockQ_ret ?_ | refine blockQ_normal ?_ | refine blockQ_exit_same ?_ | refine blockQ_exit_ne rfl ?_
          refine body_ret (.one (.tmp rfl)) ?_
          rfl
        · simp only [cmpP] at h25
          refine ow_y (y_pick_f rfl rfl) rfl rfl rfl ?_
          refine ow_y (y_move rfl) rfl rfl rfl ?_
          refine ow_y (y_move rfl) rfl rfl rfl ?_
          refine ow_y (y_move rfl) rfl rfl rfl ?_
          refine ow_cmp rfl rfl rfl rfl rfl (fun h30 => ?_) (fun h30 => ?_)
          · simp only [cmpP] at h30
            refine ow_y (y_pick_f rfl rfl) rfl rfl rfl ?_
            refine ow_nil ?_
            refine cw_if_t rfl ?_
            refine cw_regseq ?_
            refine ow_y (y_move rfl) rfl rfl rfl ?_
            refine ow_y (y_assign rfl) rfl rfl rfl ?_
            refine ow_nil ?_
            refine cw_ret ?_
            repeat with_reducible first | refine thenQ_ret ?_ | refine thenQ_normal ?_ | refine thenQ_exit ?_ | refine blockQ_ret ?_ | refine blockQ_normal ?_ | refine blockQ_exit_same ?_ | refine blockQ_exit_ne rfl ?_
            refine body_ret (.one (.tmp rfl)) ?_
            rfl
          · simp only [cmpP] at h30
            refine ow_y (y_pick_f rfl rfl) rfl rfl rfl ?_
            refine ow_nil ?_
            refine cw_if_f rfl ?_
            refine cw_skip ?_
            repeat with_reducible first | refine thenQ_ret ?_ | refine thenQ_normal ?_ | refine thenQ_exit ?_ | refine blockQ_ret ?_ | refine blockQ_normal ?_ | refine blockQ_exit_same ?_ | refine blockQ_exit_ne rfl ?_
            refine cw_regseq ?_
            refine ow_buildSlice (el := 9) (zs := [.string ⟨#[]⟩, .string ⟨#[]⟩, .string ⟨#[]⟩, .string ⟨#[]⟩, .string ⟨#[]⟩, .string ⟨#[]⟩, .string ⟨#[]⟩, .string ⟨#[]⟩, .string ⟨#[]⟩, .string ⟨#[]⟩, .string ⟨#[]⟩, .string ⟨#[]⟩, .string ⟨#[]⟩, .string ⟨#[]⟩, .string ⟨#[]⟩, .string ⟨#[]⟩]) (fun i => some (i * 1, 1)) rfl rfl (by repeat (first | exact EvPs.nil | apply EvPs.cons rfl)) (by repeat (first | exact FillL.nil | (apply FillL.cons rfl rfl rfl; · repeat (first | exact SetLs.nil | (apply SetLs.cons; · repeat (first | exact SetL.here | apply SetL.there)))))) (fun _ => by kernel_rfl) (fun b33 => ?_)
            refine ow_y (y_assign rfl) rfl rfl rfl ?_
            refine ow_nil ?_
            refine cw_regseq ?_
            refine ow_buildSlice (el := 25) (zs := [.int .i64 0, .int .i64 0, .int .i64 0, .int .i64 0, .int .i64 0, .int .i64 0, .int .i64 0, .int .i64 0, .int .i64 0, .int .i64 0, .int .i64 0, .int .i64 0, .int .i64 0, .int .i64 0, .int .i64 0, .int .i64 0]) (fun i => some (i * 1, 1)) rfl rfl (by repeat (first | exact EvPs.nil | apply EvPs.cons rfl)) (by repeat (first | exact FillL.nil | (apply FillL.cons rfl rfl rfl; · repeat (first | exact SetLs.nil | (apply SetLs.cons; · repeat (first | exact SetL.here | apply SetL.there)))))) (fun _ => by kernel_rfl) (fun b34 => ?_)
            refine ow_y (y_assign rfl) rfl rfl rfl ?_
            refine ow_nil ?_
            refine cw_regseq ?_
            have hN : ∀ z : Int, 0 ≤ z → ∃ n : Nat, z = n := fun z h => ⟨z.toNat, by omega⟩
            obtain ⟨m, rfl⟩ := hN many (by omega)
            obtain ⟨a, rfl⟩ := hN at0 (by omega)
            obtain ⟨r, hr⟩ : ∃ r : Int, which.tmod 16 = r := ⟨_, rfl⟩
            have hr1 := Int.tmod_lt_of_pos which (show (0 : Int) < 16 by omega)
            have hr2 := Int.lt_tmod_of_pos which (show (0 : Int) < 16 by omega)
            rw [hr] at hr1 hr2
            refine ow_y (y_move rfl) rfl rfl rfl ?_
            refine ow_y (y_bin (v := .int .i64 r) rfl rfl (fun w => run_guard_int _ _ _ _ _ _ w) (fun w => by rw [run_rem16, hr])) rfl rfl rfl ?_
            refine ow_y (y_assign rfl) rfl rfl rfl ?_
            refine ow_nil ?_
            refine cw_seq_cut (α := Nat) (fun x => [(0, .int .i64 (m : Int)), (1, .int .i64 (a : Int)), (7, .bool true), (8, .slice (some ⟨b33, 0, none⟩) 16 16), (9, .slice (some ⟨b34, 0, none⟩) 16 16), (10, .int .i64 (x : Int))]) (fun x => [(b34, cb errV 25), (b33, cb wrongV 9)]) (fun x => x < 16) ?_ ?_
            · refine cw_regseq ?_
              refine ow_y (y_move rfl) rfl rfl rfl ?_
              refine ow_cmp rfl rfl rfl rfl rfl (fun h38 => ?_) (fun h38 => ?_)
              · simp only [cmpP] at h38
                refine ow_nil ?_
                refine cw_if_t rfl ?_
                refine cw_region ?_
                obtain ⟨q, rfl⟩ : ∃ q : Nat, r = -(q : Int) := ⟨(-r).toNat, by omega⟩
                refine ow_y (y_move rfl) rfl rfl rfl ?_
                refine ow_y (y_unop (v' := .int .i64 (q : Int)) rfl (fun w => run_negq q (by omega) _ w)) rfl rfl rfl ?_
                refine ow_y (y_assign rfl) rfl rfl rfl ?_
                refine ow_nil ?_
                repeat with_reducible first | refine thenQ_ret ?_ | refine thenQ_normal ?_ | refine thenQ_exit ?_ | refine blockQ_ret ?_ | refine blockQ_normal ?_ | refine blockQ_exit_same ?_ | refine blockQ_exit_ne rfl ?_
                refine ⟨q, _, ?_, (by repeat (first | exact EnvLe.nil _ | refine EnvLe.cons rfl ?_)), (by repeat (first | exact Split.nil | (apply Split.cons; · repeat (first | exact Pick.here | apply Pick.there)) | exact Split.whole _ | exact Split.front _ _ rfl | exact Split.back _ _ rfl | exact Split.app_nil _ | apply Split.skip))⟩
                omega
              · simp only [cmpP] at h38
                refine ow_nil ?_
                refine cw_if_f rfl ?_
                refine cw_skip ?_
                repeat with_reducible first | refine thenQ_ret ?_ | refine thenQ_normal ?_ | refine thenQ_exit ?_ | refine blockQ_ret ?_ | refine blockQ_normal ?_ | refine blockQ_exit_same ?_ | refine blockQ_exit_ne rfl ?_
                obtain ⟨q, rfl⟩ : ∃ q : Nat, r = (q : Int) := ⟨r.toNat, by omega⟩
                refine ⟨q, _, ?_, (by repeat (first | exact EnvLe.nil _ | refine EnvLe.cons rfl ?_)), (by repeat (first | exact Split.nil | (apply Split.cons; · repeat (first | exact Pick.here | apply Pick.there)) | exact Split.whole _ | exact Split.front _ _ rfl | exact Split.back _ _ rfl | exact Split.app_nil _ | apply Split.skip))⟩
                omega
            · intro q hq
              refine cw_regseq ?_
              refine ow_y (y_assign rfl) rfl rfl rfl ?_
              refine ow_nil ?_
              refine cw_seq ?_
              refine cw_regseq ?_
              refine ow_y (y_assign rfl) rfl rfl rfl ?_
              refine ow_nil ?_
              refine cw_block ?_
              refine cw_loop (α := Nat × List UInt8) (fun x => [(0, .int .i64 (m : Int)), (1, .int .i64 (a : Int)), (7, .bool true), (8, .slice (some ⟨b33, 0, none⟩) 16 16), (9, .slice (some ⟨b34, 0, none⟩) 16 16), (10, .int .i64 (q : Int)), (11, str x.2), (12, .int .i64 (x.1 : Int))]) (fun x => [(b34, cb errV 25), (b33, cb wrongV 9)]) (fun x => x.1 ≤ m + 1 ∧ (x.1 ≤ m → x.2 = cat (firstF a q) x.1) ∧ (x.1 = m + 1 → x.2 = firstSrc m a q)) (fun x => m + 1 - x.1) (0, []) ?_ (by repeat (first | exact EnvLe.nil _ | refine EnvLe.cons rfl ?_)) (by repeat (first | exact Split.nil | (apply Split.cons; · repeat (first | exact Pick.here | apply Pick.there)) | exact Split.whole _ | exact Split.front _ _ rfl | exact Split.back _ _ rfl | exact Split.app_nil _ | apply Split.skip)) ?_
              · exact ⟨Nat.zero_le _, fun _ => rfl, fun h => by omega⟩
              · rintro ⟨k, out⟩ ⟨hk, hout, houtE⟩
                simp only at hk hout houtE
                have hol : k ≤ m → out.length ≤ 42 * k := fun h => by rw [hout h]; exact firstF_len hq k
                have hwl := wrong_len_n q hq
                refine cw_seq ?_
                refine cw_regseq ?_
                refine ow_y (y_move rfl) rfl rfl rfl ?_
                refine ow_y (y_move rfl) rfl rfl rfl ?_
                refine ow_cmp rfl rfl rfl rfl rfl (fun h43 => ?_) (fun h43 => ?_)
                · simp only [cmpP] at h43
                  refine ow_nil ?_
                  refine cw_if_t rfl ?_
                  refine cw_skip ?_
                  repeat with_reducible first | refine thenQ_ret ?_ | refine thenQ_normal ?_ | refine thenQ_exit ?_ | refine blockQ_ret ?_ | refine blockQ_normal ?_ | refine blockQ_exit_same ?_ | refine blockQ_exit_ne rfl ?_
                  refine cw_seq ?_
                  refine cw_block ?_
                  refine cw_seq ?_
                  refine cw_regseq ?_
                  refine ow_y (y_move rfl) rfl rfl rfl ?_
                  refine ow_y (y_move rfl) rfl rfl rfl ?_
                  refine ow_cmp rfl rfl rfl rfl rfl (fun h48 => ?_) (fun h48 => ?_)
                  · simp only [cmpP] at h48
                    refine ow_nil ?_
                    refine cw_if_t rfl ?_
                    refine cw_region ?_
                    refine ow_y (y_move rfl) rfl rfl rfl ?_
                    refine ow_y (y_move rfl) rfl rfl rfl ?_
                    refine ow_y (y_move rfl) rfl rfl rfl ?_
                    refine ow_y (y_indexAddr (i := q) rfl rfl el_38 sz_9 (by omega)) rfl rfl rfl ?_
                    refine ow_y (y_load rfl pt_9 (by first | (apply In.own; (repeat (first | exact List.Mem.head _ | apply List.Mem.tail)); done) | (apply In.ro; (repeat (first | exact List.Mem.head _ | apply List.Mem.tail)); done)) (wrongV_at q hq)) rfl rfl rfl ?_
                    refine ow_y (y_concat rfl rfl (by first | omega | (simp; omega) | (simp only [List.length_append, List.length_cons, List.length_nil]; omega))) rfl rfl rfl ?_
                    refine ow_y (y_concat rfl rfl (by first | omega | (simp; omega) | (simp only [List.length_append, List.length_cons, List.length_nil]; omega))) rfl rfl rfl ?_
                    refine ow_y (y_assign rfl) rfl rfl rfl ?_
                    refine ow_nil ?_
                    repeat with_reducible first | refine thenQ_ret ?_ | refine thenQ_normal ?_ | refine thenQ_exit ?_ | refine blockQ_ret ?_ | refine blockQ_normal ?_ | refine blockQ_exit_same ?_ | refine blockQ_exit_ne rfl ?_
                    refine cw_regseq ?_
                    refine ow_y (y_move rfl) rfl rfl rfl ?_
                    refine ow_y (y_move rfl) rfl rfl rfl ?_
                    refine ow_cmp rfl rfl rfl rfl rfl (fun h58 => ?_) (fun h58 => ?_)
                    · simp only [cmpP] at h58
                      refine ow_nil ?_
                      refine cw_if_t rfl ?_
                      refine cw_region ?_
                      refine ow_y (y_move rfl) rfl rfl rfl ?_
                      refine ow_y (y_concat rfl rfl (by first | omega | (simp; omega) | (simp only [List.length_append, List.length_cons, List.length_nil]; omega))) rfl rfl rfl ?_
                      refine ow_y (y_assign rfl) rfl rfl rfl ?_
                      refine ow_nil ?_
                      repeat with_reducible first | refine thenQ_ret ?_ | refine thenQ_normal ?_ | refine thenQ_exit ?_ | refine blockQ_ret ?_ | refine blockQ_normal ?_ | refine blockQ_exit_same ?_ | refine blockQ_exit_ne rfl ?_
                      refine cw_region ?_
                      refine ow_y (y_move rfl) rfl rfl rfl ?_
                      refine ow_y (y_add64 rfl rfl (by omega)) rfl rfl rfl ?_
                      refine ow_y (y_assign rfl) rfl rfl rfl ?_
                      refine ow_nil ?_
                      repeat with_reducible first | refine thenQ_ret ?_ | refine thenQ_normal ?_ | refine thenQ_exit ?_ | refine blockQ_ret ?_ | refine blockQ_normal ?_ | refine blockQ_exit_same ?_ | refine blockQ_exit_ne rfl ?_
                      refine ⟨(k + 1, out ++ wrongAt q ++ [10] ++ [110, 111, 112, 32, 59, 32, 102, 105, 110, 101, 10]), _, ?_, ?_, (by repeat (first | exact EnvLe.nil _ | refine EnvLe.cons rfl ?_)), (by repeat (first | exact Split.nil | (apply Split.cons; · repeat (first | exact Pick.here | apply Pick.there)) | exact Split.whole _ | exact Split.front _ _ rfl | exact Split.back _ _ rfl | exact Split.app_nil _ | apply Split.skip))⟩
                      · refine ⟨by omega, fun h => ?_, fun h => ?_⟩
                        · simp only [cat, firstF]
                          rw [if_pos (by omega), hout (by omega)]; simp [fineL]
                        · omega
                      · simp only; omega
                    · simp only [cmpP] at h58
                      refine ow_nil ?_
                      refine cw_if_f rfl ?_
                      refine cw_skip ?_
                      repeat with_reducible first | refine thenQ_ret ?_ | refine thenQ_normal ?_ | refine thenQ_exit ?_ | refine blockQ_ret ?_ | refine blockQ_normal ?_ | refine blockQ_exit_same ?_ | refine blockQ_exit_ne rfl ?_
                      refine cw_region ?_
                      refine ow_y (y_move rfl) rfl rfl rfl ?_
                      refine ow_y (y_add64 rfl rfl (by omega)) rfl rfl rfl ?_
                      refine ow_y (y_assign rfl) rfl rfl rfl ?_
                      refine ow_nil ?_
                      repeat with_reducible first | refine thenQ_ret ?_ | refine thenQ_normal ?_ | refine thenQ_exit ?_ | refine blockQ_ret ?_ | refine blockQ_normal ?_ | refine blockQ_exit_same ?_ | refine blockQ_exit_ne rfl ?_
                      refine ⟨(k + 1, out ++ wrongAt q ++ [10]), _, ?_, ?_, (by repeat (first | exact EnvLe.nil _ | refine EnvLe.cons rfl ?_)), (by repeat (first | exact Split.nil | (apply Split.cons; · repeat (first | exact Pick.here | apply Pick.there)) | exact Split.whole _ | exact Split.front _ _ rfl | exact Split.back _ _ rfl | exact Split.app_nil _ | apply Split.skip))⟩
                      · refine ⟨by omega, fun h => ?_, fun h => ?_⟩
                        · omega
                        · have hkm : k = m := by omega
                          rw [firstSrc, if_pos (by omega), ← hkm, hout (by omega)]; simp
                      · simp only; omega
                  · simp only [cmpP] at h48
                    refine ow_nil ?_
                    refine cw_if_f rfl ?_
                    refine cw_skip ?_
                    repeat with_reducible first | refine thenQ_ret ?_ | refine thenQ_normal ?_ | refine thenQ_exit ?_ | refine blockQ_ret ?_ | refine blockQ_normal ?_ | refine blockQ_exit_same ?_ | refine blockQ_exit_ne rfl ?_
                    refine cw_regseq ?_
                    refine ow_y (y_move rfl) rfl rfl rfl ?_
                    refine ow_y (y_move rfl) rfl rfl rfl ?_
                    refine ow_cmp rfl rfl rfl rfl rfl (fun h58 => ?_) (fun h58 => ?_)
                    · simp only [cmpP] at h58
                      refine ow_nil ?_
                      refine cw_if_t rfl ?_
                      refine cw_region ?_
                      refine ow_y (y_move rfl) rfl rfl rfl ?_
                      refine ow_y (y_concat rfl rfl (by first | omega | (simp; omega) | (simp only [List.length_append, List.length_cons, List.length_nil]; omega))) rfl rfl rfl ?_
                      refine ow_y (y_assign rfl) rfl rfl rfl ?_
                      refine ow_nil ?_
                      repeat with_reducible first | refine thenQ_ret ?_ | refine thenQ_normal ?_ | refine thenQ_exit ?_ | refine blockQ_ret ?_ | refine blockQ_normal ?_ | refine blockQ_exit_same ?_ | refine blockQ_exit_ne rfl ?_
                      refine cw_region ?_
                      refine ow_y (y_move rfl) rfl rfl rfl ?_
                      refine ow_y (y_add64 rfl rfl (by omega)) rfl rfl rfl ?_
                      refine ow_y (y_assign rfl) rfl rfl rfl ?_
                      refine ow_nil ?_
                      repeat with_reducible first | refine thenQ_ret ?_ | refine thenQ_normal ?_ | refine thenQ_exit ?_ | refine blockQ_ret ?_ | refine blockQ_normal ?_ | refine blockQ_exit_same ?_ | refine blockQ_exit_ne rfl ?_
                      refine ⟨(k + 1, out ++ [110, 111, 112, 32, 59, 32, 102, 105, 110, 101, 10]), _, ?_, ?_, (by repeat (first | exact EnvLe.nil _ | refine EnvLe.cons rfl ?_)), (by repeat (first | exact Split.nil | (apply Split.cons; · repeat (first | exact Pick.here | apply Pick.there)) | exact Split.whole _ | exact Split.front _ _ rfl | exact Split.back _ _ rfl | exact Split.app_nil _ | apply Split.skip))⟩
                      · refine ⟨by omega, fun h => ?_, fun h => ?_⟩
                        · simp only [cat, firstF]
                          rw [if_neg (by omega), hout (by omega)]; simp [fineL]
                        · omega
                      · simp only; omega
                    · simp only [cmpP] at h58
                      refine ow_nil ?_
                      refine cw_if_f rfl ?_
                      refine cw_skip ?_
                      repeat with_reducible first | refine thenQ_ret ?_ | refine thenQ_normal ?_ | refine thenQ_exit ?_ | refine blockQ_ret ?_ | refine blockQ_normal ?_ | refine blockQ_exit_same ?_ | refine blockQ_exit_ne rfl ?_
                      refine cw_region ?_
                      refine ow_y (y_move rfl) rfl rfl rfl ?_
                      refine ow_y (y_add64 rfl rfl (by omega)) rfl rfl rfl ?_
                      refine ow_y (y_assign rfl) rfl rfl rfl ?_
                      refine ow_nil ?_
                      repeat with_reducible first | refine thenQ_ret ?_ | refine thenQ_normal ?_ | refine thenQ_exit ?_ | refine blockQ_ret ?_ | refine blockQ_normal ?_ | refine blockQ_exit_same ?_ | refine blockQ_exit_ne rfl ?_
                      refine ⟨(k + 1, out), _, ?_, ?_, (by repeat (first | exact EnvLe.nil _ | refine EnvLe.cons rfl ?_)), (by repeat (first | exact Split.nil | (apply Split.cons; · repeat (first | exact Pick.here | apply Pick.there)) | exact Split.whole _ | exact Split.front _ _ rfl | exact Split.back _ _ rfl | exact Split.app_nil _ | apply Split.skip))⟩
                      · refine ⟨by omega, fun h => ?_, fun h => ?_⟩
                        · omega
                        · have hkm : k = m := by omega
                          rw [firstSrc, if_neg (by omega), ← hkm, hout (by omega)]; simp
                      · simp only; omega
                · simp only [cmpP] at h43
                  refine ow_nil ?_
                  refine cw_if_f rfl ?_
                  refine cw_exit ?_
                  repeat with_reducible first | refine thenQ_ret ?_ | refine thenQ_normal ?_ | refine thenQ_exit ?_ | refine blockQ_ret ?_ | refine blockQ_normal ?_ | refine blockQ_exit_same ?_ | refine blockQ_exit_ne rfl ?_
                  refine cw_regseq ?_
                  have hsrc : out = firstSrc m a q := houtE (by omega)
                  refine ow_y (y_move rfl) rfl rfl rfl ?_
                  refine ow_call rfl rfl (by rfl) ct_12 (asm_f 0 out hR.base) ?_
                  rintro _ _ ⟨A, rfl, hp⟩
                  rw [AsmPost, hsrc, assemble_first (by omega) (by omega) hq] at hp
                  simp only [List.length_nil] at hp
                  obtain ⟨sv, rfl, hown⟩ := hp
                  obtain ⟨ad, c, rfl⟩ := own_slice hown
                  refine ow_y (y_move rfl) rfl rfl rfl ?_
                  refine ow_y (y_extract rfl rfl) rfl rfl rfl ?_
                  refine ow_y (y_extract rfl rfl) rfl rfl rfl ?_
                  refine ow_y (y_extract rfl rfl) rfl rfl rfl ?_
                  refine ow_y (y_assign rfl) rfl rfl rfl ?_
                  refine ow_y (y_assign rfl) rfl rfl rfl ?_
                  refine ow_y (y_assign rfl) rfl rfl rfl ?_
                  refine ow_nil ?_
                  refine cw_regseq ?_
                  refine ow_y (y_move rfl) rfl rfl rfl ?_
                  refine ow_y (y_move rfl) rfl rfl rfl ?_
                  refine ow_y (y_move rfl) rfl rfl rfl ?_
                  refine ow_y (y_lenSl rfl el_22) rfl rfl rfl ?_
                  refine ow_cmp_t rfl rfl rfl rfl rfl (by simp only [cmpP]; try omega) ?_
                  refine ow_y (y_pick_t rfl rfl) rfl rfl rfl ?_
                  refine ow_y (y_move rfl) rfl rfl rfl ?_
                  refine ow_y (y_move rfl) rfl rfl rfl ?_
                  refine ow_y (y_move rfl) rfl rfl rfl ?_
                  refine ow_y (y_add64 rfl rfl (by omega)) rfl rfl rfl ?_
                  refine ow_cmp_t rfl rfl rfl rfl rfl (by simp only [cmpP]; try omega) ?_
                  refine ow_y (y_pick_t rfl rfl) rfl rfl rfl ?_
                  refine ow_y (y_move rfl) rfl rfl rfl ?_
                  refine ow_y (y_move rfl) rfl rfl rfl ?_
                  refine ow_y (y_move rfl) rfl rfl rfl ?_
                  refine ow_y (y_move rfl) rfl rfl rfl ?_
                  refine ow_y (y_indexAddr (i := q) rfl rfl el_39 sz_25 (by omega)) rfl rfl rfl ?_
                  refine ow_y (y_load rfl pt_25 (.inl (List.mem_append_right _ (.head _))) (errV_at q hq)) rfl rfl rfl ?_
                  refine ow_cmp_t rfl rfl rfl rfl rfl (by simp only [cmpP]; try omega) ?_
                  refine ow_y (y_pick_t rfl rfl) rfl rfl rfl ?_
                  refine ow_y (y_assign rfl) rfl rfl rfl ?_
                  refine ow_nil ?_
                  refine cw_ret ?_
                  repeat with_reducible first | refine thenQ_ret ?_ | refine thenQ_normal ?_ | refine thenQ_exit ?_ | refine blockQ_ret ?_ | refine blockQ_normal ?_ | refine blockQ_exit_same ?_ | refine blockQ_exit_ne rfl ?_
                  refine body_ret (.one (.tmp rfl)) ?_
                  rfl

end Go.Proofs.YtgppllppddaodaaGreatDoor

/-
  The walk of AsmTwice.
-/
namespace Go.Proofs.YtgppllppddaodaaGreatDoor
open Sl Am
open Go

theorem nameL_len (l : Nat) : (nameL l).length ≤ 20 := by
  have : lettersL.length = 20 := by decide
  rw [nameL, List.length_take]; omega
theorem twoF_len (f g l : Nat) : ∀ n, (cat (twoF f g l) n).length ≤ 48 * n
  | 0 => by simp [cat]
  | n + 1 => by
    have := twoF_len f g l n
    have hn := nameL_len l
    simp only [cat, twoF, List.length_append]
    split <;> split <;> simp [nopL] <;> omega
theorem oneF_len (f l : Nat) : ∀ n, (cat (oneF f l) n).length ≤ 48 * n
  | 0 => by simp [cat]
  | n + 1 => by
    have := oneF_len f l n
    have hn := nameL_len l
    simp only [cat, oneF, List.length_append]
    split <;> simp [nopL] <;> omega
theorem two_res {many first second long : Nat} (hm : many ≤ 100) (h : first < second) (h2 : second < many) (hl : long < 21) (h1 : 1 ≤ long) : ∃ n e, assemble 0 (cat (twoF first second long) many) = ([], n, e) ∧ (12 < long → n = (first : Int) + 1 ∧ e = 60) ∧ (¬ 12 < long → n = (second : Int) + 1 ∧ e = 62) := by
  rw [assemble_two hm h h2 hl h1]
  by_cases h12 : 12 < long
  · exact ⟨_, _, by rw [if_pos h12], fun _ => ⟨by omega, rfl⟩, fun hn => absurd h12 hn⟩
  · exact ⟨_, _, by rw [if_neg h12], fun hn => absurd hn h12, fun _ => ⟨by omega, rfl⟩⟩
theorem one_res {many first long : Nat} (hm : many ≤ 100) (h : first < many) (hl : long < 21) (h1 : 1 ≤ long) : ∃ ws n e, assemble 0 (cat (oneF first long) many) = (ws, n, e) ∧ (12 < long → n = (first : Int) + 1 ∧ e = 60) ∧ (¬ 12 < long → ws.length = many ∧ e = 0) := by
  rw [assemble_one hm h hl h1]
  by_cases h12 : 12 < long
  · exact ⟨_, _, _, by rw [if_pos h12], fun _ => ⟨by omega, rfl⟩, fun hn => absurd h12 hn⟩
  · exact ⟨_, _, _, by rw [if_neg h12], fun hn => absurd hn h12, fun _ => ⟨by simp, rfl⟩⟩

set_option maxRecDepth 100000 in
set_option maxHeartbeats 400000 in
theorem twice_w : ∀ (R : Heap) (many first second long : Int), GlobP R → FnW Tryz.prog 9 [.int .i64 many, .int .i64 first, .int .i64 second, .int .i64 long] R [] fun v _ => v = .bool true := by
  intro R many first second long hR
  refine fn_of_body Tryz.func9 rfl Tryz.ntmps9 Tryz.results9 (by rfl) ?_
  refine cw_regseq ?_
  refine ow_y (y_assign rfl) rfl rfl rfl ?_
  refine ow_nil ?_
  refine cw_regseq ?_
  refine ow_call rfl rfl (by rfl) ct_10 (awake_c R _ hR) ?_
  · rintro _ _ ⟨rfl, rfl⟩
    refine ow_y (y_assign rfl) rfl rfl rfl ?_
    refine ow_nil ?_
    refine cw_seq ?_
    refine cw_regseq ?_
    refine ow_y (y_move rfl) rfl rfl rfl ?_
    refine ow_cmp rfl rfl rfl rfl rfl (fun h22 => ?_) (fun h22 => ?_)
    · simp only [cmpP] at h22
      refine ow_y (y_move rfl) rfl rfl rfl ?_
      refine ow_skip rfl rfl rfl ?_
      refine ow_skip rfl rfl rfl ?_
      refine ow_y (y_pick_t rfl rfl) rfl rfl rfl ?_
      refine ow_y (y_move rfl) rfl rfl rfl ?_
      refine ow_skip rfl rfl rfl ?_
      refine ow_skip rfl rfl rfl ?_
      refine ow_y (y_pick_t rfl rfl) rfl rfl rfl ?_
      refine ow_y (y_move rfl) rfl rfl rfl ?_
      refine ow_skip rfl rfl rfl ?_
      refine ow_skip rfl rfl rfl ?_
      refine ow_skip rfl rfl rfl ?_
      refine ow_y (y_pick_t rfl rfl) rfl rfl rfl ?_
      refine ow_y (y_move rfl) rfl rfl rfl ?_
      refine ow_skip rfl rfl rfl ?_
      refine ow_skip rfl rfl rfl ?_
      refine ow_skip rfl rfl rfl ?_
      refine ow_y (y_pick_t rfl rfl) rfl rfl rfl ?_
      refine ow_y (y_move rfl) rfl rfl rfl ?_
      refine ow_skip rfl rfl rfl ?_
      refine ow_skip rfl rfl rfl ?_
      refine ow_y (y_pick_t rfl rfl) rfl rfl rfl ?_
      refine ow_y (y_move rfl) rfl rfl rfl ?_
      refine ow_skip rfl rfl rfl ?_
      refine ow_skip rfl rfl rfl ?_
      refine ow_y (y_pick_t rfl rfl) rfl rfl rfl ?_
      refine ow_nil ?_
      refine cw_if_t rfl ?_
      refine cw_regseq ?_
      refine ow_y (y_move rfl) rfl rfl rfl ?_
      refine ow_y (y_assign rfl) rfl rfl rfl ?_
      refine ow_nil ?_
      refine cw_ret ?_
      repeat with_reducible first | refine thenQ_ret ?_ | refine thenQ_normal ?_ | refine thenQ_exit ?_ | refine blockQ_ret ?_ | refine blockQ_normal ?_ | refine blockQ_exit_same ?_ | refine blockQ_exit_ne rfl ?_
      refine body_ret (.one (.tmp rfl)) ?_
      rfl
    · simp only [cmpP] at h22
      refine ow_y (y_move rfl) rfl rfl rfl ?_
      refine ow_y (y_move rfl) rfl rfl rfl ?_
      refine ow_cmp rfl rfl rfl rfl rfl (fun h25 => ?_) (fun h25 => ?_)
      · simp only [cmpP] at h25
        refine ow_y (y_pick_f rfl rfl) rfl rfl rfl ?_
        refine ow_y (y_move rfl) rfl rfl rfl ?_
        refine ow_skip rfl rfl rfl ?_
        refine ow_skip rfl rfl rfl ?_
        refine ow_y (y_pick_t rfl rfl) rfl rfl rfl ?_
        refine ow_y (y_move rfl) rfl rfl rfl ?_
        refine ow_skip rfl rfl rfl ?_
        refine ow_skip rfl rfl rfl ?_
        refine ow_skip rfl rfl rfl ?_
        refine ow_y (y_pick_t rfl rfl) rfl rfl rfl ?_
        refine ow_y (y_move rfl) rfl rfl rfl ?_
        refine ow_skip rfl rfl rfl ?_
        refine ow_skip rfl rfl rfl ?_
        refine ow_skip rfl rfl rfl ?_
        refine ow_y (y_pick_t rfl rfl) rfl rfl rfl ?_
        refine ow_y (y_move rfl) rfl rfl rfl ?_
        refine ow_skip rfl rfl rfl ?_
        refine ow_skip rfl rfl rfl ?_
        refine ow_y (y_pick_t rfl rfl) rfl rfl rfl ?_
        refine ow_y (y_move rfl) rfl rfl rfl ?_
        refine ow_skip rfl rfl rfl ?_
        refine ow_skip rfl rfl rfl ?_
        refine ow_y (y_pick_t rfl rfl) rfl rfl rfl ?_
        refine ow_nil ?_
        refine cw_if_t rfl ?_
        refine cw_regseq ?_
        refine ow_y (y_move rfl) rfl rfl rfl ?_
        refine ow_y (y_assign rfl) rfl rfl rfl ?_
        refine ow_nil ?_
        refine cw_ret ?_
        repeat with_reducible first | refine thenQ_ret ?_ | refine thenQ_normal ?_ | refine thenQ_exit ?_ | refine blockQ_ret ?_ | refine blockQ_normal ?_ | refine blockQ_exit_same ?_ | refine blockQ_exit_ne rfl ?_
        refine body_ret (.one (.tmp rfl)) ?_
        rfl
      · simp only [cmpP] at h25
        refine ow_y (y_pick_f rfl rfl) rfl rfl rfl ?_
        refine ow_y (y_move rfl) rfl rfl rfl ?_
        refine ow_y (y_move rfl) rfl rfl rfl ?_
        refine ow_cmp rfl rfl rfl rfl rfl (fun h29 => ?_) (fun h29 => ?_)
        · simp only [cmpP] at h29
          refine ow_y (y_pick_f rfl rfl) rfl rfl rfl ?_
          refine ow_y (y_move rfl) rfl rfl rfl ?_
          refine ow_skip rfl rfl rfl ?_
          refine ow_skip rfl rfl rfl ?_
          refine ow_skip rfl rfl rfl ?_
          refine ow_y (y_pick_t rfl rfl) rfl rfl rfl ?_
          refine ow_y (y_move rfl) rfl rfl rfl ?_
          refine ow_skip rfl rfl rfl ?_
          refine ow_skip rfl rfl rfl ?_
          refine ow_skip rfl rfl rfl ?_
          refine ow_y (y_pick_t rfl rfl) rfl rfl rfl ?_
          refine ow_y (y_move rfl) rfl rfl rfl ?_
          refine ow_skip rfl rfl rfl ?_
          refine ow_skip rfl rfl rfl ?_
          refine ow_y (y_pick_t rfl rfl) rfl rfl rfl ?_
          refine ow_y (y_move rfl) rfl rfl rfl ?_
          refine ow_skip rfl rfl rfl ?_
          refine ow_skip rfl rfl rfl ?_
          refine ow_y (y_pick_t rfl rfl) rfl rfl rfl ?_
          refine ow_nil ?_
          refine cw_if_t rfl ?_
          refine cw_regseq ?_
          refine ow_y (y_move rfl) rfl rfl rfl ?_
          refine ow_y (y_assign rfl) rfl rfl rfl ?_
          refine ow_nil ?_
          refine cw_ret ?_
          repeat with_reducible first | refine thenQ_ret ?_ | refine thenQ_normal ?_ | refine thenQ_exit ?_ | refine blockQ_ret ?_ | refine blockQ_normal ?_ | refine blockQ_exit_same ?_ | refine blockQ_exit_ne rfl ?_
          refine body_ret (.one (.tmp rfl)) ?_
          rfl
        · simp only [cmpP] at h29
          refine ow_y (y_pick_f rfl rfl) rfl rfl rfl ?_
          refine ow_y (y_move rfl) rfl rfl rfl ?_
          refine ow_y (y_move rfl) rfl rfl rfl ?_
          refine ow_y (y_move rfl) rfl rfl rfl ?_
          refine ow_cmp rfl rfl rfl rfl rfl (fun h34 => ?_) (fun h34 => ?_)
          · simp only [cmpP] at h34
            refine ow_y (y_pick_f rfl rfl) rfl rfl rfl ?_
            refine ow_y (y_move rfl) rfl rfl rfl ?_
            refine ow_skip rfl rfl rfl ?_
            refine ow_skip rfl rfl rfl ?_
            refine ow_skip rfl rfl rfl ?_
            refine ow_y (y_pick_t rfl rfl) rfl rfl rfl ?_
            refine ow_y (y_move rfl) rfl rfl rfl ?_
            refine ow_skip rfl rfl rfl ?_
            refine ow_skip rfl rfl rfl ?_
            refine ow_y (y_pick_t rfl rfl) rfl rfl rfl ?_
            refine ow_y (y_move rfl) rfl rfl rfl ?_
            refine ow_skip rfl rfl rfl ?_
            refine ow_skip rfl rfl rfl ?_
            refine ow_y (y_pick_t rfl rfl) rfl rfl rfl ?_
            refine ow_nil ?_
            refine cw_if_t rfl ?_
            refine cw_regseq ?_
            refine ow_y (y_move rfl) rfl rfl rfl ?_
            refine ow_y (y_assign rfl) rfl rfl rfl ?_
            refine ow_nil ?_
            refine cw_ret ?_
            repeat with_reducible first | refine thenQ_ret ?_ | refine thenQ_normal ?_ | refine thenQ_exit ?_ | refine blockQ_ret ?_ | refine blockQ_normal ?_ | refine blockQ_exit_same ?_ | refine blockQ_exit_ne rfl ?_
            refine body_ret (.one (.tmp rfl)) ?_
            rfl
          · simp only [cmpP] at h34
            refine ow_y (y_pick_f rfl rfl) rfl rfl rfl ?_
            refine ow_y (y_move rfl) rfl rfl rfl ?_
            refine ow_y (y_move rfl) rfl rfl rfl ?_
            refine ow_y (y_move rfl) rfl rfl rfl ?_
            refine ow_cmp rfl rfl rfl rfl rfl (fun h39 => ?_) (fun h39 => ?_)
            · simp only [cmpP] at h39
              refine ow_y (y_pick_f rfl rfl) rfl rfl rfl ?_
              refine ow_y (y_move rfl) rfl rfl rfl ?_
              refine ow_skip rfl rfl rfl ?_
              refine ow_skip rfl rfl rfl ?_
              refine ow_y (y_pick_t rfl rfl) rfl rfl rfl ?_
              refine ow_y (y_move rfl) rfl rfl rfl ?_
              refine ow_skip rfl rfl rfl ?_
              refine ow_skip rfl rfl rfl ?_
              refine ow_y (y_pick_t rfl rfl) rfl rfl rfl ?_
              refine ow_nil ?_
              refine cw_if_t rfl ?_
              refine cw_regseq ?_
              refine ow_y (y_move rfl) rfl rfl rfl ?_
              refine ow_y (y_assign rfl) rfl rfl rfl ?_
              refine ow_nil ?_
              refine cw_ret ?_
              repeat with_reducible first | refine thenQ_ret ?_ | refine thenQ_normal ?_ | refine thenQ_exit ?_ | refine blockQ_ret ?_ | refine blockQ_normal ?_ | refine blockQ_exit_same ?_ | refine blockQ_exit_ne rfl ?_
              refine body_ret (.one (.tmp rfl)) ?_
              rfl
            · simp only [cmpP] at h39
              refine ow_y (y_pick_f rfl rfl) rfl rfl rfl ?_
              refine ow_y (y_move rfl) rfl rfl rfl ?_
              refine ow_y (y_move rfl) rfl rfl rfl ?_
              refine ow_cmp rfl rfl rfl rfl rfl (fun h43 => ?_) (fun h43 => ?_)
              · simp only [cmpP] at h43
                refine ow_y (y_pick_f rfl rfl) rfl rfl rfl ?_
                refine ow_y (y_move rfl) rfl rfl rfl ?_
                refine ow_skip rfl rfl rfl ?_
                refine ow_skip rfl rfl rfl ?_
                refine ow_y (y_pick_t rfl rfl) rfl rfl rfl ?_
                refine ow_nil ?_
                refine cw_if_t rfl ?_
                refine cw_regseq ?_
                refine ow_y (y_move rfl) rfl rfl rfl ?_
                refine ow_y (y_assign rfl) rfl rfl rfl ?_
                refine ow_nil ?_
                refine cw_ret ?_
                repeat with_reducible first | refine thenQ_ret ?_ | refine thenQ_normal ?_ | refine thenQ_exit ?_ | refine blockQ_ret ?_ | refine blockQ_normal ?_ | refine blockQ_exit_same ?_ | refine blockQ_exit_ne rfl ?_
                refine body_ret (.one (.tmp rfl)) ?_
                rfl
              · simp only [cmpP] at h43
                refine ow_y (y_pick_f rfl rfl) rfl rfl rfl ?_
                refine ow_y (y_move rfl) rfl rfl rfl ?_
                refine ow_y (y_move rfl) rfl rfl rfl ?_
                refine ow_cmp rfl rfl rfl rfl rfl (fun h47 => ?_) (fun h47 => ?_)
                · simp only [cmpP] at h47
                  refine ow_y (y_pick_f rfl rfl) rfl rfl rfl ?_
                  refine ow_nil ?_
                  refine cw_if_t rfl ?_
                  refine cw_regseq ?_
                  refine ow_y (y_move rfl) rfl rfl rfl ?_
                  refine ow_y (y_assign rfl) rfl rfl rfl ?_
                  refine ow_nil ?_
                  refine cw_ret ?_
                  repeat with_reducible first | refine thenQ_ret ?_ | refine thenQ_normal ?_ | refine thenQ_exit ?_ | refine blockQ_ret ?_ | refine blockQ_normal ?_ | refine blockQ_exit_same ?_ | refine blockQ_exit_ne rfl ?_
                  refine body_ret (.one (.tmp rfl)) ?_
                  rfl
                · simp only [cmpP] at h47
                  refine ow_y (y_pick_f rfl rfl) rfl rfl rfl ?_
                  refine ow_nil ?_
                  refine cw_if_f rfl ?_
                  refine cw_skip ?_
                  repeat with_reducible first | refine thenQ_ret ?_ | refine thenQ_normal ?_ | refine thenQ_exit ?_ | refine blockQ_ret ?_ | refine blockQ_normal ?_ | refine blockQ_exit_same ?_ | refine blockQ_exit_ne rfl ?_
                  refine cw_regseq ?_
                  have hN : ∀ z : Int, 0 ≤ z → ∃ n : Nat, z = n := fun z h => ⟨z.toNat, by omega⟩
                  obtain ⟨m, rfl⟩ := hN many (by omega)
                  obtain ⟨f, rfl⟩ := hN first (by omega)
                  obtain ⟨g, rfl⟩ := hN second (by omega)
                  obtain ⟨l, rfl⟩ := hN long (by omega)
                  have hnl := nameL_len l
                  refine ow_y (y_move rfl) rfl rfl rfl ?_
                  refine ow_y (v := str (nameL l)) (y_sliceStr (l := lettersL) (lo := none) (vlo := none) (vhi := some (.int .i64 (l : Int))) (i := 0) (j := l) rfl st_9 rfl rfl (.inl ⟨rfl, rfl⟩) (.inr rfl) (by omega) (by rw [show lettersL.length = 20 by decide]; omega)) rfl rfl rfl ?_
                  refine ow_y (y_assign rfl) rfl rfl rfl ?_
                  refine ow_nil ?_
                  refine cw_regseq ?_
                  refine ow_y (y_assign rfl) rfl rfl rfl ?_
                  refine ow_nil ?_
                  refine cw_regseq ?_
                  refine ow_y (y_assign rfl) rfl rfl rfl ?_
                  refine ow_nil ?_
                  refine cw_seq ?_
                  refine cw_regseq ?_
                  refine ow_y (y_assign rfl) rfl rfl rfl ?_
                  refine ow_nil ?_
                  refine cw_block ?_
                  refine cw_loop (α := Nat × List UInt8 × List UInt8) (fun x => [(0, .int .i64 (m : Int)), (1, .int .i64 (f : Int)), (2, .int .i64 (g : Int)), (3, .int .i64 (l : Int)), (9, .bool true), (10, str (nameL l)), (11, str x.2.1), (12, str x.2.2), (13, .int .i64 (x.1 : Int))]) (fun x => []) (fun x => x.1 ≤ m ∧ x.2.1 = cat (twoF f g l) x.1 ∧ x.2.2 = cat (oneF f l) x.1) (fun x => m - x.1) (0, [], []) ?_ (by repeat (first | exact EnvLe.nil _ | refine EnvLe.cons rfl ?_)) (by repeat (first | exact Split.nil | (apply Split.cons; · repeat (first | exact Pick.here | apply Pick.there)) | exact Split.whole _ | exact Split.front _ _ rfl | exact Split.back _ _ rfl | exact Split.app_nil _ | apply Split.skip)) ?_
                  · exact ⟨Nat.zero_le _, rfl, rfl⟩
                  · rintro ⟨k, sa, sb⟩ ⟨hk, hsa, hsb⟩
                    simp only at hk hsa hsb
                    have hol : sa.length ≤ 48 * k := by rw [hsa]; exact twoF_len f g l k
                    have hol2 : sb.length ≤ 48 * k := by rw [hsb]; exact oneF_len f l k
                    refine cw_seq ?_
                    refine cw_regseq ?_
                    refine ow_y (y_move rfl) rfl rfl rfl ?_
                    refine ow_y (y_move rfl) rfl rfl rfl ?_
                    refine ow_cmp rfl rfl rfl rfl rfl (fun h54 => ?_) (fun h54 => ?_)
                    · simp only [cmpP] at h54
                      refine ow_nil ?_
                      refine cw_if_t rfl ?_
                      refine cw_skip ?_
                      repeat with_reducible first | refine thenQ_ret ?_ | refine thenQ_normal ?_ | refine thenQ_exit ?_ | refine blockQ_ret ?_ | refine blockQ_normal ?_ | refine blockQ_exit_same ?_ | refine blockQ_exit_ne rfl ?_
                      refine cw_seq ?_
                      refine cw_block ?_
                      refine cw_seq ?_
                      refine cw_regseq ?_
                      refine ow_y (y_move rfl) rfl rfl rfl ?_
                      refine ow_y (y_move rfl) rfl rfl rfl ?_
                      refine ow_cmp rfl rfl rfl rfl rfl (fun h59 => ?_) (fun h59 => ?_)
                      · simp only [cmpP] at h59
                        refine ow_nil ?_
                        refine cw_if_t rfl ?_
                        refine cw_regseq ?_
                        refine ow_y (y_move rfl) rfl rfl rfl ?_
                        refine ow_y (y_move rfl) rfl rfl rfl ?_
                        refine ow_y (y_concat rfl rfl (by first | omega | (simp; omega) | (simp only [List.length_append, List.length_cons, List.length_nil]; omega))) rfl rfl rfl ?_
                        refine ow_y (y_concat rfl rfl (by first | omega | (simp; omega) | (simp only [List.length_append, List.length_cons, List.length_nil]; omega))) rfl rfl rfl ?_
                        refine ow_y (y_assign rfl) rfl rfl rfl ?_
                        refine ow_nil ?_
                        refine cw_region ?_
                        refine ow_y (y_move rfl) rfl rfl rfl ?_
                        refine ow_y (y_move rfl) rfl rfl rfl ?_
                        refine ow_y (y_concat rfl rfl (by first | omega | (simp; omega) | (simp only [List.length_append, List.length_cons, List.length_nil]; omega))) rfl rfl rfl ?_
                        refine ow_y (y_concat rfl rfl (by first | omega | (simp; omega) | (simp only [List.length_append, List.length_cons, List.length_nil]; omega))) rfl rfl rfl ?_
                        refine ow_y (y_assign rfl) rfl rfl rfl ?_
                        refine ow_nil ?_
                        repeat with_reducible first | refine thenQ_ret ?_ | refine thenQ_normal ?_ | refine thenQ_exit ?_ | refine blockQ_ret ?_ | refine blockQ_normal ?_ | refine blockQ_exit_same ?_ | refine blockQ_exit_ne rfl ?_
                        refine cw_seq ?_
                        refine cw_regseq ?_
                        refine ow_y (y_move rfl) rfl rfl rfl ?_
                        refine ow_y (y_move rfl) rfl rfl rfl ?_
                        refine ow_cmp rfl rfl rfl rfl rfl (fun h70 => ?_) (fun h70 => ?_)
                        · simp only [cmpP] at h70
                          omega
                        · simp only [cmpP] at h70
                          refine ow_nil ?_
                          refine cw_if_f rfl ?_
                          refine cw_skip ?_
                          repeat with_reducible first | refine thenQ_ret ?_ | refine thenQ_normal ?_ | refine thenQ_exit ?_ | refine blockQ_ret ?_ | refine blockQ_normal ?_ | refine blockQ_exit_same ?_ | refine blockQ_exit_ne rfl ?_
                          refine cw_regseq ?_
                          refine ow_y (y_move rfl) rfl rfl rfl ?_
                          refine ow_y (y_concat rfl rfl (by first | omega | (simp; omega) | (simp only [List.length_append, List.length_cons, List.length_nil]; omega))) rfl rfl rfl ?_
                          refine ow_y (y_assign rfl) rfl rfl rfl ?_
                          refine ow_nil ?_
                          refine cw_region ?_
                          refine ow_y (y_move rfl) rfl rfl rfl ?_
                          refine ow_y (y_concat rfl rfl (by first | omega | (simp; omega) | (simp only [List.length_append, List.length_cons, List.length_nil]; omega))) rfl rfl rfl ?_
                          refine ow_y (y_assign rfl) rfl rfl rfl ?_
                          refine ow_nil ?_
                          repeat with_reducible first | refine thenQ_ret ?_ | refine thenQ_normal ?_ | refine thenQ_exit ?_ | refine blockQ_ret ?_ | refine blockQ_normal ?_ | refine blockQ_exit_same ?_ | refine blockQ_exit_ne rfl ?_
                          refine cw_region ?_
                          refine ow_y (y_move rfl) rfl rfl rfl ?_
                          refine ow_y (y_add64 rfl rfl (by omega)) rfl rfl rfl ?_
                          refine ow_y (y_assign rfl) rfl rfl rfl ?_
                          refine ow_nil ?_
                          repeat with_reducible first | refine thenQ_ret ?_ | refine thenQ_normal ?_ | refine thenQ_exit ?_ | refine blockQ_ret ?_ | refine blockQ_normal ?_ | refine blockQ_exit_same ?_ | refine blockQ_exit_ne rfl ?_
                          refine ⟨(k + 1, sa ++ nameL l ++ [58, 32] ++ [110, 111, 112, 10], sb ++ nameL l ++ [58, 32] ++ [110, 111, 112, 10]), _, ?_, ?_, (by repeat (first | exact EnvLe.nil _ | refine EnvLe.cons rfl ?_)), (by repeat (first | exact Split.nil | (apply Split.cons; · repeat (first | exact Pick.here | apply Pick.there)) | exact Split.whole _ | exact Split.front _ _ rfl | exact Split.back _ _ rfl | exact Split.app_nil _ | apply Split.skip))⟩
                          · have q1 : k = f := by omega
                            have q2 : ¬ k = g := by omega
                            refine ⟨by omega, ?_, ?_⟩
                            · rw [cat, twoF, if_pos q1, if_neg q2, hsa]; simp [nopL]
                            · rw [cat, oneF, if_pos q1, hsb]; simp [nopL]
                          · simp only; omega
                      · simp only [cmpP] at h59
                        refine ow_nil ?_
                        refine cw_if_f rfl ?_
                        refine cw_skip ?_
                        repeat with_reducible first | refine thenQ_ret ?_ | refine thenQ_normal ?_ | refine thenQ_exit ?_ | refine blockQ_ret ?_ | refine blockQ_normal ?_ | refine blockQ_exit_same ?_ | refine blockQ_exit_ne rfl ?_
                        refine cw_seq ?_
                        refine cw_regseq ?_
                        refine ow_y (y_move rfl) rfl rfl rfl ?_
                        refine ow_y (y_move rfl) rfl rfl rfl ?_
                        refine ow_cmp rfl rfl rfl rfl rfl (fun h70 => ?_) (fun h70 => ?_)
                        · simp only [cmpP] at h70
                          refine ow_nil ?_
                          refine cw_if_t rfl ?_
                          refine cw_region ?_
                          refine ow_y (y_move rfl) rfl rfl rfl ?_
                          refine ow_y (y_move rfl) rfl rfl rfl ?_
                          refine ow_y (y_concat rfl rfl (by first | omega | (simp; omega) | (simp only [List.length_append, List.length_cons, List.length_nil]; omega))) rfl rfl rfl ?_
                          refine ow_y (y_concat rfl rfl (by first | omega | (simp; omega) | (simp only [List.length_append, List.length_cons, List.length_nil]; omega))) rfl rfl rfl ?_
                          refine ow_y (y_assign rfl) rfl rfl rfl ?_
                          refine ow_nil ?_
                          repeat with_reducible first | refine thenQ_ret ?_ | refine thenQ_normal ?_ | refine thenQ_exit ?_ | refine blockQ_ret ?_ | refine blockQ_normal ?_ | refine blockQ_exit_same ?_ | refine blockQ_exit_ne rfl ?_
                          refine cw_regseq ?_
                          refine ow_y (y_move rfl) rfl rfl rfl ?_
                          refine ow_y (y_concat rfl rfl (by first | omega | (simp; omega) | (simp only [List.length_append, List.length_cons, List.length_nil]; omega))) rfl rfl rfl ?_
                          refine ow_y (y_assign rfl) rfl rfl rfl ?_
                          refine ow_nil ?_
                          refine cw_region ?_
                          refine ow_y (y_move rfl) rfl rfl rfl ?_
                          refine ow_y (y_concat rfl rfl (by first | omega | (simp; omega) | (simp only [List.length_append, List.length_cons, List.length_nil]; omega))) rfl rfl rfl ?_
                          refine ow_y (y_assign rfl) rfl rfl rfl ?_
                          refine ow_nil ?_
                          repeat with_reducible first | refine thenQ_ret ?_ | refine thenQ_normal ?_ | refine thenQ_exit ?_ | refine blockQ_ret ?_ | refine blockQ_normal ?_ | refine blockQ_exit_same ?_ | refine blockQ_exit_ne rfl ?_
                          refine cw_region ?_
                          refine ow_y (y_move rfl) rfl rfl rfl ?_
                          refine ow_y (y_add64 rfl rfl (by omega)) rfl rfl rfl ?_
                          refine ow_y (y_assign rfl) rfl rfl rfl ?_
                          refine ow_nil ?_
                          repeat with_reducible first | refine thenQ_ret ?_ | refine thenQ_normal ?_ | refine thenQ_exit ?_ | refine blockQ_ret ?_ | refine blockQ_normal ?_ | refine blockQ_exit_same ?_ | refine blockQ_exit_ne rfl ?_
                          refine ⟨(k + 1, sa ++ nameL l ++ [58, 32] ++ [110, 111, 112, 10], sb ++ [110, 111, 112, 10]), _, ?_, ?_, (by repeat (first | exact EnvLe.nil _ | refine EnvLe.cons rfl ?_)), (by repeat (first | exact Split.nil | (apply Split.cons; · repeat (first | exact Pick.here | apply Pick.there)) | exact Split.whole _ | exact Split.front _ _ rfl | exact Split.back _ _ rfl | exact Split.app_nil _ | apply Split.skip))⟩
                          · have q1 : ¬ k = f := by omega
                            have q2 : k = g := by omega
                            refine ⟨by omega, ?_, ?_⟩
                            · rw [cat, twoF, if_neg q1, if_pos q2, hsa]; simp [nopL]
                            · rw [cat, oneF, if_neg q1, hsb]; simp [nopL]
                          · simp only; omega
                        · simp only [cmpP] at h70
                          refine ow_nil ?_
                          refine cw_if_f rfl ?_
                          refine cw_skip ?_
                          repeat with_reducible first | refine thenQ_ret ?_ | refine thenQ_normal ?_ | refine thenQ_exit ?_ | refine blockQ_ret ?_ | refine blockQ_normal ?_ | refine blockQ_exit_same ?_ | refine blockQ_exit_ne rfl ?_
                          refine cw_regseq ?_
                          refine ow_y (y_move rfl) rfl rfl rfl ?_
                          refine ow_y (y_concat rfl rfl (by first | omega | (simp; omega) | (simp only [List.length_append, List.length_cons, List.length_nil]; omega))) rfl rfl rfl ?_
                          refine ow_y (y_assign rfl) rfl rfl rfl ?_
                          refine ow_nil ?_
                          refine cw_region ?_
                          refine ow_y (y_move rfl) rfl rfl rfl ?_
                          refine ow_y (y_concat rfl rfl (by first | omega | (simp; omega) | (simp only [List.length_append, List.length_cons, List.length_nil]; omega))) rfl rfl rfl ?_
                          refine ow_y (y_assign rfl) rfl rfl rfl ?_
                          refine ow_nil ?_
                          repeat with_reducible first | refine thenQ_ret ?_ | refine thenQ_normal ?_ | refine thenQ_exit ?_ | refine blockQ_ret ?_ | refine blockQ_normal ?_ | refine blockQ_exit_same ?_ | refine blockQ_exit_ne rfl ?_
                          refine cw_region ?_
                          refine ow_y (y_move rfl) rfl rfl rfl ?_
                          refine ow_y (y_add64 rfl rfl (by omega)) rfl rfl rfl ?_
                          refine ow_y (y_assign rfl) rfl rfl rfl ?_
                          refine ow_nil ?_
                          repeat with_reducible first | refine thenQ_ret ?_ | refine thenQ_normal ?_ | refine thenQ_exit ?_ | refine blockQ_ret ?_ | refine blockQ_normal ?_ | refine blockQ_exit_same ?_ | refine blockQ_exit_ne rfl ?_
                          refine ⟨(k + 1, sa ++ [110, 111, 112, 10], sb ++ [110, 111, 112, 10]), _, ?_, ?_, (by repeat (first | exact EnvLe.nil _ | refine EnvLe.cons rfl ?_)), (by repeat (first | exact Split.nil | (apply Split.cons; · repeat (first | exact Pick.here | apply Pick.there)) | exact Split.whole _ | exact Split.front _ _ rfl | exact Split.back _ _ rfl | exact Split.app_nil _ | apply Split.skip))⟩
                          · have q1 : ¬ k = f := by omega
                            have q2 : ¬ k = g := by omega
                            refine ⟨by omega, ?_, ?_⟩
                            · rw [cat, twoF, if_neg q1, if_neg q2, hsa]; simp [nopL]
                            · rw [cat, oneF, if_neg q1, hsb]; simp [nopL]
                          · simp only; omega
                    · simp only [cmpP] at h54
                      refine ow_nil ?_
                      refine cw_if_f rfl ?_
                      refine cw_exit ?_
                      repeat with_reducible first | refine thenQ_ret ?_ | refine thenQ_normal ?_ | refine thenQ_exit ?_ | refine blockQ_ret ?_ | refine blockQ_normal ?_ | refine blockQ_exit_same ?_ | refine blockQ_exit_ne rfl ?_
                      refine cw_regseq ?_
                      have hkm : k = m := by omega
                      obtain ⟨n1, e1, hr1, hA1, hB1⟩ := two_res (many := m) (first := f) (second := g) (long := l) (by omega) (by omega) (by omega) (by omega) (by omega)
                      obtain ⟨ws, n2, e2, hr2, hA2, hB2⟩ := one_res (many := m) (first := f) (long := l) (by omega) (by omega) (by omega) (by omega)
                      rw [← hkm, ← hsa] at hr1
                      rw [← hkm, ← hsb] at hr2
                      refine ow_y (y_move rfl) rfl rfl rfl ?_
                      refine ow_call rfl rfl (by rfl) ct_12 (asm_f 0 sa hR.base) ?_
                      rintro _ _ ⟨A1, rfl, hp1⟩
                      rw [AsmPost, hr1] at hp1
                      obtain ⟨sv1, rfl, hown1⟩ := hp1
                      obtain ⟨ad1, c1, rfl⟩ := own_slice hown1
                      refine ow_y (y_move rfl) rfl rfl rfl ?_
                      refine ow_y (y_extract rfl rfl) rfl rfl rfl ?_
                      refine ow_y (y_extract rfl rfl) rfl rfl rfl ?_
                      refine ow_y (y_extract rfl rfl) rfl rfl rfl ?_
                      refine ow_y (y_assign rfl) rfl rfl rfl ?_
                      refine ow_y (y_assign rfl) rfl rfl rfl ?_
                      refine ow_y (y_assign rfl) rfl rfl rfl ?_
                      refine ow_nil ?_
                      refine cw_regseq ?_
                      refine ow_y (y_move rfl) rfl rfl rfl ?_
                      refine ow_call rfl rfl (by rfl) ct_12 (asm_f 0 sb hR.base) ?_
                      rintro _ _ ⟨A2, rfl, hp2⟩
                      rw [AsmPost, hr2] at hp2
                      obtain ⟨sv2, rfl, hown2⟩ := hp2
                      obtain ⟨ad2, c2, rfl⟩ := own_slice hown2
                      refine ow_y (y_move rfl) rfl rfl rfl ?_
                      refine ow_y (y_extract rfl rfl) rfl rfl rfl ?_
                      refine ow_y (y_extract rfl rfl) rfl rfl rfl ?_
                      refine ow_y (y_extract rfl rfl) rfl rfl rfl ?_
                      refine ow_y (y_assign rfl) rfl rfl rfl ?_
                      refine ow_y (y_assign rfl) rfl rfl rfl ?_
                      refine ow_y (y_assign rfl) rfl rfl rfl ?_
                      refine ow_nil ?_
                      refine cw_seq ?_
                      refine cw_regseq ?_
                      refine ow_y (y_move rfl) rfl rfl rfl ?_
                      refine ow_cmp rfl rfl rfl rfl rfl (fun h92 => ?_) (fun h92 => ?_)
                      · simp only [cmpP] at h92
                        refine ow_nil ?_
                        refine cw_if_t rfl ?_
                        refine cw_regseq ?_
                        obtain ⟨rfl, rfl⟩ := hA1 (by omega)
                        obtain ⟨rfl, rfl⟩ := hA2 (by omega)
                        refine ow_y (y_move rfl) rfl rfl rfl ?_
                        refine ow_y (y_move rfl) rfl rfl rfl ?_
                        refine ow_y (y_move rfl) rfl rfl rfl ?_
                        refine ow_cmp_t rfl rfl rfl rfl rfl (by simp only [cmpP]; try omega) ?_
                        refine ow_y (y_pick_t rfl rfl) rfl rfl rfl ?_
                        refine ow_y (y_move rfl) rfl rfl rfl ?_
                        refine ow_y (y_move rfl) rfl rfl rfl ?_
                        refine ow_y (y_move rfl) rfl rfl rfl ?_
                        refine ow_y (y_add64 rfl rfl (by omega)) rfl rfl rfl ?_
                        refine ow_cmp_t rfl rfl rfl rfl rfl (by simp only [cmpP]; try omega) ?_
                        refine ow_y (y_pick_t rfl rfl) rfl rfl rfl ?_
                        refine ow_y (y_move rfl) rfl rfl rfl ?_
                        refine ow_y (y_move rfl) rfl rfl rfl ?_
                        refine ow_cmp_t rfl rfl rfl rfl rfl (by simp only [cmpP]; try omega) ?_
                        refine ow_y (y_pick_t rfl rfl) rfl rfl rfl ?_
                        refine ow_y (y_move rfl) rfl rfl rfl ?_
                        refine ow_y (y_move rfl) rfl rfl rfl ?_
                        refine ow_y (y_move rfl) rfl rfl rfl ?_
                        refine ow_y (y_add64 rfl rfl (by omega)) rfl rfl rfl ?_
                        refine ow_cmp_t rfl rfl rfl rfl rfl (by simp only [cmpP]; try omega) ?_
                        refine ow_y (y_pick_t rfl rfl) rfl rfl rfl ?_
                        refine ow_y (y_assign rfl) rfl rfl rfl ?_
                        refine ow_nil ?_
                        refine cw_ret ?_
                        repeat with_reducible first | refine thenQ_ret ?_ | refine thenQ_normal ?_ | refine thenQ_exit ?_ | refine blockQ_ret ?_ | refine blockQ_normal ?_ | refine blockQ_exit_same ?_ | refine blockQ_exit_ne rfl ?_
                        refine body_ret (.one (.tmp rfl)) ?_
                        rfl
                      · simp only [cmpP] at h92
                        refine ow_nil ?_
                        refine cw_if_f rfl ?_
                        refine cw_skip ?_
                        repeat with_reducible first | refine thenQ_ret ?_ | refine thenQ_normal ?_ | refine thenQ_exit ?_ | refine blockQ_ret ?_ | refine blockQ_normal ?_ | refine blockQ_exit_same ?_ | refine blockQ_exit_ne rfl ?_
                        refine cw_regseq ?_
                        obtain ⟨rfl, rfl⟩ := hB1 (by omega)
                        obtain ⟨hwl, rfl⟩ := hB2 (by omega)
                        refine ow_y (y_move rfl) rfl rfl rfl ?_
                        refine ow_y (y_move rfl) rfl rfl rfl ?_
                        refine ow_y (y_move rfl) rfl rfl rfl ?_
                        refine ow_cmp_t rfl rfl rfl rfl rfl (by simp only [cmpP]; try omega) ?_
                        refine ow_y (y_pick_t rfl rfl) rfl rfl rfl ?_
                        refine ow_y (y_move rfl) rfl rfl rfl ?_
                        refine ow_y (y_move rfl) rfl rfl rfl ?_
                        refine ow_y (y_move rfl) rfl rfl rfl ?_
                        refine ow_y (y_add64 rfl rfl (by omega)) rfl rfl rfl ?_
                        refine ow_cmp_t rfl rfl rfl rfl rfl (by simp only [cmpP]; try omega) ?_
                        refine ow_y (y_pick_t rfl rfl) rfl rfl rfl ?_
                        refine ow_y (y_move rfl) rfl rfl rfl ?_
                        refine ow_y (y_move rfl) rfl rfl rfl ?_
                        refine ow_cmp_t rfl rfl rfl rfl rfl (by simp only [cmpP]; try omega) ?_
                        refine ow_y (y_pick_t rfl rfl) rfl rfl rfl ?_
                        refine ow_y (y_move rfl) rfl rfl rfl ?_
                        refine ow_y (y_move rfl) rfl rfl rfl ?_
                        refine ow_y (y_lenSl rfl el_22) rfl rfl rfl ?_
                        refine ow_y (y_move rfl) rfl rfl rfl ?_
                        refine ow_cmp_t rfl rfl rfl rfl rfl (by simp only [cmpP]; try omega) ?_
                        refine ow_y (y_pick_t rfl rfl) rfl rfl rfl ?_
                        refine ow_y (y_assign rfl) rfl rfl rfl ?_
                        refine ow_nil ?_
                        refine cw_ret ?_
                        repeat with_reducible first | refine thenQ_ret ?_ | refine thenQ_normal ?_ | refine thenQ_exit ?_ | refine blockQ_ret ?_ | refine blockQ_normal ?_ | refine blockQ_exit_same ?_ | refine blockQ_exit_ne rfl ?_
                        refine body_ret (.one (.tmp rfl)) ?_
                        rfl

end Go.Proofs.YtgppllppddaodaaGreatDoor

/-
  The walk of AsmBlanks.
-/
namespace Go.Proofs.YtgppllppddaodaaGreatDoor
open Sl Am
open Go
theorem ru_30_9 : rowU8 Tryz.prog 9 30 5 = true := by kernel_rfl
theorem rw_30 : rowT Tryz.prog 30 = some (5, 1, 1) := by kernel_rfl
def shv (which : Int) (i : Nat) : Int := which.fdiv (2 ^ (min ((i : Int).tmod 30).toNat 64))
def bitv (which : Int) (i : Nat) : Int := IntKind.i64.wrap ((BitVec.ofInt 64 (shv which i) &&& BitVec.ofInt 64 1).toNat : Int)
def wdAt (which : Int) (i : Nat) : Bool := decide (bitv which i = 0)
theorem tmod30 (i : Nat) : 0 ≤ (i : Int).tmod 30 := Int.tmod_nonneg 30 (Int.natCast_nonneg i)
theorem run_rem30 (t : TypeId) (x : Int) (P : Program) (w : World) : (binOp .rem t (.int .i64 x) (.int .i64 30)).run P w = .ok (.int .i64 (x.tmod 30)) w := by
  simp only [binOp, Op.intDiv]; rfl
theorem run_shrW (t : TypeId) (which : Int) (i : Nat) (P : Program) (w : World) : (binOp .shr t (.int .i64 which) (.int .i64 ((i : Int).tmod 30))).run P w = .ok (.int .i64 (shv which i)) w := by
  have h := tmod30 i
  simp only [binOp, Op.shift]
  rw [if_neg (by omega)]; rfl
theorem run_bit (t : TypeId) (which : Int) (i : Nat) (P : Program) (w : World) : (binOp .and t (.int .i64 (shv which i)) (.int .i64 1)).run P w = .ok (.int .i64 (bitv which i)) w := by
  simp only [binOp, Op.intBits]; rfl
set_option maxRecDepth 100000 in
theorem signs_eq (c : UInt8) : isSign c = (decide (c.toNat = 44) || (decide (c.toNat = 58) || (decide (c.toNat = 91) || (decide (c.toNat = 93) || decide (c.toNat = 43))))) := by
  have hb : ∀ n, n < 256 → isSign (UInt8.ofNat n) = (decide (n = 44) || (decide (n = 58) || (decide (n = 91) || (decide (n = 93) || decide (n = 43))))) := by decide
  have h := hb c.toNat c.toNat_lt
  rwa [UInt8.ofNat_toNat] at h
theorem blF_at {wd : Nat → Bool} {src : List UInt8} {i : Nat} {c : UInt8} {rem : Bool} (h : src[i]? = some c) : blF wd i rem (src.drop i) =
    (if c.toNat = 10 then remT else []) ++ ((if (!(if c.toNat = 59 then true else if c.toNat = 10 then false else rem) && isSign c && wd i) then [32, 32] else []) ++ ([c] ++ ((if (!(if c.toNat = 59 then true else if c.toNat = 10 then false else rem) && isSign c && wd i) then [32] else []) ++ blF wd (i + 1) (if c.toNat = 59 then true else if c.toNat = 10 then false else rem) (src.drop (i + 1))))) := by
  have hlt : i < src.length := by
    rcases Nat.lt_or_ge i src.length with h' | h'
    · exact h'
    · simp [List.getElem?_eq_none h'] at h
  rw [List.getElem?_eq_getElem hlt] at h
  rw [List.drop_eq_getElem_cons hlt, Option.some.inj h, blF]
theorem readGo_count : ∀ (ls : List (List UInt8)) (k : Nat) (p q : Pg), readGo k ls p = .inl q → q.items.length ≤ p.items.length + ls.length
  | [], k, p, q, h => by rw [readGo] at h; cases h; simp
  | s :: ls, k, p, q, h => by
    rw [readGo] at h
    split at h
    · cases h
    · simp only at h
      split at h
      · cases h
      · split at h
        · cases h
        · rename_i ts _ _ _
          have h3 := readGo_count ls _ _ q h
          have h2 : ∀ (p : Pg) (l : List UInt8) (n : Nat) (it : Option Am.Item), (addItem (addLabel p l n) it).items.length ≤ p.items.length + 1 := by
            intro p l n it
            have h3 : (addLabel p l n).items = p.items := by
              unfold addLabel
              split
              · rfl
              · split
                · split <;> rfl
                · rfl
            cases it with
            | none => simp [addItem, h3]
            | some i => simp [addItem, h3]
          have h4 := h2 p (line ⟨ts, false, false⟩ ((k + 1 : Nat) : Int)).1 (k + 1) (line ⟨ts, false, false⟩ ((k + 1 : Nat) : Int)).2.1
          simp only [List.length_cons]
          omega
theorem wordsGo_count {base : Int} {p : Pg} : ∀ (l : List Am.Item) (ws us : List Int), wordsGo base p l ws = .inl us → us.length = ws.length + l.length
  | [], ws, us, h => by rw [wordsGo] at h; cases h; simp
  | it :: l, ws, us, h => by
    rw [wordsGo] at h
    split at h
    · cases h
    · have := wordsGo_count l _ us h
      simp only [List.length_append, List.length_cons, List.length_nil] at this ⊢; omega
theorem assemble_count (base : Int) (src : List UInt8) : (assemble base src).1.length ≤ 4001 := by
  unfold assemble
  split
  · simp
  · split
    · simp
    · rename_i hl
      cases hr : read src with
      | inr q => simp
      | inl p =>
        simp only
        split
        · simp
        · cases hw : wordsGo base p p.items [] with
          | inr n => simp
          | inl ws =>
            have h1 := wordsGo_count _ _ _ hw
            have h2 := readGo_count _ _ _ _ hr
            have h3 := splitC_length 10 src
            have h4 : src.count 10 ≤ src.length := List.count_le_length
            simp only [List.length_nil] at h1 h2 ⊢
            omega
theorem own_bytes {A : Heap} {sv : Value} {l : List UInt8} (h : OwnS 5 1 sv A l.length (byteV l)) (hne : 0 < l.length) : ∃ (b cap : Nat) (cells : List Value), sv = .slice (some ⟨b, 0, none⟩) l.length cap ∧ A = [(b, cb cells 5)] ∧ ∀ (j : Nat) c, l[j]? = some c → cells[0 + j]? = some (.int .u8 c.toNat) := by
  obtain ⟨b, cap, cells, h1, h2, h3, h4⟩ := own_row h hne
  refine ⟨b, cap, cells, h1, h2, fun j c hj => ?_⟩
  have hjl : j < l.length := by
    rcases Nat.lt_or_ge j l.length with h' | h'
    · exact h'
    · simp [List.getElem?_eq_none h'] at hj
  rw [Nat.mul_one] at h4
  have := congrArg (fun q => q[j]?) h4
  simp only [List.getElem?_take, hjl, if_true, byteV, List.getElem?_map, hj] at this
  rw [Nat.zero_add]; exact this
theorem byteV_app (a b : List UInt8) : byteV a ++ byteV b = byteV (a ++ b) := by simp [byteV]

set_option maxRecDepth 100000 in
set_option maxHeartbeats 1600000 in
theorem blanks_w : ∀ (R : Heap) (base which : Int) (src : List UInt8), GlobP R → FnW Tryz.prog 4 [.int .i64 base, str src, .int .i64 which] R [] fun v _ => v = .bool true := by
  intro R base which src hR
  refine fn_of_body Tryz.func4 rfl Tryz.ntmps4 Tryz.results4 (by rfl) ?_
  refine cw_regseq ?_
  refine ow_y (y_assign rfl) rfl rfl rfl ?_
  refine ow_nil ?_
  refine cw_regseq ?_
  refine ow_call rfl rfl (by rfl) ct_10 (awake_c R _ hR) ?_
  · rintro _ _ ⟨rfl, rfl⟩
    refine ow_y (y_assign rfl) rfl rfl rfl ?_
    refine ow_nil ?_
    refine cw_regseq ?_
    refine ow_y (y_move rfl) rfl rfl rfl ?_
    refine ow_y (y_move rfl) rfl rfl rfl ?_
    refine ow_call rfl rfl (by rfl) ct_12 (asm_f base src hR.base) ?_
    rintro _ _ ⟨A, rfl, hp⟩
    obtain ⟨sv, rfl, hown⟩ := hp
    rw [List.append_nil]
    refine ow_y (y_move rfl) rfl rfl rfl ?_
    refine ow_y (y_extract rfl rfl) rfl rfl rfl ?_
    refine ow_y (y_extract rfl rfl) rfl rfl rfl ?_
    refine ow_y (y_extract rfl rfl) rfl rfl rfl ?_
    refine ow_y (y_assign rfl) rfl rfl rfl ?_
    refine ow_y (y_assign rfl) rfl rfl rfl ?_
    refine ow_y (y_assign rfl) rfl rfl rfl ?_
    refine ow_nil ?_
    refine cw_seq ?_
    refine cw_regseq ?_
    refine ow_y (y_move rfl) rfl rfl rfl ?_
    refine ow_cmp rfl rfl rfl rfl rfl (fun h29 => ?_) (fun h29 => ?_)
    · simp only [cmpP] at h29
      refine ow_y (y_move rfl) rfl rfl rfl ?_
      refine ow_skip rfl rfl rfl ?_
      refine ow_skip rfl rfl rfl ?_
      refine ow_skip rfl rfl rfl ?_
      refine ow_y (y_pick_t rfl rfl) rfl rfl rfl ?_
      refine ow_nil ?_
      refine cw_if_t rfl ?_
      refine cw_regseq ?_
      refine ow_y (y_move rfl) rfl rfl rfl ?_
      refine ow_y (y_assign rfl) rfl rfl rfl ?_
      refine ow_nil ?_
      refine cw_ret ?_
      repeat with_reducible first | refine thenQ_ret ?_ | refine thenQ_normal ?_ | refine thenQ_exit ?_ | refine blockQ_ret ?_ | refine blockQ_normal ?_ | refine blockQ_exit_same ?_ | refine blockQ_exit_ne rfl ?_
      refine body_ret (.one (.tmp rfl)) ?_
      rfl
    · simp only [cmpP] at h29
      refine ow_y (y_move rfl) rfl rfl rfl ?_
      refine ow_y (y_move rfl) rfl rfl rfl ?_
      refine ow_y (y_lenStr rfl st_9) rfl rfl rfl ?_
      refine ow_cmp rfl rfl rfl rfl rfl (fun h33 => ?_) (fun h33 => ?_)
      · simp only [cmpP] at h33
        refine ow_y (y_pick_f rfl rfl) rfl rfl rfl ?_
        refine ow_nil ?_
        refine cw_if_t rfl ?_
        refine cw_regseq ?_
        refine ow_y (y_move rfl) rfl rfl rfl ?_
        refine ow_y (y_assign rfl) rfl rfl rfl ?_
        refine ow_nil ?_
        refine cw_ret ?_
        repeat with_reducible first | refine thenQ_ret ?_ | refine thenQ_normal ?_ | refine thenQ_exit ?_ | refine blockQ_ret ?_ | refine blockQ_normal ?_ | refine blockQ_exit_same ?_ | refine blockQ_exit_ne rfl ?_
        refine body_ret (.one (.tmp rfl)) ?_
        rfl
      · simp only [cmpP] at h33
        refine ow_y (y_pick_f rfl rfl) rfl rfl rfl ?_
        refine ow_nil ?_
        refine cw_if_f rfl ?_
        refine cw_skip ?_
        repeat with_reducible first | refine thenQ_ret ?_ | refine thenQ_normal ?_ | refine thenQ_exit ?_ | refine blockQ_ret ?_ | refine blockQ_normal ?_ | refine blockQ_exit_same ?_ | refine blockQ_exit_ne rfl ?_
        refine cw_regseq ?_
        have he : (assemble base src).2.2 = 0 := by omega
        have hn0 := (assemble_ok he).1
        have hsl : src.length ≤ 500 := by omega
        refine ow_y (y_assign rfl) rfl rfl rfl ?_
        refine ow_nil ?_
        refine cw_regseq ?_
        refine ow_y (y_assign rfl) rfl rfl rfl ?_
        refine ow_nil ?_
        refine cw_seq ?_
        refine cw_regseq ?_
        refine ow_y (y_assign rfl) rfl rfl rfl ?_
        refine ow_nil ?_
        refine cw_block ?_
        refine cw_loop (α := Nat × List UInt8 × Bool × Value × Heap) (fun x => [(0, .int .i64 base), (1, str src), (2, .int .i64 which), (7, .bool true), (8, sv), (13, .int .i64 (x.1 : Int)), (11, x.2.2.2.1), (12, .bool x.2.2.1)]) (fun x => A ++ x.2.2.2.2) (fun x => x.1 ≤ src.length ∧ OwnS 5 1 x.2.2.2.1 x.2.2.2.2 x.2.1.length (byteV x.2.1) ∧ x.2.1 ++ blF (wdAt which) x.1 x.2.2.1 (src.drop x.1) = blF (wdAt which) 0 false src ∧ x.2.1.length ≤ 11 * x.1) (fun x => src.length - x.1) (0, [], false, .slice none 0 0, []) ?_ (by repeat (first | exact EnvLe.nil _ | refine EnvLe.cons rfl ?_)) (by repeat (first | exact Split.nil | (apply Split.cons; · repeat (first | exact Pick.here | apply Pick.there)) | exact Split.whole _ | exact Split.front _ _ rfl | exact Split.back _ _ rfl | exact Split.app_nil _ | apply Split.skip)) ?_
        · exact ⟨Nat.zero_le _, .nil, rfl, Nat.le_refl _⟩
        · rintro ⟨k, out, rem, svo, Ao⟩ ⟨hk, howno, hfin, hol⟩
          simp only at hk howno hfin hol
          refine cw_seq ?_
          refine cw_regseq ?_
          refine ow_y (y_move rfl) rfl rfl rfl ?_
          refine ow_y (y_move rfl) rfl rfl rfl ?_
          refine ow_y (y_lenStr rfl st_9) rfl rfl rfl ?_
          refine ow_cmp rfl rfl rfl rfl rfl (fun h39 => ?_) (fun h39 => ?_)
          · simp only [cmpP] at h39
            refine ow_nil ?_
            refine cw_if_t rfl ?_
            refine cw_skip ?_
            repeat with_reducible first | refine thenQ_ret ?_ | refine thenQ_normal ?_ | refine thenQ_exit ?_ | refine blockQ_ret ?_ | refine blockQ_normal ?_ | refine blockQ_exit_same ?_ | refine blockQ_exit_ne rfl ?_
            refine cw_seq ?_
            refine cw_block ?_
            refine cw_regseq ?_
            refine ow_y (y_move rfl) rfl rfl rfl ?_
            refine ow_y (y_move rfl) rfl rfl rfl ?_
            obtain ⟨c, hc⟩ : ∃ c, src[k]? = some c := ⟨_, List.getElem?_eq_getElem (by omega)⟩
            refine ow_y (y_idxStr rfl rfl st_9 hc) rfl rfl rfl ?_
            refine ow_y (y_assign rfl) rfl rfl rfl ?_
            refine ow_nil ?_
            refine cw_seq_cut (α := List UInt8 × Bool × Value × Heap) (fun x => [(0, .int .i64 base), (1, str src), (2, .int .i64 which), (7, .bool true), (8, sv), (13, .int .i64 (k : Int)), (14, .int .u8 (c.toNat : Int)), (11, x.2.2.1), (12, .bool x.2.1)]) (fun x => A ++ x.2.2.2) (fun x => x.1 = out ++ (if c.toNat = 10 then remT else []) ∧ x.2.1 = (if c.toNat = 10 then false else rem) ∧ OwnS 5 1 x.2.2.1 x.2.2.2 x.1.length (byteV x.1)) ?_ ?_
            · refine cw_regseq ?_
              refine ow_y (y_move rfl) rfl rfl rfl ?_
              refine ow_cmp rfl rfl rfl rfl rfl (fun h46 => ?_) (fun h46 => ?_)
              · simp only [cmpP] at h46
                refine ow_nil ?_
                refine cw_if_t rfl ?_
                refine cw_regseq ?_
                refine ow_y (y_assign rfl) rfl rfl rfl ?_
                refine ow_nil ?_
                refine cw_region ?_
                refine ow_y (y_move rfl) rfl rfl rfl ?_
                refine ow_appendStr' rfl rfl rfl rfl br_30 st_9 howno (Split.back _ _ rfl) (by simp only [List.length_cons, List.length_nil]; omega) (fun sv1 A1 hown1 => ?_)
                refine ow_y (y_assign rfl) rfl rfl rfl ?_
                refine ow_nil ?_
                repeat with_reducible first | refine thenQ_ret ?_ | refine thenQ_normal ?_ | refine thenQ_exit ?_ | refine blockQ_ret ?_ | refine blockQ_normal ?_ | refine blockQ_exit_same ?_ | refine blockQ_exit_ne rfl ?_
                refine ⟨(out ++ remT, false, sv1, A1), _, ?_, (by repeat (first | exact EnvLe.nil _ | refine EnvLe.cons rfl ?_)), (by repeat (first | exact Split.nil | (apply Split.cons; · repeat (first | exact Pick.here | apply Pick.there)) | exact Split.whole _ | exact Split.front _ _ rfl | exact Split.back _ _ rfl | exact Split.app_nil _ | apply Split.skip))⟩
                refine ⟨by rw [if_pos (by omega)], by rw [if_pos (by omega)], ?_⟩
                rw [byteV_app] at hown1
                rw [List.length_append]; exact hown1
              · simp only [cmpP] at h46
                refine ow_nil ?_
                refine cw_if_f rfl ?_
                refine cw_skip ?_
                repeat with_reducible first | refine thenQ_ret ?_ | refine thenQ_normal ?_ | refine thenQ_exit ?_ | refine blockQ_ret ?_ | refine blockQ_normal ?_ | refine blockQ_exit_same ?_ | refine blockQ_exit_ne rfl ?_
                refine ⟨(out, rem, svo, Ao), _, ?_, (by repeat (first | exact EnvLe.nil _ | refine EnvLe.cons rfl ?_)), (by repeat (first | exact Split.nil | (apply Split.cons; · repeat (first | exact Pick.here | apply Pick.there)) | exact Split.whole _ | exact Split.front _ _ rfl | exact Split.back _ _ rfl | exact Split.app_nil _ | apply Split.skip))⟩
                exact ⟨by rw [if_neg (by omega), List.append_nil], by rw [if_neg (by omega)], howno⟩
            · rintro ⟨out1, rem1, sva, Aa⟩ ⟨hout1, hrem1, howna⟩
              simp only at hout1 hrem1 howna
              have hol1 : out1.length ≤ 11 * k + 7 := by rw [hout1, List.length_append]; split <;> simp [remT] <;> omega
              refine cw_seq_cut (α := Bool) (fun x => [(0, .int .i64 base), (1, str src), (2, .int .i64 which), (7, .bool true), (8, sv), (13, .int .i64 (k : Int)), (14, .int .u8 (c.toNat : Int)), (11, sva), (12, .bool x)]) (fun x => A ++ Aa) (fun x => x = (if c.toNat = 59 then true else if c.toNat = 10 then false else rem)) ?_ ?_
              · refine cw_regseq ?_
                refine ow_y (y_move rfl) rfl rfl rfl ?_
                refine ow_cmp rfl rfl rfl rfl rfl (fun h50 => ?_) (fun h50 => ?_)
                · simp only [cmpP] at h50
                  refine ow_nil ?_
                  refine cw_if_t rfl ?_
                  refine cw_region ?_
                  refine ow_y (y_assign rfl) rfl rfl rfl ?_
                  refine ow_nil ?_
                  repeat with_reducible first | refine thenQ_ret ?_ | refine thenQ_normal ?_ | refine thenQ_exit ?_ | refine blockQ_ret ?_ | refine blockQ_normal ?_ | refine blockQ_exit_same ?_ | refine blockQ_exit_ne rfl ?_
                  refine ⟨true, _, ?_, (by repeat (first | exact EnvLe.nil _ | refine EnvLe.cons rfl ?_)), (by repeat (first | exact Split.nil | (apply Split.cons; · repeat (first | exact Pick.here | apply Pick.there)) | exact Split.whole _ | exact Split.front _ _ rfl | exact Split.back _ _ rfl | exact Split.app_nil _ | apply Split.skip))⟩
                  rw [if_pos (by omega)]
                · simp only [cmpP] at h50
                  refine ow_nil ?_
                  refine cw_if_f rfl ?_
                  refine cw_skip ?_
                  repeat with_reducible first | refine thenQ_ret ?_ | refine thenQ_normal ?_ | refine thenQ_exit ?_ | refine blockQ_ret ?_ | refine blockQ_normal ?_ | refine blockQ_exit_same ?_ | refine blockQ_exit_ne rfl ?_
                  refine ⟨rem1, _, ?_, (by repeat (first | exact EnvLe.nil _ | refine EnvLe.cons rfl ?_)), (by repeat (first | exact Split.nil | (apply Split.cons; · repeat (first | exact Pick.here | apply Pick.there)) | exact Split.whole _ | exact Split.front _ _ rfl | exact Split.back _ _ rfl | exact Split.app_nil _ | apply Split.skip))⟩
                  rw [if_neg (by omega)]; exact hrem1
              · intro rem2 hrem2
                refine cw_seq_cut (α := Bool) (fun x => [(0, .int .i64 base), (1, str src), (2, .int .i64 which), (7, .bool true), (8, sv), (13, .int .i64 (k : Int)), (14, .int .u8 (c.toNat : Int)), (11, sva), (12, .bool rem2), (15, .bool x)]) (fun x => A ++ Aa) (fun x => x = (!rem2 && isSign c && wdAt which k)) ?_ ?_
                · refine cw_region ?_
                  refine ow_y (y_move rfl) rfl rfl rfl ?_
                  refine ow_y (y_not rfl) rfl rfl rfl ?_
                  refine ow_y (y_move rfl) rfl rfl rfl ?_
                  refine ow_split (t := 53) rfl (fun hq1 => ?_) (fun hq1 => ?_)
                  · refine ow_y (y_move rfl) rfl rfl rfl ?_
                    refine ow_cmp rfl rfl rfl rfl rfl (fun h55 => ?_) (fun h55 => ?_)
                    · simp only [cmpP] at h55
                      refine ow_y (y_move rfl) rfl rfl rfl ?_
                      refine ow_skip rfl rfl rfl ?_
                      refine ow_skip rfl rfl rfl ?_
                      refine ow_y (y_pick_t rfl rfl) rfl rfl rfl ?_
                      refine ow_y (y_move rfl) rfl rfl rfl ?_
                      refine ow_skip rfl rfl rfl ?_
                      refine ow_skip rfl rfl rfl ?_
                      refine ow_y (y_pick_t rfl rfl) rfl rfl rfl ?_
                      refine ow_y (y_move rfl) rfl rfl rfl ?_
                      refine ow_skip rfl rfl rfl ?_
                      refine ow_skip rfl rfl rfl ?_
                      refine ow_y (y_pick_t rfl rfl) rfl rfl rfl ?_
                      refine ow_y (y_move rfl) rfl rfl rfl ?_
                      refine ow_skip rfl rfl rfl ?_
                      refine ow_skip rfl rfl rfl ?_
                      refine ow_y (y_pick_t rfl rfl) rfl rfl rfl ?_
                      refine ow_y (y_pick_t rfl rfl) rfl rfl rfl ?_
                      refine ow_y (y_move rfl) rfl rfl rfl ?_
                      refine ow_y (y_move rfl) rfl rfl rfl ?_
                      refine ow_y (y_move rfl) rfl rfl rfl ?_
                      refine ow_y (y_bin (v := .int .i64 ((k : Int).tmod 30)) rfl rfl (fun w => run_guard_int _ _ _ _ _ _ w) (fun w => run_rem30 _ _ _ w)) rfl rfl rfl ?_
                      refine ow_y (y_bin (v := .int .i64 (shv which k)) rfl rfl (fun w => run_guard_int _ _ _ _ _ _ w) (fun w => run_shrW _ _ _ _ w)) rfl rfl rfl ?_
                      refine ow_y (y_bin (v := .int .i64 (bitv which k)) rfl rfl (fun w => run_guard_int _ _ _ _ _ _ w) (fun w => run_bit _ _ _ _ w)) rfl rfl rfl ?_
                      refine ow_cmp rfl rfl rfl rfl rfl (fun h79 => ?_) (fun h79 => ?_)
                      · simp only [cmpP] at h79
                        refine ow_y (y_pick_t rfl rfl) rfl rfl rfl ?_
                        refine ow_y (y_assign rfl) rfl rfl rfl ?_
                        refine ow_nil ?_
                        repeat with_reducible first | refine thenQ_ret ?_ | refine thenQ_normal ?_ | refine thenQ_exit ?_ | refine blockQ_ret ?_ | refine blockQ_normal ?_ | refine blockQ_exit_same ?_ | refine blockQ_exit_ne rfl ?_
                        refine ⟨true, _, ?_, (by repeat (first | exact EnvLe.nil _ | refine EnvLe.cons rfl ?_)), (by repeat (first | exact Split.nil | (apply Split.cons; · repeat (first | exact Pick.here | apply Pick.there)) | exact Split.whole _ | exact Split.front _ _ rfl | exact Split.back _ _ rfl | exact Split.app_nil _ | apply Split.skip))⟩
                        have hr2 : rem2 = false := by
                          have h := ‹(!rem2) = true›
                          cases rem2
                          · rfl
                          · cases h
                        rw [hr2, signs_eq]
                        have d1 : c.toNat = 44 := by omega
                        simp [d1, wdAt, h79]
                      · simp only [cmpP] at h79
                        refine ow_y (y_pick_t rfl rfl) rfl rfl rfl ?_
                        refine ow_y (y_assign rfl) rfl rfl rfl ?_
                        refine ow_nil ?_
                        repeat with_reducible first | refine thenQ_ret ?_ | refine thenQ_normal ?_ | refine thenQ_exit ?_ | refine blockQ_ret ?_ | refine blockQ_normal ?_ | refine blockQ_exit_same ?_ | refine blockQ_exit_ne rfl ?_
                        refine ⟨false, _, ?_, (by repeat (first | exact EnvLe.nil _ | refine EnvLe.cons rfl ?_)), (by repeat (first | exact Split.nil | (apply Split.cons; · repeat (first | exact Pick.here | apply Pick.there)) | exact Split.whole _ | exact Split.front _ _ rfl | exact Split.back _ _ rfl | exact Split.app_nil _ | apply Split.skip))⟩
                        have hr2 : rem2 = false := by
                          have h := ‹(!rem2) = true›
                          cases rem2
                          · rfl
                          · cases h
                        rw [hr2, signs_eq]
                        have d1 : c.toNat = 44 := by omega
                        simp [d1, wdAt, h79]
                    · simp only [cmpP] at h55
                      refine ow_y (y_move rfl) rfl rfl rfl ?_
                      refine ow_y (y_move rfl) rfl rfl rfl ?_
                      refine ow_cmp rfl rfl rfl rfl rfl (fun h58 => ?_) (fun h58 => ?_)
                      · simp only [cmpP] at h58
                        refine ow_y (y_pick_f rfl rfl) rfl rfl rfl ?_
                        refine ow_y (y_move rfl) rfl rfl rfl ?_
                        refine ow_skip rfl rfl rfl ?_
                        refine ow_skip rfl rfl rfl ?_
                        refine ow_y (y_pick_t rfl rfl) rfl rfl rfl ?_
                        refine ow_y (y_move rfl) rfl rfl rfl ?_
                        refine ow_skip rfl rfl rfl ?_
                        refine ow_skip rfl rfl rfl ?_
                        refine ow_y (y_pick_t rfl rfl) rfl rfl rfl ?_
                        refine ow_y (y_move rfl) rfl rfl rfl ?_
                        refine ow_skip rfl rfl rfl ?_
                        refine ow_skip rfl rfl rfl ?_
                        refine ow_y (y_pick_t rfl rfl) rfl rfl rfl ?_
                        refine ow_y (y_pick_t rfl rfl) rfl rfl rfl ?_
                        refine ow_y (y_move rfl) rfl rfl rfl ?_
                        refine ow_y (y_move rfl) rfl rfl rfl ?_
                        refine ow_y (y_move rfl) rfl rfl rfl ?_
                        refine ow_y (y_bin (v := .int .i64 ((k : Int).tmod 30)) rfl rfl (fun w => run_guard_int _ _ _ _ _ _ w) (fun w => run_rem30 _ _ _ w)) rfl rfl rfl ?_
                        refine ow_y (y_bin (v := .int .i64 (shv which k)) rfl rfl (fun w => run_guard_int _ _ _ _ _ _ w) (fun w => run_shrW _ _ _ _ w)) rfl rfl rfl ?_
                        refine ow_y (y_bin (v := .int .i64 (bitv which k)) rfl rfl (fun w => run_guard_int _ _ _ _ _ _ w) (fun w => run_bit _ _ _ _ w)) rfl rfl rfl ?_
                        refine ow_cmp rfl rfl rfl rfl rfl (fun h79 => ?_) (fun h79 => ?_)
                        · simp only [cmpP] at h79
                          refine ow_y (y_pick_t rfl rfl) rfl rfl rfl ?_
                          refine ow_y (y_assign rfl) rfl rfl rfl ?_
                          refine ow_nil ?_
                          repeat with_reducible first | refine thenQ_ret ?_ | refine thenQ_normal ?_ | refine thenQ_exit ?_ | refine blockQ_ret ?_ | refine blockQ_normal ?_ | refine blockQ_exit_same ?_ | refine blockQ_exit_ne rfl ?_
                          refine ⟨true, _, ?_, (by repeat (first | exact EnvLe.nil _ | refine EnvLe.cons rfl ?_)), (by repeat (first | exact Split.nil | (apply Split.cons; · repeat (first | exact Pick.here | apply Pick.there)) | exact Split.whole _ | exact Split.front _ _ rfl | exact Split.back _ _ rfl | exact Split.app_nil _ | apply Split.skip))⟩
                          have hr2 : rem2 = false := by
                            have h := ‹(!rem2) = true›
                            cases rem2
                            · rfl
                            · cases h
                          rw [hr2, signs_eq]
                          have d1 : c.toNat = 58 := by omega
                          simp [d1, wdAt, h79]
                        · simp only [cmpP] at h79
                          refine ow_y (y_pick_t rfl rfl) rfl rfl rfl ?_
                          refine ow_y (y_assign rfl) rfl rfl rfl ?_
                          refine ow_nil ?_
                          repeat with_reducible first | refine thenQ_ret ?_ | refine thenQ_normal ?_ | refine thenQ_exit ?_ | refine blockQ_ret ?_ | refine blockQ_normal ?_ | refine blockQ_exit_same ?_ | refine blockQ_exit_ne rfl ?_
                          refine ⟨false, _, ?_, (by repeat (first | exact EnvLe.nil _ | refine EnvLe.cons rfl ?_)), (by repeat (first | exact Split.nil | (apply Split.cons; · repeat (first | exact Pick.here | apply Pick.there)) | exact Split.whole _ | exact Split.front _ _ rfl | exact Split.back _ _ rfl | exact Split.app_nil _ | apply Split.skip))⟩
                          have hr2 : rem2 = false := by
                            have h := ‹(!rem2) = true›
                            cases rem2
                            · rfl
                            · cases h
                          rw [hr2, signs_eq]
                          have d1 : c.toNat = 58 := by omega
                          simp [d1, wdAt, h79]
                      · simp only [cmpP] at h58
                        refine ow_y (y_pick_f rfl rfl) rfl rfl rfl ?_
                        refine ow_y (y_move rfl) rfl rfl rfl ?_
                        refine ow_y (y_move rfl) rfl rfl rfl ?_
                        refine ow_cmp rfl rfl rfl rfl rfl (fun h62 => ?_) (fun h62 => ?_)
                        · simp only [cmpP] at h62
                          refine ow_y (y_pick_f rfl rfl) rfl rfl rfl ?_
                          refine ow_y (y_move rfl) rfl rfl rfl ?_
                          refine ow_skip rfl rfl rfl ?_
                          refine ow_skip rfl rfl rfl ?_
                          refine ow_y (y_pick_t rfl rfl) rfl rfl rfl ?_
                          refine ow_y (y_move rfl) rfl rfl rfl ?_
                          refine ow_skip rfl rfl rfl ?_
                          refine ow_skip rfl rfl rfl ?_
                          refine ow_y (y_pick_t rfl rfl) rfl rfl rfl ?_
                          refine ow_y (y_pick_t rfl rfl) rfl rfl rfl ?_
                          refine ow_y (y_move rfl) rfl rfl rfl ?_
                          refine ow_y (y_move rfl) rfl rfl rfl ?_
                          refine ow_y (y_move rfl) rfl rfl rfl ?_
                          refine ow_y (y_bin (v := .int .i64 ((k : Int).tmod 30)) rfl rfl (fun w => run_guard_int _ _ _ _ _ _ w) (fun w => run_rem30 _ _ _ w)) rfl rfl rfl ?_
                          refine ow_y (y_bin (v := .int .i64 (shv which k)) rfl rfl (fun w => run_guard_int _ _ _ _ _ _ w) (fun w => run_shrW _ _ _ _ w)) rfl rfl rfl ?_
                          refine ow_y (y_bin (v := .int .i64 (bitv which k)) rfl rfl (fun w => run_guard_int _ _ _ _ _ _ w) (fun w => run_bit _ _ _ _ w)) rfl rfl rfl ?_
                          refine ow_cmp rfl rfl rfl rfl rfl (fun h79 => ?_) (fun h79 => ?_)
                          · simp only [cmpP] at h79
                            refine ow_y (y_pick_t rfl rfl) rfl rfl rfl ?_
                            refine ow_y (y_assign rfl) rfl rfl rfl ?_
                            refine ow_nil ?_
                            repeat with_reducible first | refine thenQ_ret ?_ | refine thenQ_normal ?_ | refine thenQ_exit ?_ | refine blockQ_ret ?_ | refine blockQ_normal ?_ | refine blockQ_exit_same ?_ | refine blockQ_exit_ne rfl ?_
                            refine ⟨true, _, ?_, (by repeat (first | exact EnvLe.nil _ | refine EnvLe.cons rfl ?_)), (by repeat (first | exact Split.nil | (apply Split.cons; · repeat (first | exact Pick.here | apply Pick.there)) | exact Split.whole _ | exact Split.front _ _ rfl | exact Split.back _ _ rfl | exact Split.app_nil _ | apply Split.skip))⟩
                            have hr2 : rem2 = false := by
                              have h := ‹(!rem2) = true›
                              cases rem2
                              · rfl
                              · cases h
                            rw [hr2, signs_eq]
                            have d1 : c.toNat = 91 := by omega
                            simp [d1, wdAt, h79]
                          · simp only [cmpP] at h79
                            refine ow_y (y_pick_t rfl rfl) rfl rfl rfl ?_
                            refine ow_y (y_assign rfl) rfl rfl rfl ?_
                            refine ow_nil ?_
                            repeat with_reducible first | refine thenQ_ret ?_ | refine thenQ_normal ?_ | refine thenQ_exit ?_ | refine blockQ_ret ?_ | refine blockQ_normal ?_ | refine blockQ_exit_same ?_ | refine blockQ_exit_ne rfl ?_
                            refine ⟨false, _, ?_, (by repeat (first | exact EnvLe.nil _ | refine EnvLe.cons rfl ?_)), (by repeat (first | exact Split.nil | (apply Split.cons; · repeat (first | exact Pick.here | apply Pick.there)) | exact Split.whole _ | exact Split.front _ _ rfl | exact Split.back _ _ rfl | exact Split.app_nil _ | apply Split.skip))⟩
                            have hr2 : rem2 = false := by
                              have h := ‹(!rem2) = true›
                              cases rem2
                              · rfl
                              · cases h
                            rw [hr2, signs_eq]
                            have d1 : c.toNat = 91 := by omega
                            simp [d1, wdAt, h79]
                        · simp only [cmpP] at h62
                          refine ow_y (y_pick_f rfl rfl) rfl rfl rfl ?_
                          refine ow_y (y_move rfl) rfl rfl rfl ?_
                          refine ow_y (y_move rfl) rfl rfl rfl ?_
                          refine ow_cmp rfl rfl rfl rfl rfl (fun h66 => ?_) (fun h66 => ?_)
                          · simp only [cmpP] at h66
                            refine ow_y (y_pick_f rfl rfl) rfl rfl rfl ?_
                            refine ow_y (y_move rfl) rfl rfl rfl ?_
                            refine ow_skip rfl rfl rfl ?_
                            refine ow_skip rfl rfl rfl ?_
                            refine ow_y (y_pick_t rfl rfl) rfl rfl rfl ?_
                            refine ow_y (y_pick_t rfl rfl) rfl rfl rfl ?_
                            refine ow_y (y_move rfl) rfl rfl rfl ?_
                            refine ow_y (y_move rfl) rfl rfl rfl ?_
                            refine ow_y (y_move rfl) rfl rfl rfl ?_
                            refine ow_y (y_bin (v := .int .i64 ((k : Int).tmod 30)) rfl rfl (fun w => run_guard_int _ _ _ _ _ _ w) (fun w => run_rem30 _ _ _ w)) rfl rfl rfl ?_
                            refine ow_y (y_bin (v := .int .i64 (shv which k)) rfl rfl (fun w => run_guard_int _ _ _ _ _ _ w) (fun w => run_shrW _ _ _ _ w)) rfl rfl rfl ?_
                            refine ow_y (y_bin (v := .int .i64 (bitv which k)) rfl rfl (fun w => run_guard_int _ _ _ _ _ _ w) (fun w => run_bit _ _ _ _ w)) rfl rfl rfl ?_
                            refine ow_cmp rfl rfl rfl rfl rfl (fun h79 => ?_) (fun h79 => ?_)
                            · simp only [cmpP] at h79
                              refine ow_y (y_pick_t rfl rfl) rfl rfl rfl ?_
                              refine ow_y (y_assign rfl) rfl rfl rfl ?_
                              refine ow_nil ?_
                              repeat with_reducible first | refine thenQ_ret ?_ | refine thenQ_normal ?_ | refine thenQ_exit ?_ | refine blockQ_ret ?_ | refine blockQ_normal ?_ | refine blockQ_exit_same ?_ | refine blockQ_exit_ne rfl ?_
                              refine ⟨true, _, ?_, (by repeat (first | exact EnvLe.nil _ | refine EnvLe.cons rfl ?_)), (by repeat (first | exact Split.nil | (apply Split.cons; · repeat (first | exact Pick.here | apply Pick.there)) | exact Split.whole _ | exact Split.front _ _ rfl | exact Split.back _ _ rfl | exact Split.app_nil _ | apply Split.skip))⟩
                              have hr2 : rem2 = false := by
                                have h := ‹(!rem2) = true›
                                cases rem2
                                · rfl
                                · cases h
                              rw [hr2, signs_eq]
                              have d1 : c.toNat = 93 := by omega
                              simp [d1, wdAt, h79]
                            · simp only [cmpP] at h79
                              refine ow_y (y_pick_t rfl rfl) rfl rfl rfl ?_
                              refine ow_y (y_assign rfl) rfl rfl rfl ?_
                              refine ow_nil ?_
                              repeat with_reducible first | refine thenQ_ret ?_ | refine thenQ_normal ?_ | refine thenQ_exit ?_ | refine blockQ_ret ?_ | refine blockQ_normal ?_ | refine blockQ_exit_same ?_ | refine blockQ_exit_ne rfl ?_
                              refine ⟨false, _, ?_, (by repeat (first | exact EnvLe.nil _ | refine EnvLe.cons rfl ?_)), (by repeat (first | exact Split.nil | (apply Split.cons; · repeat (first | exact Pick.here | apply Pick.there)) | exact Split.whole _ | exact Split.front _ _ rfl | exact Split.back _ _ rfl | exact Split.app_nil _ | apply Split.skip))⟩
                              have hr2 : rem2 = false := by
                                have h := ‹(!rem2) = true›
                                cases rem2
                                · rfl
                                · cases h
                              rw [hr2, signs_eq]
                              have d1 : c.toNat = 93 := by omega
                              simp [d1, wdAt, h79]
                          · simp only [cmpP] at h66
                            refine ow_y (y_pick_f rfl rfl) rfl rfl rfl ?_
                            refine ow_y (y_move rfl) rfl rfl rfl ?_
                            refine ow_y (y_move rfl) rfl rfl rfl ?_
                            refine ow_cmp rfl rfl rfl rfl rfl (fun h70 => ?_) (fun h70 => ?_)
                            · simp only [cmpP] at h70
                              refine ow_y (y_pick_f rfl rfl) rfl rfl rfl ?_
                              refine ow_y (y_pick_t rfl rfl) rfl rfl rfl ?_
                              refine ow_y (y_move rfl) rfl rfl rfl ?_
                              refine ow_y (y_move rfl) rfl rfl rfl ?_
                              refine ow_y (y_move rfl) rfl rfl rfl ?_
                              refine ow_y (y_bin (v := .int .i64 ((k : Int).tmod 30)) rfl rfl (fun w => run_guard_int _ _ _ _ _ _ w) (fun w => run_rem30 _ _ _ w)) rfl rfl rfl ?_
                              refine ow_y (y_bin (v := .int .i64 (shv which k)) rfl rfl (fun w => run_guard_int _ _ _ _ _ _ w) (fun w => run_shrW _ _ _ _ w)) rfl rfl rfl ?_
                              refine ow_y (y_bin (v := .int .i64 (bitv which k)) rfl rfl (fun w => run_guard_int _ _ _ _ _ _ w) (fun w => run_bit _ _ _ _ w)) rfl rfl rfl ?_
                              refine ow_cmp rfl rfl rfl rfl rfl (fun h79 => ?_) (fun h79 => ?_)
                              · simp only [cmpP] at h79
                                refine ow_y (y_pick_t rfl rfl) rfl rfl rfl ?_
                                refine ow_y (y_assign rfl) rfl rfl rfl ?_
                                refine ow_nil ?_
                                repeat with_reducible first | refine thenQ_ret ?_ | refine thenQ_normal ?_ | refine thenQ_exit ?_ | refine blockQ_ret ?_ | refine blockQ_normal ?_ | refine blockQ_exit_same ?_ | refine blockQ_exit_ne rfl ?_
                                refine ⟨true, _, ?_, (by repeat (first | exact EnvLe.nil _ | refine EnvLe.cons rfl ?_)), (by repeat (first | exact Split.nil | (apply Split.cons; · repeat (first | exact Pick.here | apply Pick.there)) | exact Split.whole _ | exact Split.front _ _ rfl | exact Split.back _ _ rfl | exact Split.app_nil _ | apply Split.skip))⟩
                                have hr2 : rem2 = false := by
                                  have h := ‹(!rem2) = true›
                                  cases rem2
                                  · rfl
                                  · cases h
                                rw [hr2, signs_eq]
                                have d1 : c.toNat = 43 := by omega
                                simp [d1, wdAt, h79]
                              · simp only [cmpP] at h79
                                refine ow_y (y_pick_t rfl rfl) rfl rfl rfl ?_
                                refine ow_y (y_assign rfl) rfl rfl rfl ?_
                                refine ow_nil ?_
                                repeat with_reducible first | refine thenQ_ret ?_ | refine thenQ_normal ?_ | refine thenQ_exit ?_ | refine blockQ_ret ?_ | refine blockQ_normal ?_ | refine blockQ_exit_same ?_ | refine blockQ_exit_ne rfl ?_
                                refine ⟨false, _, ?_, (by repeat (first | exact EnvLe.nil _ | refine EnvLe.cons rfl ?_)), (by repeat (first | exact Split.nil | (apply Split.cons; · repeat (first | exact Pick.here | apply Pick.there)) | exact Split.whole _ | exact Split.front _ _ rfl | exact Split.back _ _ rfl | exact Split.app_nil _ | apply Split.skip))⟩
                                have hr2 : rem2 = false := by
                                  have h := ‹(!rem2) = true›
                                  cases rem2
                                  · rfl
                                  · cases h
                                rw [hr2, signs_eq]
                                have d1 : c.toNat = 43 := by omega
                                simp [d1, wdAt, h79]
                            · simp only [cmpP] at h70
                              refine ow_y (y_pick_f rfl rfl) rfl rfl rfl ?_
                              refine ow_y (y_pick_t rfl rfl) rfl rfl rfl ?_
                              refine ow_y (y_move rfl) rfl rfl rfl ?_
                              refine ow_skip rfl rfl rfl ?_
                              refine ow_skip rfl rfl rfl ?_
                              refine ow_skip rfl rfl rfl ?_
                              refine ow_skip rfl rfl rfl ?_
                              refine ow_skip rfl rfl rfl ?_
                              refine ow_skip rfl rfl rfl ?_
                              refine ow_y (y_pick_f rfl rfl) rfl rfl rfl ?_
                              refine ow_y (y_assign rfl) rfl rfl rfl ?_
                              refine ow_nil ?_
                              repeat with_reducible first | refine thenQ_ret ?_ | refine thenQ_normal ?_ | refine thenQ_exit ?_ | refine blockQ_ret ?_ | refine blockQ_normal ?_ | refine blockQ_exit_same ?_ | refine blockQ_exit_ne rfl ?_
                              refine ⟨false, _, ?_, (by repeat (first | exact EnvLe.nil _ | refine EnvLe.cons rfl ?_)), (by repeat (first | exact Split.nil | (apply Split.cons; · repeat (first | exact Pick.here | apply Pick.there)) | exact Split.whole _ | exact Split.front _ _ rfl | exact Split.back _ _ rfl | exact Split.app_nil _ | apply Split.skip))⟩
                              have hr2 : rem2 = false := by
                                have h := ‹(!rem2) = true›
                                cases rem2
                                · rfl
                                · cases h
                              rw [hr2, signs_eq]
                              have d1 : ¬ c.toNat = 44 := by omega
                              have d2 : ¬ c.toNat = 58 := by omega
                              have d3 : ¬ c.toNat = 91 := by omega
                              have d4 : ¬ c.toNat = 93 := by omega
                              have d5 : ¬ c.toNat = 43 := by omega
                              simp [d1, d2, d3, d4, d5]
                  · refine ow_skip rfl rfl rfl ?_
                    refine ow_skip rfl rfl rfl ?_
                    refine ow_skip rfl rfl rfl ?_
                    refine ow_skip rfl rfl rfl ?_
                    refine ow_skip rfl rfl rfl ?_
                    refine ow_skip rfl rfl rfl ?_
                    refine ow_skip rfl rfl rfl ?_
                    refine ow_skip rfl rfl rfl ?_
                    refine ow_skip rfl rfl rfl ?_
                    refine ow_skip rfl rfl rfl ?_
                    refine ow_skip rfl rfl rfl ?_
                    refine ow_skip rfl rfl rfl ?_
                    refine ow_skip rfl rfl rfl ?_
                    refine ow_skip rfl rfl rfl ?_
                    refine ow_skip rfl rfl rfl ?_
                    refine ow_skip rfl rfl rfl ?_
                    refine ow_skip rfl rfl rfl ?_
                    refine ow_skip rfl rfl rfl ?_
                    refine ow_y (y_pick_f rfl rfl) rfl rfl rfl ?_
                    refine ow_y (y_move rfl) rfl rfl rfl ?_
                    refine ow_skip rfl rfl rfl ?_
                    refine ow_skip rfl rfl rfl ?_
                    refine ow_skip rfl rfl rfl ?_
                    refine ow_skip rfl rfl rfl ?_
                    refine ow_skip rfl rfl rfl ?_
                    refine ow_skip rfl rfl rfl ?_
                    refine ow_y (y_pick_f rfl rfl) rfl rfl rfl ?_
                    refine ow_y (y_assign rfl) rfl rfl rfl ?_
                    refine ow_nil ?_
                    repeat with_reducible first | refine thenQ_ret ?_ | refine thenQ_normal ?_ | refine thenQ_exit ?_ | refine blockQ_ret ?_ | refine blockQ_normal ?_ | refine blockQ_exit_same ?_ | refine blockQ_exit_ne rfl ?_
                    refine ⟨false, _, ?_, (by repeat (first | exact EnvLe.nil _ | refine EnvLe.cons rfl ?_)), (by repeat (first | exact Split.nil | (apply Split.cons; · repeat (first | exact Pick.here | apply Pick.there)) | exact Split.whole _ | exact Split.front _ _ rfl | exact Split.back _ _ rfl | exact Split.app_nil _ | apply Split.skip))⟩
                    have hr2 : rem2 = true := by
                      have h := ‹(!rem2) = false›
                      cases rem2
                      · cases h
                      · rfl
                    rw [hr2]; rfl
                · intro wide hwd
                  refine cw_seq_cut (α := List UInt8 × Value × Heap) (fun x => [(0, .int .i64 base), (1, str src), (2, .int .i64 which), (7, .bool true), (8, sv), (13, .int .i64 (k : Int)), (14, .int .u8 (c.toNat : Int)), (11, x.2.1), (12, .bool rem2), (15, .bool wide)]) (fun x => A ++ x.2.2) (fun x => x.1 = out1 ++ (if wide = true then [32, 32] else []) ∧ OwnS 5 1 x.2.1 x.2.2 x.1.length (byteV x.1)) ?_ ?_
                  · refine cw_regseq ?_
                    refine ow_y (y_move rfl) rfl rfl rfl ?_
                    refine ow_nil ?_
                    refine cw_if rfl (fun hc2 => ?_) (fun hc2 => ?_)
                    · have hwide := hc2
                      refine cw_region ?_
                      refine ow_y (y_move rfl) rfl rfl rfl ?_
                      refine ow_appendStr' rfl rfl rfl rfl br_30 st_9 howna (Split.back _ _ rfl) (by simp only [List.length_cons, List.length_nil]; omega) (fun sv2 A2 hown2 => ?_)
                      refine ow_y (y_assign rfl) rfl rfl rfl ?_
                      refine ow_nil ?_
                      repeat with_reducible first | refine thenQ_ret ?_ | refine thenQ_normal ?_ | refine thenQ_exit ?_ | refine blockQ_ret ?_ | refine blockQ_normal ?_ | refine blockQ_exit_same ?_ | refine blockQ_exit_ne rfl ?_
                      refine ⟨(out1 ++ [32, 32], sv2, A2), _, ?_, (by repeat (first | exact EnvLe.nil _ | refine EnvLe.cons rfl ?_)), (by repeat (first | exact Split.nil | (apply Split.cons; · repeat (first | exact Pick.here | apply Pick.there)) | exact Split.whole _ | exact Split.front _ _ rfl | exact Split.back _ _ rfl | exact Split.app_nil _ | apply Split.skip))⟩
                      refine ⟨by rw [if_pos hwide], ?_⟩
                      rw [byteV_app] at hown2
                      rw [List.length_append]; exact hown2
                    · have hwide := hc2
                      refine cw_skip ?_
                      repeat with_reducible first | refine thenQ_ret ?_ | refine thenQ_normal ?_ | refine thenQ_exit ?_ | refine blockQ_ret ?_ | refine blockQ_normal ?_ | refine blockQ_exit_same ?_ | refine blockQ_exit_ne rfl ?_
                      refine ⟨(out1, sva, Aa), _, ?_, (by repeat (first | exact EnvLe.nil _ | refine EnvLe.cons rfl ?_)), (by repeat (first | exact Split.nil | (apply Split.cons; · repeat (first | exact Pick.here | apply Pick.there)) | exact Split.whole _ | exact Split.front _ _ rfl | exact Split.back _ _ rfl | exact Split.app_nil _ | apply Split.skip))⟩
                      refine ⟨by rw [if_neg (by rw [hwide]; simp), List.append_nil], howna⟩
                  · rintro ⟨out3, sv3, A3⟩ ⟨hout3, hown3⟩
                    simp only at hout3 hown3
                    have hol3 : out3.length ≤ 11 * k + 9 := by rw [hout3, List.length_append]; split <;> simp <;> omega
                    refine cw_regseq ?_
                    refine ow_y (y_move rfl) rfl rfl rfl ?_
                    refine ow_y (y_move rfl) rfl rfl rfl ?_
                    refine ow_buildSlice (el := 5) (zs := [.int .u8 0]) (fun i => some (i * 1, 1)) rfl rfl (by repeat (first | exact EvPs.nil | apply EvPs.cons rfl)) (by repeat (first | exact FillL.nil | (apply FillL.cons rfl rfl rfl; · repeat (first | exact SetLs.nil | (apply SetLs.cons; · repeat (first | exact SetL.here | apply SetL.there)))))) (fun _ => by kernel_rfl) (fun b86 => ?_)
                    refine ow_append' (m := 1) (news := [.int .u8 (c.toNat : Int)]) rfl rfl rfl rfl rw_30 hown3 (Split.skip (Split.back _ _ rfl)) (In.own (.head _)) rfl rfl (by intro u hu; simp only [List.mem_cons, List.not_mem_nil, or_false] at hu; subst hu; rfl) (by omega) (by simp only [maxLen]; omega) (by omega) (fun sv87 A87 hown87 => ?_)
                    refine ow_y (y_assign rfl) rfl rfl rfl ?_
                    refine ow_nil ?_
                    refine cw_regseq ?_
                    refine ow_y (y_move rfl) rfl rfl rfl ?_
                    refine ow_nil ?_
                    refine cw_if rfl (fun hc3 => ?_) (fun hc3 => ?_)
                    · have hw88 := hc3
                      refine cw_region ?_
                      refine ow_y (y_move rfl) rfl rfl rfl ?_
                      refine ow_buildSlice (el := 5) (zs := [.int .u8 0]) (fun i => some (i * 1, 1)) rfl rfl (by repeat (first | exact EvPs.nil | apply EvPs.cons rfl)) (by repeat (first | exact FillL.nil | (apply FillL.cons rfl rfl rfl; · repeat (first | exact SetLs.nil | (apply SetLs.cons; · repeat (first | exact SetL.here | apply SetL.there)))))) (fun _ => by kernel_rfl) (fun b90 => ?_)
                      refine ow_append' (m := 1) (news := [.int .u8 (32 : Int)]) rfl rfl rfl rfl rw_30 hown87 (Split.skip (Split.skip (Split.back _ _ rfl))) (In.own (.head _)) rfl rfl (by intro u hu; simp only [List.mem_cons, List.not_mem_nil, or_false] at hu; subst hu; rfl) (by omega) (by simp only [maxLen]; omega) (by omega) (fun sv91 A91 hown91 => ?_)
                      refine ow_y (y_assign rfl) rfl rfl rfl ?_
                      refine ow_nil ?_
                      repeat with_reducible first | refine thenQ_ret ?_ | refine thenQ_normal ?_ | refine thenQ_exit ?_ | refine blockQ_ret ?_ | refine blockQ_normal ?_ | refine blockQ_exit_same ?_ | refine blockQ_exit_ne rfl ?_
                      refine cw_region ?_
                      refine ow_y (y_move rfl) rfl rfl rfl ?_
                      refine ow_y (y_add64 rfl rfl (by omega)) rfl rfl rfl ?_
                      refine ow_y (y_assign rfl) rfl rfl rfl ?_
                      refine ow_nil ?_
                      repeat with_reducible first | refine thenQ_ret ?_ | refine thenQ_normal ?_ | refine thenQ_exit ?_ | refine blockQ_ret ?_ | refine blockQ_normal ?_ | refine blockQ_exit_same ?_ | refine blockQ_exit_ne rfl ?_
                      refine ⟨(k + 1, out3 ++ [c] ++ [32], rem2, sv91, A91), _, ?_, ?_, (by repeat (first | exact EnvLe.nil _ | refine EnvLe.cons rfl ?_)), (by repeat (first | exact Split.nil | (apply Split.cons; · repeat (first | exact Pick.here | apply Pick.there)) | exact Split.whole _ | exact Split.front _ _ rfl | exact Split.back _ _ rfl | exact Split.app_nil _ | apply Split.skip))⟩
                      · refine ⟨by omega, ?_, ?_, ?_⟩
                        · have e : byteV out3 ++ [.int .u8 (c.toNat : Int)] ++ [.int .u8 (32 : Int)] = byteV (out3 ++ [c] ++ [32]) := by simp [byteV]
                          rw [e] at hown91
                          have e2 : (out3 ++ [c] ++ [32]).length = out3.length + 1 + 1 := by simp
                          rw [e2]; exact hown91
                        · rw [blF_at hc, ← hrem2, ← hwd, if_pos hw88, if_pos hw88] at hfin
                          simp only at hout3 ⊢
                          rw [← hfin, hout3, hout1, if_pos hw88]; simp
                        · simp only [List.length_append, List.length_cons, List.length_nil]; omega
                      · simp only; omega
                    · have hw88 := hc3
                      refine cw_skip ?_
                      repeat with_reducible first | refine thenQ_ret ?_ | refine thenQ_normal ?_ | refine thenQ_exit ?_ | refine blockQ_ret ?_ | refine blockQ_normal ?_ | refine blockQ_exit_same ?_ | refine blockQ_exit_ne rfl ?_
                      refine cw_region ?_
                      refine ow_y (y_move rfl) rfl rfl rfl ?_
                      refine ow_y (y_add64 rfl rfl (by omega)) rfl rfl rfl ?_
                      refine ow_y (y_assign rfl) rfl rfl rfl ?_
                      refine ow_nil ?_
                      repeat with_reducible first | refine thenQ_ret ?_ | refine thenQ_normal ?_ | refine thenQ_exit ?_ | refine blockQ_ret ?_ | refine blockQ_normal ?_ | refine blockQ_exit_same ?_ | refine blockQ_exit_ne rfl ?_
                      refine ⟨(k + 1, out3 ++ [c], rem2, sv87, A87), _, ?_, ?_, (by repeat (first | exact EnvLe.nil _ | refine EnvLe.cons rfl ?_)), (by repeat (first | exact Split.nil | (apply Split.cons; · repeat (first | exact Pick.here | apply Pick.there)) | exact Split.whole _ | exact Split.front _ _ rfl | exact Split.back _ _ rfl | exact Split.app_nil _ | apply Split.skip))⟩
                      · refine ⟨by omega, ?_, ?_, ?_⟩
                        · have e : byteV out3 ++ [.int .u8 (c.toNat : Int)] = byteV (out3 ++ [c]) := by simp [byteV]
                          rw [e] at hown87
                          have e2 : (out3 ++ [c]).length = out3.length + 1 := by simp
                          rw [e2]; exact hown87
                        · have hw88b : ¬ (wide = true) := by rw [hw88]; simp
                          rw [blF_at hc, ← hrem2, ← hwd, if_neg hw88b, if_neg hw88b] at hfin
                          simp only at hout3 ⊢
                          rw [← hfin, hout3, hout1, if_neg hw88b]; simp
                        · simp only [List.length_append, List.length_cons, List.length_nil]; omega
                      · simp only; omega
          · simp only [cmpP] at h39
            refine ow_nil ?_
            refine cw_if_f rfl ?_
            refine cw_exit ?_
            repeat with_reducible first | refine thenQ_ret ?_ | refine thenQ_normal ?_ | refine thenQ_exit ?_ | refine blockQ_ret ?_ | refine blockQ_normal ?_ | refine blockQ_exit_same ?_ | refine blockQ_exit_ne rfl ?_
            refine cw_regseq ?_
            refine ow_y (y_move rfl) rfl rfl rfl ?_
            have hkl : k = src.length := by omega
            refine ow_appendStr' rfl rfl rfl rfl br_30 st_9 howno (Split.back _ _ rfl) (by simp only [List.length_cons, List.length_nil]; omega) (fun sve Ae howne => ?_)
            refine ow_y (y_assign rfl) rfl rfl rfl ?_
            refine ow_nil ?_
            refine cw_regseq ?_
            refine ow_y (y_move rfl) rfl rfl rfl ?_
            refine ow_y (y_move rfl) rfl rfl rfl ?_
            have hsrc : out ++ [32, 32] = blF (wdAt which) 0 false src ++ [32, 32] := by
              rw [hkl, List.drop_length, blF, List.append_nil] at hfin
              rw [hfin]
            rw [byteV_app] at howne
            have howne2 : OwnS 5 1 sve Ae (out ++ [32, 32]).length (byteV (out ++ [32, 32])) := by rw [List.length_append]; exact howne
            obtain ⟨be, cape, cellse, rfl, rfl, hge⟩ := own_bytes howne2 (by simp)
            refine ow_y (y_bytesStr (l := out ++ [32, 32]) rfl ru_30_9 (.inl (List.mem_append_right _ (.head _))) hge) rfl rfl rfl ?_
            refine ow_call rfl rfl (by rfl) ct_12 (asm_f base (out ++ [32, 32]) hR.base) ?_
            rintro _ _ ⟨A2, rfl, hp2⟩
            rw [AsmPost, hsrc, assemble_blanks _ he] at hp2
            by_cases hL : (blF (wdAt which) 0 false src ++ [32, 32]).length > 4000
            · rw [if_pos hL] at hp2
              obtain ⟨sv2, rfl, hown2⟩ := hp2
              refine ow_y (y_move rfl) rfl rfl rfl ?_
              refine ow_y (y_extract rfl rfl) rfl rfl rfl ?_
              refine ow_y (y_extract rfl rfl) rfl rfl rfl ?_
              refine ow_y (y_extract rfl rfl) rfl rfl rfl ?_
              refine ow_y (y_assign rfl) rfl rfl rfl ?_
              refine ow_y (y_assign rfl) rfl rfl rfl ?_
              refine ow_y (y_assign rfl) rfl rfl rfl ?_
              refine ow_nil ?_
              refine cw_seq ?_
              refine cw_regseq ?_
              refine ow_y (y_move rfl) rfl rfl rfl ?_
              refine ow_cmp_t rfl rfl rfl rfl rfl (by simp only [cmpP]; try omega) ?_
              refine ow_nil ?_
              refine cw_if_t rfl ?_
              refine cw_regseq ?_
              refine ow_y (y_move rfl) rfl rfl rfl ?_
              refine ow_y (y_assign rfl) rfl rfl rfl ?_
              refine ow_nil ?_
              refine cw_ret ?_
              repeat with_reducible first | refine thenQ_ret ?_ | refine thenQ_normal ?_ | refine thenQ_exit ?_ | refine blockQ_ret ?_ | refine blockQ_normal ?_ | refine blockQ_exit_same ?_ | refine blockQ_exit_ne rfl ?_
              refine body_ret (.one (.tmp rfl)) ?_
              rfl
            · rw [if_neg hL] at hp2
              obtain ⟨sv2, rfl, hown2⟩ := hp2
              refine ow_y (y_move rfl) rfl rfl rfl ?_
              refine ow_y (y_extract rfl rfl) rfl rfl rfl ?_
              refine ow_y (y_extract rfl rfl) rfl rfl rfl ?_
              refine ow_y (y_extract rfl rfl) rfl rfl rfl ?_
              refine ow_y (y_assign rfl) rfl rfl rfl ?_
              refine ow_y (y_assign rfl) rfl rfl rfl ?_
              refine ow_y (y_assign rfl) rfl rfl rfl ?_
              refine ow_nil ?_
              refine cw_seq ?_
              refine cw_regseq ?_
              refine ow_y (y_move rfl) rfl rfl rfl ?_
              refine ow_cmp_f rfl rfl rfl rfl rfl (by simp only [cmpP]; try omega) ?_
              refine ow_nil ?_
              refine cw_if_f rfl ?_
              refine cw_skip ?_
              repeat with_reducible first | refine thenQ_ret ?_ | refine thenQ_normal ?_ | refine thenQ_exit ?_ | refine blockQ_ret ?_ | refine blockQ_normal ?_ | refine blockQ_exit_same ?_ | refine blockQ_exit_ne rfl ?_
              refine cw_regseq ?_
              refine ow_y (y_move rfl) rfl rfl rfl ?_
              refine ow_y (y_move rfl) rfl rfl rfl ?_
              refine ow_call rfl rfl (by rfl) ct_13 (FnW.genR (same_w (R ++ (A ++ A2)) sv sv2 (assemble base src).1 (assemble base src).1 (Nat.le_trans (assemble_count base src) (by omega)) ((u32r_own (R := R) hown).mono (by intro p hp; simp at hp ⊢; rcases hp with h | h <;> simp [h])) ((u32r_own (R := R) hown2).mono (by intro p hp; simp at hp ⊢; rcases hp with h | h <;> simp [h]))) (by intro p hp; simp at hp ⊢; rcases hp with h | h | h <;> simp [h])) ?_
              · rintro _ _ ⟨rfl, rfl⟩
                rw [decide_eq_true rfl]
                refine ow_y (y_assign rfl) rfl rfl rfl ?_
                refine ow_nil ?_
                refine cw_regseq ?_
                refine ow_y (y_move rfl) rfl rfl rfl ?_
                refine ow_y (y_move rfl) rfl rfl rfl ?_
                refine ow_y (y_move rfl) rfl rfl rfl ?_
                refine ow_y (y_pick_t rfl rfl) rfl rfl rfl ?_
                refine ow_y (y_move rfl) rfl rfl rfl ?_
                refine ow_y (y_move rfl) rfl rfl rfl ?_
                refine ow_cmp_t rfl rfl rfl rfl rfl (by simp only [cmpP]; try omega) ?_
                refine ow_y (y_pick_t rfl rfl) rfl rfl rfl ?_
                refine ow_y (y_move rfl) rfl rfl rfl ?_
                refine ow_y (y_move rfl) rfl rfl rfl ?_
                refine ow_cmp_t rfl rfl rfl rfl rfl (by simp only [cmpP]; try omega) ?_
                refine ow_y (y_pick_t rfl rfl) rfl rfl rfl ?_
                refine ow_y (y_assign rfl) rfl rfl rfl ?_
                refine ow_nil ?_
                refine cw_ret ?_
                repeat with_reducible first | refine thenQ_ret ?_ | refine thenQ_normal ?_ | refine thenQ_exit ?_ | refine blockQ_ret ?_ | refine blockQ_normal ?_ | refine blockQ_exit_same ?_ | refine blockQ_exit_ne rfl ?_
                refine body_ret (.one (.tmp rfl)) ?_
                rfl

end Go.Proofs.YtgppllppddaodaaGreatDoor
