/-
  Lemmas and walks that the seat's cards rest on, merged: W18, W19, W20, W21, W22, W23, Cd0. No statement of the set is proved here.
-/
import Derived.Test.YtgppllppddaodaaGreatDoorB6
import Derived.Test.YtgppllppddaodaaGreatDoorB1
import Derived.Test.YtgppllppddaodaaGreatDoorB2
import Derived.Test.YtgppllppddaodaaGreatDoorCards
import Derived.Test.YtgppllppddaodaaGreatDoorTie
import Derived.ProofKit
import Derived.OpenShut
import Derived.Carry
import Derived.Lay
import Derived.Lib.LaidU8
import Derived.Deep.DeepHandedRow
import Derived.Deep.DeepWitnessRowRef
/-
  The walk of the line that is written.
-/
namespace Go.Proofs.YtgppllppddaodaaGreatDoor
open Sl Am
open Go
theorem ct_28 : callT Tryz.prog 28 = true := by kernel_rfl
theorem ct_29 : callT Tryz.prog 29 = true := by kernel_rfl
theorem rw_38 : rowT Tryz.prog 38 = some (9, 1, 16) := by kernel_rfl
def strV (l : List (List UInt8)) : List Value := l.map str
theorem fm_succ {i : Ins} {p : Nat} {c : UInt8} (h : (kind i.op)[p]? = some c) : ((kind i.op).take (p + 1)).filterMap (opText i) = ((kind i.op).take p).filterMap (opText i) ++ (opText i c).toList := by
  have hlt : p < (kind i.op).length := by
    rcases Nat.lt_or_ge p (kind i.op).length with h' | h'
    · exact h'
    · simp [List.getElem?_eq_none h'] at h
  rw [List.getElem?_eq_getElem hlt] at h
  rw [List.take_succ_eq_append_getElem hlt, List.filterMap_append, Option.some.inj h]
  cases hq : opText i c <;> simp [hq]
theorem ot_a {i : Ins} {c : UInt8} (h : (c.toNat : Int) = 97) : opText i c = some ([114] ++ Lib.itoa i.a) := by unfold opText; rw [if_pos (by omega)]
theorem ot_b {i : Ins} {c : UInt8} (h : (c.toNat : Int) = 98) : opText i c = some ([114] ++ Lib.itoa i.b) := by unfold opText; rw [if_neg (by omega), if_pos (by omega)]
theorem ot_c {i : Ins} {c : UInt8} (h : (c.toNat : Int) = 99) : opText i c = some ([114] ++ Lib.itoa i.c) := by unfold opText; rw [if_neg (by omega), if_neg (by omega), if_pos (by omega)]
theorem ot_i {i : Ins} {c : UInt8} (h : (c.toNat : Int) = 105) : opText i c = some (Lib.itoa i.imm) := by unfold opText; rw [if_neg (by omega), if_neg (by omega), if_neg (by omega), if_pos (by omega)]
theorem ot_no {i : Ins} {c : UInt8} (h1 : ¬ (c.toNat : Int) = 97) (h2 : ¬ (c.toNat : Int) = 98) (h3 : ¬ (c.toNat : Int) = 99) (h4 : ¬ (c.toNat : Int) = 105) : opText i c = none := by unfold opText; rw [if_neg (by omega), if_neg (by omega), if_neg (by omega), if_neg (by omega)]
theorem take3 {cells : List Value} {x y z : List UInt8} (h : cells.take (3 * 1) = strV [x, y, z]) : cells[0 + 0 * 1]? = some (str x) ∧ cells[0 + 1 * 1]? = some (str y) ∧ cells[0 + 2 * 1]? = some (str z) := by
  have key : ∀ j, j < 3 → cells[j]? = (strV [x, y, z])[j]? := fun j hj => by
    rw [← h, List.getElem?_take, if_pos (by omega)]
  exact ⟨key 0 (by omega), key 1 (by omega), key 2 (by omega)⟩

set_option maxRecDepth 100000 in
set_option maxHeartbeats 4000000 in
theorem lineText_w : ∀ (R : Heap) (i : Ins), Glob R → Small i → FnW Tryz.prog 17 [.agg (encI i).toArray] R [] fun v _ => v = str (lineText i) := by
  intro R i hR hsm
  obtain ⟨hs1, hs2, hs3, hs4, hs5, hs6, hs7, hs8⟩ := id hsm
  refine fn_of_body Tryz.func17 rfl Tryz.ntmps17 Tryz.results17 (by rfl) ?_
  refine cw_regseq ?_
  refine ow_box rfl rfl rfl rfl (fun b1 => ?_)
  refine ow_y (y_assign rfl) rfl rfl rfl ?_
  refine ow_nil ?_
  refine cw_regseq ?_
  refine ow_y (y_assign rfl) rfl rfl rfl ?_
  refine ow_nil ?_
  refine cw_seq_cut (α := Bool) (fun x => [(1, .pointer (some ⟨b1, 0, none⟩)), (3, .slice none 0 0), (4, .bool x)]) (fun x => [(b1, cb (encI i) 33)]) (fun x => x = isMem i.op) ?_ ?_
  · refine cw_region ?_
    refine ow_y (y_fieldAddr 0 rfl ft_33_0 rfl) rfl rfl rfl ?_
    refine ow_y (y_load rfl pt_3 (by first | (apply In.own; (repeat (first | exact List.Mem.head _ | apply List.Mem.tail)); done) | (apply In.ro; (repeat (first | exact List.Mem.head _ | apply List.Mem.tail)); done)) rfl) rfl rfl rfl ?_
    refine ow_cmp rfl rfl rfl rfl rfl (fun h9 => ?_) (fun h9 => ?_)
    · simp only [cmpP] at h9
      refine ow_y (y_move rfl) rfl rfl rfl ?_
      refine ow_y (y_fieldAddr 0 rfl ft_33_0 rfl) rfl rfl rfl ?_
      refine ow_y (y_load rfl pt_3 (by first | (apply In.own; (repeat (first | exact List.Mem.head _ | apply List.Mem.tail)); done) | (apply In.ro; (repeat (first | exact List.Mem.head _ | apply List.Mem.tail)); done)) rfl) rfl rfl rfl ?_
      refine ow_cmp rfl rfl rfl rfl rfl (fun h13 => ?_) (fun h13 => ?_)
      · simp only [cmpP] at h13
        refine ow_y (y_pick_t rfl rfl) rfl rfl rfl ?_
        refine ow_y (y_assign rfl) rfl rfl rfl ?_
        refine ow_nil ?_
        repeat with_reducible first | refine thenQ_ret ?_ | refine thenQ_normal ?_ | refine thenQ_exit ?_ | refine blockQ_ret ?_ | refine blockQ_normal ?_ | refine blockQ_exit_same ?_ | refine blockQ_exit_ne rfl ?_
        refine ⟨true, _, ?_, (by repeat (first | exact EnvLe.nil _ | refine EnvLe.cons rfl ?_)), (by repeat (first | exact Split.nil | (apply Split.cons; · repeat (first | exact Pick.here | apply Pick.there)) | exact Split.whole _ | exact Split.front _ _ rfl | exact Split.back _ _ rfl | exact Split.app_nil _ | apply Split.skip))⟩
        simp only [isMem]; simp; omega
      · simp only [cmpP] at h13
        refine ow_y (y_pick_t rfl rfl) rfl rfl rfl ?_
        refine ow_y (y_assign rfl) rfl rfl rfl ?_
        refine ow_nil ?_
        repeat with_reducible first | refine thenQ_ret ?_ | refine thenQ_normal ?_ | refine thenQ_exit ?_ | refine blockQ_ret ?_ | refine blockQ_normal ?_ | refine blockQ_exit_same ?_ | refine blockQ_exit_ne rfl ?_
        refine ⟨false, _, ?_, (by repeat (first | exact EnvLe.nil _ | refine EnvLe.cons rfl ?_)), (by repeat (first | exact Split.nil | (apply Split.cons; · repeat (first | exact Pick.here | apply Pick.there)) | exact Split.whole _ | exact Split.front _ _ rfl | exact Split.back _ _ rfl | exact Split.app_nil _ | apply Split.skip))⟩
        simp only [isMem]; simp; omega
    · simp only [cmpP] at h9
      refine ow_y (y_move rfl) rfl rfl rfl ?_
      refine ow_skip rfl rfl rfl ?_
      refine ow_skip rfl rfl rfl ?_
      refine ow_skip rfl rfl rfl ?_
      refine ow_y (y_pick_f rfl rfl) rfl rfl rfl ?_
      refine ow_y (y_assign rfl) rfl rfl rfl ?_
      refine ow_nil ?_
      repeat with_reducible first | refine thenQ_ret ?_ | refine thenQ_normal ?_ | refine thenQ_exit ?_ | refine blockQ_ret ?_ | refine blockQ_normal ?_ | refine blockQ_exit_same ?_ | refine blockQ_exit_ne rfl ?_
      refine ⟨false, _, ?_, (by repeat (first | exact EnvLe.nil _ | refine EnvLe.cons rfl ?_)), (by repeat (first | exact Split.nil | (apply Split.cons; · repeat (first | exact Pick.here | apply Pick.there)) | exact Split.whole _ | exact Split.front _ _ rfl | exact Split.back _ _ rfl | exact Split.app_nil _ | apply Split.skip))⟩
      simp only [isMem]; simp; omega
  · rintro _ rfl
    refine cw_seq ?_
    refine cw_regseq ?_
    refine ow_y (y_fieldAddr 0 rfl ft_33_0 rfl) rfl rfl rfl ?_
    refine ow_y (y_load rfl pt_3 (by first | (apply In.own; (repeat (first | exact List.Mem.head _ | apply List.Mem.tail)); done) | (apply In.ro; (repeat (first | exact List.Mem.head _ | apply List.Mem.tail)); done)) rfl) rfl rfl rfl ?_
    refine ow_call rfl rfl (by rfl) ct_24 (Kind_c R _ hR i.op) ?_
    rintro _ _ ⟨rfl, rfl⟩
    refine ow_rangeStr rfl rfl rfl st_9 (fun b18 => ?_)
    refine ow_nil ?_
    refine cw_block ?_
    refine cw_loop (α := Nat × List (List UInt8) × Value × Heap) (fun x => [(1, .pointer (some ⟨b1, 0, none⟩)), (3, x.2.2.1), (4, .bool (isMem i.op)), (18, .pointer (some ⟨b18, 0, none⟩))]) (fun x => (b18, .stringIter (bs (kind i.op)) x.1) :: (b1, cb (encI i) 33) :: x.2.2.2) (fun x => x.1 ≤ (kind i.op).length ∧ OwnS 9 1 x.2.2.1 x.2.2.2 x.2.1.length (strV x.2.1) ∧ x.2.1 = ((kind i.op).take x.1).filterMap (opText i) ∧ x.2.1.length ≤ x.1) (fun x => (kind i.op).length - x.1) (0, [], .slice none 0 0, []) ?_ (by repeat (first | exact EnvLe.nil _ | refine EnvLe.cons rfl ?_)) (by repeat (first | exact Split.nil | (apply Split.cons; · repeat (first | exact Pick.here | apply Pick.there)) | exact Split.whole _ | exact Split.front _ _ rfl | exact Split.back _ _ rfl | exact Split.app_nil _ | apply Split.skip)) ?_
    · exact ⟨Nat.zero_le _, .nil, by simp, by simp⟩
    · have hkl := kind_len i.op
      rintro ⟨p, l, sv, A⟩ ⟨hp, hown, hl, hll⟩
      simp only at hp hown hl hll
      refine cw_regseq ?_
      rcases Nat.lt_or_ge p (kind i.op).length with hlt | hge
      · obtain ⟨c, hc⟩ : ∃ c, (kind i.op)[p]? = some c := ⟨_, List.getElem?_eq_getElem hlt⟩
        refine ow_next_step (c := c.toNat) (wd := 1) rfl rfl rfl hlt (Sl.decode_ascii hc (kind_asc hc)) (by repeat (first | exact Upd.here | apply Upd.there)) ?_
        refine ow_y (y_extract rfl rfl) rfl rfl rfl ?_
        refine ow_nil ?_
        refine cw_seq ?_
        refine cw_if_t rfl ?_
        refine cw_skip ?_
        repeat with_reducible first | refine thenQ_ret ?_ | refine thenQ_normal ?_ | refine thenQ_exit ?_ | refine blockQ_ret ?_ | refine blockQ_normal ?_ | refine blockQ_exit_same ?_ | refine blockQ_exit_ne rfl ?_
        refine cw_block ?_
        refine cw_regseq ?_
        refine ow_y (y_extract rfl rfl) rfl rfl rfl ?_
        refine ow_y (y_assign rfl) rfl rfl rfl ?_
        refine ow_nil ?_
        refine cw_regseq ?_
        refine ow_y (y_move rfl) rfl rfl rfl ?_
        refine ow_nil ?_
        refine cw_block ?_
        refine cw_regseq ?_
        refine ow_cmp rfl rfl rfl rfl rfl (fun h24 => ?_) (fun h24 => ?_)
        · simp only [cmpP] at h24
          refine ow_y (y_assign rfl) rfl rfl rfl ?_
          refine ow_nil ?_
          refine cw_if_t rfl ?_
          refine cw_region ?_
          refine ow_y (y_move rfl) rfl rfl rfl ?_
          refine ow_y (y_fieldAddr 1 rfl ft_33_1 rfl) rfl rfl rfl ?_
          refine ow_y (y_load rfl pt_3 (by first | (apply In.own; (repeat (first | exact List.Mem.head _ | apply List.Mem.tail)); done) | (apply In.ro; (repeat (first | exact List.Mem.head _ | apply List.Mem.tail)); done)) rfl) rfl rfl rfl ?_
          refine ow_call rfl rfl (by rfl) ct_28 (itoa_c R _ hR i.a (by omega) (by omega)) ?_
          rintro _ _ ⟨rfl, rfl⟩
          have hil := Lib.itoa_length_le i.a (by omega) (by omega)
          refine ow_y (y_concat rfl rfl (by first | omega | (simp; omega) | (simp only [List.length_append, List.length_cons, List.length_nil]; omega))) rfl rfl rfl ?_
          refine ow_buildSlice (el := 9) (zs := [.string ⟨#[]⟩]) (fun i => some (i * 1, 1)) rfl rfl (by repeat (first | exact EvPs.nil | apply EvPs.cons rfl)) (by repeat (first | exact FillL.nil | (apply FillL.cons rfl rfl rfl; · repeat (first | exact SetLs.nil | (apply SetLs.cons; · repeat (first | exact SetL.here | apply SetL.there)))))) (fun _ => by kernel_rfl) (fun b30 => ?_)
          refine ow_append' (xs := strV l) (n := l.length) (news := [str ([114] ++ Lib.itoa i.a)]) rfl rfl rfl rfl rw_38 hown (by repeat (first | exact Split.nil | (apply Split.cons; · repeat (first | exact Pick.here | apply Pick.there)) | exact Split.whole _ | exact Split.front _ _ rfl | exact Split.back _ _ rfl | exact Split.app_nil _ | apply Split.skip)) (by first | (apply In.own; (repeat (first | exact List.Mem.head _ | apply List.Mem.tail)); done) | (apply In.ro; (repeat (first | exact List.Mem.head _ | apply List.Mem.tail)); done)) rfl rfl (by intro u hu; simp only [List.mem_singleton] at hu; subst hu; rfl) (by omega) (by simp only [maxLen]; omega) (by omega) (fun sv2 A2 hown2 => ?_)
          refine ow_y (y_assign rfl) rfl rfl rfl ?_
          refine ow_nil ?_
          repeat with_reducible first | refine thenQ_ret ?_ | refine thenQ_normal ?_ | refine thenQ_exit ?_ | refine blockQ_ret ?_ | refine blockQ_normal ?_ | refine blockQ_exit_same ?_ | refine blockQ_exit_ne rfl ?_
          refine ⟨(p + 1, l ++ [[114] ++ Lib.itoa i.a], sv2, A2), _, ?_, ?_, (by repeat (first | exact EnvLe.nil _ | refine EnvLe.cons rfl ?_)), (by repeat (first | exact Split.nil | (apply Split.cons; · repeat (first | exact Pick.here | apply Pick.there)) | exact Split.whole _ | exact Split.front _ _ rfl | exact Split.back _ _ rfl | exact Split.app_nil _ | apply Split.skip))⟩
          · refine ⟨hlt, by simp only [List.length_append, strV, List.map_append]; exact hown2, ?_, by simp only [List.length_append, List.length_cons, List.length_nil]; omega⟩
            simp only
            rw [fm_succ hc, ot_a (by assumption), hl]; rfl
          · simp only; omega
        · simp only [cmpP] at h24
          refine ow_y (y_assign rfl) rfl rfl rfl ?_
          refine ow_nil ?_
          refine cw_if_f rfl ?_
          refine cw_regseq ?_
          refine ow_cmp rfl rfl rfl rfl rfl (fun h33 => ?_) (fun h33 => ?_)
          · simp only [cmpP] at h33
            refine ow_y (y_assign rfl) rfl rfl rfl ?_
            refine ow_nil ?_
            refine cw_if_t rfl ?_
            refine cw_region ?_
            refine ow_y (y_move rfl) rfl rfl rfl ?_
            refine ow_y (y_fieldAddr 2 rfl ft_33_2 rfl) rfl rfl rfl ?_
            refine ow_y (y_load rfl pt_3 (by first | (apply In.own; (repeat (first | exact List.Mem.head _ | apply List.Mem.tail)); done) | (apply In.ro; (repeat (first | exact List.Mem.head _ | apply List.Mem.tail)); done)) rfl) rfl rfl rfl ?_
            refine ow_call rfl rfl (by rfl) ct_28 (itoa_c R _ hR i.b (by omega) (by omega)) ?_
            rintro _ _ ⟨rfl, rfl⟩
            have hil := Lib.itoa_length_le i.b (by omega) (by omega)
            refine ow_y (y_concat rfl rfl (by first | omega | (simp; omega) | (simp only [List.length_append, List.length_cons, List.length_nil]; omega))) rfl rfl rfl ?_
            refine ow_buildSlice (el := 9) (zs := [.string ⟨#[]⟩]) (fun i => some (i * 1, 1)) rfl rfl (by repeat (first | exact EvPs.nil | apply EvPs.cons rfl)) (by repeat (first | exact FillL.nil | (apply FillL.cons rfl rfl rfl; · repeat (first | exact SetLs.nil | (apply SetLs.cons; · repeat (first | exact SetL.here | apply SetL.there)))))) (fun _ => by kernel_rfl) (fun b39 => ?_)
            refine ow_append' (xs := strV l) (n := l.length) (news := [str ([114] ++ Lib.itoa i.b)]) rfl rfl rfl rfl rw_38 hown (by repeat (first | exact Split.nil | (apply Split.cons; · repeat (first | exact Pick.here | apply Pick.there)) | exact Split.whole _ | exact Split.front _ _ rfl | exact Split.back _ _ rfl | exact Split.app_nil _ | apply Split.skip)) (by first | (apply In.own; (repeat (first | exact List.Mem.head _ | apply List.Mem.tail)); done) | (apply In.ro; (repeat (first | exact List.Mem.head _ | apply List.Mem.tail)); done)) rfl rfl (by intro u hu; simp only [List.mem_singleton] at hu; subst hu; rfl) (by omega) (by simp only [maxLen]; omega) (by omega) (fun sv2 A2 hown2 => ?_)
            refine ow_y (y_assign rfl) rfl rfl rfl ?_
            refine ow_nil ?_
            repeat with_reducible first | refine thenQ_ret ?_ | refine thenQ_normal ?_ | refine thenQ_exit ?_ | refine blockQ_ret ?_ | refine blockQ_normal ?_ | refine blockQ_exit_same ?_ | refine blockQ_exit_ne rfl ?_
            refine ⟨(p + 1, l ++ [[114] ++ Lib.itoa i.b], sv2, A2), _, ?_, ?_, (by repeat (first | exact EnvLe.nil _ | refine EnvLe.cons rfl ?_)), (by repeat (first | exact Split.nil | (apply Split.cons; · repeat (first | exact Pick.here | apply Pick.there)) | exact Split.whole _ | exact Split.front _ _ rfl | exact Split.back _ _ rfl | exact Split.app_nil _ | apply Split.skip))⟩
            · refine ⟨hlt, by simp only [List.length_append, strV, List.map_append]; exact hown2, ?_, by simp only [List.length_append, List.length_cons, List.length_nil]; omega⟩
              simp only
              rw [fm_succ hc, ot_b (by assumption), hl]; rfl
            · simp only; omega
          · simp only [cmpP] at h33
            refine ow_y (y_assign rfl) rfl rfl rfl ?_
            refine ow_nil ?_
            refine cw_if_f rfl ?_
            refine cw_regseq ?_
            refine ow_cmp rfl rfl rfl rfl rfl (fun h42 => ?_) (fun h42 => ?_)
            · simp only [cmpP] at h42
              refine ow_y (y_assign rfl) rfl rfl rfl ?_
              refine ow_nil ?_
              refine cw_if_t rfl ?_
              refine cw_region ?_
              refine ow_y (y_move rfl) rfl rfl rfl ?_
              refine ow_y (y_fieldAddr 3 rfl ft_33_3 rfl) rfl rfl rfl ?_
              refine ow_y (y_load rfl pt_3 (by first | (apply In.own; (repeat (first | exact List.Mem.head _ | apply List.Mem.tail)); done) | (apply In.ro; (repeat (first | exact List.Mem.head _ | apply List.Mem.tail)); done)) rfl) rfl rfl rfl ?_
              refine ow_call rfl rfl (by rfl) ct_28 (itoa_c R _ hR i.c (by omega) (by omega)) ?_
              rintro _ _ ⟨rfl, rfl⟩
              have hil := Lib.itoa_length_le i.c (by omega) (by omega)
              refine ow_y (y_concat rfl rfl (by first | omega | (simp; omega) | (simp only [List.length_append, List.length_cons, List.length_nil]; omega))) rfl rfl rfl ?_
              refine ow_buildSlice (el := 9) (zs := [.string ⟨#[]⟩]) (fun i => some (i * 1, 1)) rfl rfl (by repeat (first | exact EvPs.nil | apply EvPs.cons rfl)) (by repeat (first | exact FillL.nil | (apply FillL.cons rfl rfl rfl; · repeat (first | exact SetLs.nil | (apply SetLs.cons; · repeat (first | exact SetL.here | apply SetL.there)))))) (fun _ => by kernel_rfl) (fun b48 => ?_)
              refine ow_append' (xs := strV l) (n := l.length) (news := [str ([114] ++ Lib.itoa i.c)]) rfl rfl rfl rfl rw_38 hown (by repeat (first | exact Split.nil | (apply Split.cons; · repeat (first | exact Pick.here | apply Pick.there)) | exact Split.whole _ | exact Split.front _ _ rfl | exact Split.back _ _ rfl | exact Split.app_nil _ | apply Split.skip)) (by first | (apply In.own; (repeat (first | exact List.Mem.head _ | apply List.Mem.tail)); done) | (apply In.ro; (repeat (first | exact List.Mem.head _ | apply List.Mem.tail)); done)) rfl rfl (by intro u hu; simp only [List.mem_singleton] at hu; subst hu; rfl) (by omega) (by simp only [maxLen]; omega) (by omega) (fun sv2 A2 hown2 => ?_)
              refine ow_y (y_assign rfl) rfl rfl rfl ?_
              refine ow_nil ?_
              repeat with_reducible first | refine thenQ_ret ?_ | refine thenQ_normal ?_ | refine thenQ_exit ?_ | refine blockQ_ret ?_ | refine blockQ_normal ?_ | refine blockQ_exit_same ?_ | refine blockQ_exit_ne rfl ?_
              refine ⟨(p + 1, l ++ [[114] ++ Lib.itoa i.c], sv2, A2), _, ?_, ?_, (by repeat (first | exact EnvLe.nil _ | refine EnvLe.cons rfl ?_)), (by repeat (first | exact Split.nil | (apply Split.cons; · repeat (first | exact Pick.here | apply Pick.there)) | exact Split.whole _ | exact Split.front _ _ rfl | exact Split.back _ _ rfl | exact Split.app_nil _ | apply Split.skip))⟩
              · refine ⟨hlt, by simp only [List.length_append, strV, List.map_append]; exact hown2, ?_, by simp only [List.length_append, List.length_cons, List.length_nil]; omega⟩
                simp only
                rw [fm_succ hc, ot_c (by assumption), hl]; rfl
              · simp only; omega
            · simp only [cmpP] at h42
              refine ow_y (y_assign rfl) rfl rfl rfl ?_
              refine ow_nil ?_
              refine cw_if_f rfl ?_
              refine cw_regseq ?_
              refine ow_cmp rfl rfl rfl rfl rfl (fun h51 => ?_) (fun h51 => ?_)
              · simp only [cmpP] at h51
                refine ow_y (y_assign rfl) rfl rfl rfl ?_
                refine ow_nil ?_
                refine cw_if_t rfl ?_
                refine cw_region ?_
                refine ow_y (y_move rfl) rfl rfl rfl ?_
                refine ow_y (y_fieldAddr 4 rfl ft_33_4 rfl) rfl rfl rfl ?_
                refine ow_y (y_load rfl pt_3 (by first | (apply In.own; (repeat (first | exact List.Mem.head _ | apply List.Mem.tail)); done) | (apply In.ro; (repeat (first | exact List.Mem.head _ | apply List.Mem.tail)); done)) rfl) rfl rfl rfl ?_
                refine ow_call rfl rfl (by rfl) ct_28 (itoa_c R _ hR i.imm (by omega) (by omega)) ?_
                rintro _ _ ⟨rfl, rfl⟩
                have hil := Lib.itoa_length_le i.imm (by omega) (by omega)
                refine ow_buildSlice (el := 9) (zs := [.string ⟨#[]⟩]) (fun i => some (i * 1, 1)) rfl rfl (by repeat (first | exact EvPs.nil | apply EvPs.cons rfl)) (by repeat (first | exact FillL.nil | (apply FillL.cons rfl rfl rfl; · repeat (first | exact SetLs.nil | (apply SetLs.cons; · repeat (first | exact SetL.here | apply SetL.there)))))) (fun _ => by kernel_rfl) (fun b56 => ?_)
                refine ow_append' (xs := strV l) (n := l.length) (news := [str (Lib.itoa i.imm)]) rfl rfl rfl rfl rw_38 hown (by repeat (first | exact Split.nil | (apply Split.cons; · repeat (first | exact Pick.here | apply Pick.there)) | exact Split.whole _ | exact Split.front _ _ rfl | exact Split.back _ _ rfl | exact Split.app_nil _ | apply Split.skip)) (by first | (apply In.own; (repeat (first | exact List.Mem.head _ | apply List.Mem.tail)); done) | (apply In.ro; (repeat (first | exact List.Mem.head _ | apply List.Mem.tail)); done)) rfl rfl (by intro u hu; simp only [List.mem_singleton] at hu; subst hu; rfl) (by omega) (by simp only [maxLen]; omega) (by omega) (fun sv2 A2 hown2 => ?_)
                refine ow_y (y_assign rfl) rfl rfl rfl ?_
                refine ow_nil ?_
                repeat with_reducible first | refine thenQ_ret ?_ | refine thenQ_normal ?_ | refine thenQ_exit ?_ | refine blockQ_ret ?_ | refine blockQ_normal ?_ | refine blockQ_exit_same ?_ | refine blockQ_exit_ne rfl ?_
                refine ⟨(p + 1, l ++ [Lib.itoa i.imm], sv2, A2), _, ?_, ?_, (by repeat (first | exact EnvLe.nil _ | refine EnvLe.cons rfl ?_)), (by repeat (first | exact Split.nil | (apply Split.cons; · repeat (first | exact Pick.here | apply Pick.there)) | exact Split.whole _ | exact Split.front _ _ rfl | exact Split.back _ _ rfl | exact Split.app_nil _ | apply Split.skip))⟩
                · refine ⟨hlt, by simp only [List.length_append, strV, List.map_append]; exact hown2, ?_, by simp only [List.length_append, List.length_cons, List.length_nil]; omega⟩
                  simp only
                  rw [fm_succ hc, ot_i (by assumption), hl]; rfl
                · simp only; omega
              · simp only [cmpP] at h51
                refine ow_y (y_assign rfl) rfl rfl rfl ?_
                refine ow_nil ?_
                refine cw_if_f rfl ?_
                refine cw_skip ?_
                repeat with_reducible first | refine thenQ_ret ?_ | refine thenQ_normal ?_ | refine thenQ_exit ?_ | refine blockQ_ret ?_ | refine blockQ_normal ?_ | refine blockQ_exit_same ?_ | refine blockQ_exit_ne rfl ?_
                refine ⟨(p + 1, l, sv, A), _, ?_, ?_, (by repeat (first | exact EnvLe.nil _ | refine EnvLe.cons rfl ?_)), (by repeat (first | exact Split.nil | (apply Split.cons; · repeat (first | exact Pick.here | apply Pick.there)) | exact Split.whole _ | exact Split.front _ _ rfl | exact Split.back _ _ rfl | exact Split.app_nil _ | apply Split.skip))⟩
                · refine ⟨hlt, hown, ?_, by simp only; omega⟩
                  simp only
                  rw [fm_succ hc, ot_no (by assumption) (by assumption) (by assumption) (by assumption), ← hl]; simp
                · simp only; omega
      · refine ow_next_over rfl rfl rfl (by repeat (first | exact List.Mem.head _ | apply List.Mem.tail)) hge ?_
        refine ow_y (y_extract rfl rfl) rfl rfl rfl ?_
        refine ow_nil ?_
        refine cw_seq ?_
        refine cw_if_f rfl ?_
        refine cw_exit ?_
        repeat with_reducible first | refine thenQ_ret ?_ | refine thenQ_normal ?_ | refine thenQ_exit ?_ | refine blockQ_ret ?_ | refine blockQ_normal ?_ | refine blockQ_exit_same ?_ | refine blockQ_exit_ne rfl ?_
        refine cw_seq ?_
        refine cw_block ?_
        refine cw_regseq ?_
        have hp2 : p = (kind i.op).length := by omega
        subst hp2
        rw [List.take_length] at hl
        obtain ⟨ia, ic, hsv0⟩ := own_slice hown
        refine ow_y (y_move rfl) rfl rfl rfl ?_
        refine ow_y (y_lenSl (congrArg some hsv0) el_38) rfl rfl rfl ?_
        refine ow_cmp rfl rfl rfl rfl rfl (fun h61 => ?_) (fun h61 => ?_)
        · simp only [cmpP] at h61
          refine ow_y (y_assign rfl) rfl rfl rfl ?_
          refine ow_nil ?_
          refine cw_if_t rfl ?_
          refine cw_regseq ?_
          have hl0 : opTexts i = [] := by rw [opTexts, ← hl]; exact List.eq_nil_of_length_eq_zero (by omega)
          refine ow_y (y_fieldAddr 0 rfl ft_33_0 rfl) rfl rfl rfl ?_
          refine ow_y (y_load rfl pt_3 (by first | (apply In.own; (repeat (first | exact List.Mem.head _ | apply List.Mem.tail)); done) | (apply In.ro; (repeat (first | exact List.Mem.head _ | apply List.Mem.tail)); done)) rfl) rfl rfl rfl ?_
          refine ow_call rfl rfl (by rfl) ct_15 (Mnemonic_c R _ hR i.op) ?_
          rintro _ _ ⟨rfl, rfl⟩
          refine ow_y (y_assign rfl) rfl rfl rfl ?_
          refine ow_nil ?_
          refine cw_ret ?_
          repeat with_reducible first | refine thenQ_ret ?_ | refine thenQ_normal ?_ | refine thenQ_exit ?_ | refine blockQ_ret ?_ | refine blockQ_normal ?_ | refine blockQ_exit_same ?_ | refine blockQ_exit_ne rfl ?_
          refine body_ret (.one (.tmp rfl)) ?_
          simp only [lineText]; rw [if_pos hl0]
        · simp only [cmpP] at h61
          refine ow_y (y_assign rfl) rfl rfl rfl ?_
          refine ow_nil ?_
          refine cw_if_f rfl ?_
          refine cw_regseq ?_
          have hl0 : opTexts i ≠ [] := by rw [opTexts, ← hl]; intro hx; rw [hx] at h61; exact h61 rfl
          refine ow_y (y_move rfl) rfl rfl rfl ?_
          refine ow_y (y_assign rfl) rfl rfl rfl ?_
          refine ow_nil ?_
          refine cw_if rfl (fun hc1 => ?_) (fun hc1 => ?_)
          · have hmem : isMem i.op = true := hc1
            have hl3 := mem_texts hmem
            rw [opTexts, ← hl] at hl3
            subst hl3
            obtain ⟨lb, lcap, cells, hs1, hs2, hs3, hs4⟩ := own_row hown (by simp)
            subst hs1
            subst hs2
            obtain ⟨hx0, hx1, hx2⟩ := take3 hs4
            have hta := Lib.itoa_length_le i.a (by omega) (by omega)
            have htb := Lib.itoa_length_le i.b (by omega) (by omega)
            have hti := Lib.itoa_length_le i.imm (by omega) (by omega)
            have hml := mnem_len i.op
            refine cw_drawseq [(b1, cb (encI i) 33), (lb, cb cells 9)] (by kernel_rfl) rfl ?_
            refine any_take 0 rfl (by kernel_rfl) (by kernel_rfl) (by kernel_rfl) rfl rfl rfl (by repeat (first | exact Split.nil | (apply Split.cons; · repeat (first | exact Pick.here | apply Pick.there)) | exact Split.whole _ | exact Split.front _ _ rfl | exact Split.back _ _ rfl | exact Split.app_nil _ | apply Split.skip)) (y_fieldAddr 0 rfl ft_33_0 rfl) ?_
            refine any_take 1 rfl (by kernel_rfl) (by kernel_rfl) (by kernel_rfl) rfl rfl rfl (by repeat (first | exact Split.nil | (apply Split.cons; · repeat (first | exact Pick.here | apply Pick.there)) | exact Split.whole _ | exact Split.front _ _ rfl | exact Split.back _ _ rfl | exact Split.app_nil _ | apply Split.skip)) (y_load rfl pt_3 (by first | (apply In.own; (repeat (first | exact List.Mem.head _ | apply List.Mem.tail)); done) | (apply In.ro; (repeat (first | exact List.Mem.head _ | apply List.Mem.tail)); done)) rfl) ?_
            refine any_take 4 rfl (by kernel_rfl) (by kernel_rfl) (by kernel_rfl) rfl rfl rfl (by repeat (first | exact Split.nil | (apply Split.cons; · repeat (first | exact Pick.here | apply Pick.there)) | exact Split.whole _ | exact Split.front _ _ rfl | exact Split.back _ _ rfl | exact Split.app_nil _ | apply Split.skip)) (y_move rfl) ?_
            refine any_take 5 rfl (by kernel_rfl) (by kernel_rfl) (by kernel_rfl) rfl rfl rfl (by repeat (first | exact Split.nil | (apply Split.cons; · repeat (first | exact Pick.here | apply Pick.there)) | exact Split.whole _ | exact Split.front _ _ rfl | exact Split.back _ _ rfl | exact Split.app_nil _ | apply Split.skip)) (y_indexAddr (i := 0) rfl rfl el_38 sz_9 (by simp)) ?_
            refine any_take 6 rfl (by kernel_rfl) (by kernel_rfl) (by kernel_rfl) rfl rfl rfl (by repeat (first | exact Split.nil | (apply Split.cons; · repeat (first | exact Pick.here | apply Pick.there)) | exact Split.whole _ | exact Split.front _ _ rfl | exact Split.back _ _ rfl | exact Split.app_nil _ | apply Split.skip)) (y_load rfl pt_9 (by first | (apply In.own; (repeat (first | exact List.Mem.head _ | apply List.Mem.tail)); done) | (apply In.ro; (repeat (first | exact List.Mem.head _ | apply List.Mem.tail)); done)) hx0) ?_
            refine any_take 9 rfl (by kernel_rfl) (by kernel_rfl) (by kernel_rfl) rfl rfl rfl (by repeat (first | exact Split.nil | (apply Split.cons; · repeat (first | exact Pick.here | apply Pick.there)) | exact Split.whole _ | exact Split.front _ _ rfl | exact Split.back _ _ rfl | exact Split.app_nil _ | apply Split.skip)) (y_move rfl) ?_
            refine any_take 10 rfl (by kernel_rfl) (by kernel_rfl) (by kernel_rfl) rfl rfl rfl (by repeat (first | exact Split.nil | (apply Split.cons; · repeat (first | exact Pick.here | apply Pick.there)) | exact Split.whole _ | exact Split.front _ _ rfl | exact Split.back _ _ rfl | exact Split.app_nil _ | apply Split.skip)) (y_indexAddr (i := 1) rfl rfl el_38 sz_9 (by simp)) ?_
            refine any_take 11 rfl (by kernel_rfl) (by kernel_rfl) (by kernel_rfl) rfl rfl rfl (by repeat (first | exact Split.nil | (apply Split.cons; · repeat (first | exact Pick.here | apply Pick.there)) | exact Split.whole _ | exact Split.front _ _ rfl | exact Split.back _ _ rfl | exact Split.app_nil _ | apply Split.skip)) (y_load rfl pt_9 (by first | (apply In.own; (repeat (first | exact List.Mem.head _ | apply List.Mem.tail)); done) | (apply In.ro; (repeat (first | exact List.Mem.head _ | apply List.Mem.tail)); done)) hx1) ?_
            refine any_take 14 rfl (by kernel_rfl) (by kernel_rfl) (by kernel_rfl) rfl rfl rfl (by repeat (first | exact Split.nil | (apply Split.cons; · repeat (first | exact Pick.here | apply Pick.there)) | exact Split.whole _ | exact Split.front _ _ rfl | exact Split.back _ _ rfl | exact Split.app_nil _ | apply Split.skip)) (y_move rfl) ?_
            refine any_take 15 rfl (by kernel_rfl) (by kernel_rfl) (by kernel_rfl) rfl rfl rfl (by repeat (first | exact Split.nil | (apply Split.cons; · repeat (first | exact Pick.here | apply Pick.there)) | exact Split.whole _ | exact Split.front _ _ rfl | exact Split.back _ _ rfl | exact Split.app_nil _ | apply Split.skip)) (y_indexAddr (i := 2) rfl rfl el_38 sz_9 (by simp)) ?_
            refine any_take 16 rfl (by kernel_rfl) (by kernel_rfl) (by kernel_rfl) rfl rfl rfl (by repeat (first | exact Split.nil | (apply Split.cons; · repeat (first | exact Pick.here | apply Pick.there)) | exact Split.whole _ | exact Split.front _ _ rfl | exact Split.back _ _ rfl | exact Split.app_nil _ | apply Split.skip)) (y_load rfl pt_9 (by first | (apply In.own; (repeat (first | exact List.Mem.head _ | apply List.Mem.tail)); done) | (apply In.ro; (repeat (first | exact List.Mem.head _ | apply List.Mem.tail)); done)) hx2) ?_
            refine any_one 2 rfl (by kernel_rfl) ?_
            refine ow_call rfl rfl (by rfl) ct_15 (Mnemonic_c R _ hR i.op) ?_
            rintro _ _ ⟨rfl, rfl⟩
            refine ow_nil ?_
            refine nextW (by repeat (first | exact Split.nil | (apply Split.cons; · repeat (first | exact Pick.here | apply Pick.there)) | exact Split.whole _ | exact Split.front _ _ rfl | exact Split.back _ _ rfl | exact Split.app_nil _ | apply Split.skip)) ?_
            refine any_take 3 rfl (by kernel_rfl) (by kernel_rfl) (by kernel_rfl) rfl rfl rfl (by repeat (first | exact Split.nil | (apply Split.cons; · repeat (first | exact Pick.here | apply Pick.there)) | exact Split.whole _ | exact Split.front _ _ rfl | exact Split.back _ _ rfl | exact Split.app_nil _ | apply Split.skip)) (y_concat rfl rfl (by first | omega | (simp; omega) | (simp only [List.length_append, List.length_cons, List.length_nil]; omega))) ?_
            refine any_take 7 rfl (by kernel_rfl) (by kernel_rfl) (by kernel_rfl) rfl rfl rfl (by repeat (first | exact Split.nil | (apply Split.cons; · repeat (first | exact Pick.here | apply Pick.there)) | exact Split.whole _ | exact Split.front _ _ rfl | exact Split.back _ _ rfl | exact Split.app_nil _ | apply Split.skip)) (y_concat rfl rfl (by first | omega | (simp; omega) | (simp only [List.length_append, List.length_cons, List.length_nil]; omega))) ?_
            refine any_take 8 rfl (by kernel_rfl) (by kernel_rfl) (by kernel_rfl) rfl rfl rfl (by repeat (first | exact Split.nil | (apply Split.cons; · repeat (first | exact Pick.here | apply Pick.there)) | exact Split.whole _ | exact Split.front _ _ rfl | exact Split.back _ _ rfl | exact Split.app_nil _ | apply Split.skip)) (y_concat rfl rfl (by first | omega | (simp; omega) | (simp only [List.length_append, List.length_cons, List.length_nil]; omega))) ?_
            refine any_take 12 rfl (by kernel_rfl) (by kernel_rfl) (by kernel_rfl) rfl rfl rfl (by repeat (first | exact Split.nil | (apply Split.cons; · repeat (first | exact Pick.here | apply Pick.there)) | exact Split.whole _ | exact Split.front _ _ rfl | exact Split.back _ _ rfl | exact Split.app_nil _ | apply Split.skip)) (y_concat rfl rfl (by first | omega | (simp; omega) | (simp only [List.length_append, List.length_cons, List.length_nil]; omega))) ?_
            refine any_take 13 rfl (by kernel_rfl) (by kernel_rfl) (by kernel_rfl) rfl rfl rfl (by repeat (first | exact Split.nil | (apply Split.cons; · repeat (first | exact Pick.here | apply Pick.there)) | exact Split.whole _ | exact Split.front _ _ rfl | exact Split.back _ _ rfl | exact Split.app_nil _ | apply Split.skip)) (y_concat rfl rfl (by first | omega | (simp; omega) | (simp only [List.length_append, List.length_cons, List.length_nil]; omega))) ?_
            refine any_take 17 rfl (by kernel_rfl) (by kernel_rfl) (by kernel_rfl) rfl rfl rfl (by repeat (first | exact Split.nil | (apply Split.cons; · repeat (first | exact Pick.here | apply Pick.there)) | exact Split.whole _ | exact Split.front _ _ rfl | exact Split.back _ _ rfl | exact Split.app_nil _ | apply Split.skip)) (y_concat rfl rfl (by first | omega | (simp; omega) | (simp only [List.length_append, List.length_cons, List.length_nil]; omega))) ?_
            refine any_take 18 rfl (by kernel_rfl) (by kernel_rfl) (by kernel_rfl) rfl rfl rfl (by repeat (first | exact Split.nil | (apply Split.cons; · repeat (first | exact Pick.here | apply Pick.there)) | exact Split.whole _ | exact Split.front _ _ rfl | exact Split.back _ _ rfl | exact Split.app_nil _ | apply Split.skip)) (y_concat rfl rfl (by first | omega | (simp; omega) | (simp only [List.length_append, List.length_cons, List.length_nil]; omega))) ?_
            refine any_take 19 rfl (by kernel_rfl) (by kernel_rfl) (by kernel_rfl) rfl rfl rfl (by repeat (first | exact Split.nil | (apply Split.cons; · repeat (first | exact Pick.here | apply Pick.there)) | exact Split.whole _ | exact Split.front _ _ rfl | exact Split.back _ _ rfl | exact Split.app_nil _ | apply Split.skip)) (y_assign rfl) ?_
            refine any_done (by kernel_rfl) ?_
            refine cw_ret ?_
            repeat with_reducible first | refine thenQ_ret ?_ | refine thenQ_normal ?_ | refine thenQ_exit ?_ | refine blockQ_ret ?_ | refine blockQ_normal ?_ | refine blockQ_exit_same ?_ | refine blockQ_exit_ne rfl ?_
            refine body_ret (.one (.tmp rfl)) ?_
            simp only [lineText]; rw [if_neg hl0, if_pos hmem, mem_texts hmem]; rfl
          · have hmem : isMem i.op = false := hc1
            have hml := mnem_len i.op
            obtain ⟨lb, lcap, cells, hs1, hs2, hs3, hs4⟩ := own_row hown (by have := List.length_pos_iff.2 hl0; rw [opTexts, ← hl] at this; exact this)
            subst hs1
            subst hs2
            rw [Nat.mul_one] at hs4
            have hjx : ∀ (j : Nat) x, l[j]? = some x → cells[0 + j]? = some (str x) := fun j x hj => by
              have hjl : j < l.length := by
                rcases Nat.lt_or_ge j l.length with h' | h'
                · exact h'
                · simp [List.getElem?_eq_none h'] at hj
              have := congrArg (fun q => q[j]?) hs4
              simp only [List.getElem?_take, hjl, if_true, strV, List.getElem?_map, hj] at this
              rw [Nat.zero_add]; exact this
            have hjl : (Lib.join l [44, 32]).length ≤ l.length * 24 := join_len (m := 22) (sep := [44, 32]) l (by rw [hl]; exact opTexts_len hsm)
            have hlc : l.length ≤ 4 := by rw [hl]; exact opTexts_count i
            refine cw_skip ?_
            repeat with_reducible first | refine thenQ_ret ?_ | refine thenQ_normal ?_ | refine thenQ_exit ?_ | refine blockQ_ret ?_ | refine blockQ_normal ?_ | refine blockQ_exit_same ?_ | refine blockQ_exit_ne rfl ?_
            refine cw_regseq ?_
            refine ow_y (y_fieldAddr 0 rfl ft_33_0 rfl) rfl rfl rfl ?_
            refine ow_y (y_load rfl pt_3 (by first | (apply In.own; (repeat (first | exact List.Mem.head _ | apply List.Mem.tail)); done) | (apply In.ro; (repeat (first | exact List.Mem.head _ | apply List.Mem.tail)); done)) rfl) rfl rfl rfl ?_
            refine ow_call rfl rfl (by rfl) ct_15 (Mnemonic_c R _ hR i.op) ?_
            rintro _ _ ⟨rfl, rfl⟩
            refine ow_y (y_concat rfl rfl (by first | omega | (simp; omega) | (simp only [List.length_append, List.length_cons, List.length_nil]; omega))) rfl rfl rfl ?_
            refine ow_y (y_move rfl) rfl rfl rfl ?_
            refine ow_call rfl rfl (by rfl) ct_29 (join_c R _ lb 0 lcap _ _ cells l [44, 32] (.inl (by repeat (first | exact List.Mem.head _ | apply List.Mem.tail))) hjx hs3 (by omega) (by omega)) ?_
            rintro _ _ ⟨rfl, rfl⟩
            refine ow_y (y_concat rfl rfl (by first | omega | (simp; omega) | (simp only [List.length_append, List.length_cons, List.length_nil]; omega))) rfl rfl rfl ?_
            refine ow_y (y_assign rfl) rfl rfl rfl ?_
            refine ow_nil ?_
            refine cw_ret ?_
            repeat with_reducible first | refine thenQ_ret ?_ | refine thenQ_normal ?_ | refine thenQ_exit ?_ | refine blockQ_ret ?_ | refine blockQ_normal ?_ | refine blockQ_exit_same ?_ | refine blockQ_exit_ne rfl ?_
            refine body_ret (.one (.tmp rfl)) ?_
            simp only [lineText]; rw [if_neg hl0, if_neg (by rw [‹isMem i.op = false›]; simp), show opTexts i = l from hl.symm]

end Go.Proofs.YtgppllppddaodaaGreatDoor

/-
  The walks of FormatUint at base 16.
-/
namespace Go.Proofs.YtgppllppddaodaaGreatDoor
open Sl Am
open Go
theorem arr_124 : arrT Tryz.prog 124 = some (65, 5) := by kernel_rfl
theorem arr_150 : arrT Tryz.prog 150 = some (64, 5) := by kernel_rfl
theorem ct_66 : callT Tryz.prog 66 = true := by kernel_rfl
theorem ct_67 : callT Tryz.prog 67 = true := by kernel_rfl
theorem ct_84 : callT Tryz.prog 84 = true := by kernel_rfl
theorem cv_5_3 : convT Tryz.prog 5 3 .i64 = true := by kernel_rfl
theorem ru_9_30b : rowU8 Tryz.prog 9 30 5 = true := by kernel_rfl
theorem zt_124 : zeroT Tryz.prog 124 = some (.agg #[.int .u8 0, .int .u8 0, .int .u8 0, .int .u8 0, .int .u8 0, .int .u8 0, .int .u8 0, .int .u8 0, .int .u8 0, .int .u8 0, .int .u8 0, .int .u8 0, .int .u8 0, .int .u8 0, .int .u8 0, .int .u8 0, .int .u8 0, .int .u8 0, .int .u8 0, .int .u8 0, .int .u8 0, .int .u8 0, .int .u8 0, .int .u8 0, .int .u8 0, .int .u8 0, .int .u8 0, .int .u8 0, .int .u8 0, .int .u8 0, .int .u8 0, .int .u8 0, .int .u8 0, .int .u8 0, .int .u8 0, .int .u8 0, .int .u8 0, .int .u8 0, .int .u8 0, .int .u8 0, .int .u8 0, .int .u8 0, .int .u8 0, .int .u8 0, .int .u8 0, .int .u8 0, .int .u8 0, .int .u8 0, .int .u8 0, .int .u8 0, .int .u8 0, .int .u8 0, .int .u8 0, .int .u8 0, .int .u8 0, .int .u8 0, .int .u8 0, .int .u8 0, .int .u8 0, .int .u8 0, .int .u8 0, .int .u8 0, .int .u8 0, .int .u8 0, .int .u8 0]) := by kernel_rfl
def deB64V : List Value := ([0, 1, 56, 2, 57, 49, 28, 3, 61, 58, 42, 50, 38, 29, 17, 4, 62, 47, 59, 36, 45, 43, 51, 22, 53, 39, 33, 30, 24, 18, 12, 5, 63, 55, 48, 27, 60, 41, 37, 16, 46, 35, 44, 21, 52, 32, 23, 11, 54, 26, 40, 15, 34, 20, 31, 10, 25, 14, 19, 9, 13, 8, 7, 6] : List Int).map (Value.int .u8)
/-- What Print reads beyond Glob. -/
structure GlobP (R : Heap) : Prop where
  base : Glob R
  tab : ∃ T f, (3, Obj.cells deB64V.toArray T f) ∈ R
theorem hexText_big {u : Nat} (h : 16 ≤ u) : hexText u = hexText (u / 16) ++ [hexDig (u % 16)] := by
  rw [hexText, dif_neg (by omega)]
theorem hexText_small {u : Nat} (h : u < 16) : hexText u = [hexDig u] := by
  rw [hexText, dif_pos h]
theorem hexText_len : ∀ (k u : Nat), u < 16 ^ (k + 1) → (hexText u).length ≤ k + 1
  | 0, u, h => by rw [hexText_small (by omega)]; simp
  | k + 1, u, h => by
    rcases Nat.lt_or_ge u 16 with h2 | h2
    · rw [hexText_small h2]; simp
    · rw [hexText_big h2, List.length_append, List.length_singleton]
      have := hexText_len k (u / 16) (by
        have e : 16 ^ (k + 1 + 1) = 16 ^ (k + 1) * 16 := Nat.pow_succ _ _
        omega)
      omega
theorem hexText_pos (u : Nat) : 1 ≤ (hexText u).length := by
  rcases Nat.lt_or_ge u 16 with h2 | h2
  · rw [hexText_small h2]; simp
  · rw [hexText_big h2]; simp
def digs36 : List UInt8 := [48, 49, 50, 51, 52, 53, 54, 55, 56, 57, 97, 98, 99, 100, 101, 102, 103, 104, 105, 106, 107, 108, 109, 110, 111, 112, 113, 114, 115, 116, 117, 118, 119, 120, 121, 122]
theorem digs_at (n : Nat) (h : n < 16) : digs36[n]? = some (hexDig n) := by
  have key : ∀ n, n < 16 → digs36[n]? = some (hexDig n) := by decide
  exact key n h
theorem setL_set : ∀ (l : List Value) (i : Nat) (v : Value), i < l.length → SetL l i v (l.set i v)
  | [], i, v, h => by simp at h
  | x :: l, 0, v, _ => .here
  | x :: l, i + 1, v, h => .there (setL_set l i v (by simpa using h))
theorem run_and15 {P : Program} (t : TypeId) (u : Nat) (hu : u < 4294967296) (w : World) : (binOp .and t (.int .u64 u) (.int .u64 15)).run P w = .ok (.int .u64 (u % 16 : Nat)) w := by
  have h1 : (BitVec.ofInt 64 (u : Int)).toNat = u := by simp; omega
  have h2 : (BitVec.ofInt 64 15).toNat = 2 ^ 4 - 1 := by decide
  have : IntKind.u64.wrap ((BitVec.ofInt 64 (u : Int) &&& BitVec.ofInt 64 15).toNat : Int) = (u % 16 : Nat) := by
    rw [BitVec.toNat_and, h1, h2, Nat.and_two_pow_sub_one_eq_mod]
    exact wrapu64_id (by omega) (by omega)
  rw [← this]; simp only [binOp, Op.intBits]; rfl
theorem run_shr4 {P : Program} (t : TypeId) (u : Nat) (w : World) : (binOp .shr t (.int .u64 u) (.int .u64 4)).run P w = .ok (.int .u64 (u / 16 : Nat)) w := by
  simp only [binOp, Op.shift]
  rw [if_neg (by omega)]
  have h2 : ((u : Int).fdiv ((2 : Int) ^ 4)) = ((u / 16 : Nat) : Int) := by
    rw [Int.fdiv_eq_ediv_of_nonneg _ (by decide)]; rfl
  simp only [IntKind.bits]
  have h3 : min (4 : Int).toNat 64 = 4 := by decide
  rw [h3, h2]; rfl
theorem drop_set {cells : List Value} {i : Nat} {v : Value} {suf : List Value} (h : cells.drop (i + 1) = suf) (hi : i < cells.length) : (cells.set i v).drop i = v :: suf := by
  rw [List.drop_eq_getElem_cons (by rw [List.length_set]; exact hi)]
  congr 1
  · simp
  · rw [List.drop_set, if_pos (by omega), h]
theorem cells_at {cells : List Value} {i : Nat} {l : List UInt8} (h : cells.drop i = byteV l) : ∀ (j : Nat) c, l[j]? = some c → cells[i + j]? = some (.int .u8 c.toNat) := fun j c hj => by
  rw [← List.getElem?_drop, h, List.getElem?_map, hj]; rfl

set_option maxRecDepth 100000 in
set_option maxHeartbeats 400000 in
theorem pow2_w : ∀ (R : Heap), FnW Tryz.prog 66 [.int .i64 16] R [] fun v _ => v = .bool true := by
  intro R
  refine fn_of_body Tryz.func66 rfl Tryz.ntmps66 Tryz.results66 (by rfl) ?_
  refine cw_regseq ?_
  refine ow_y (y_assign rfl) rfl rfl rfl ?_
  refine ow_nil ?_
  refine cw_regseq ?_
  refine ow_y (y_move rfl) rfl rfl rfl ?_
  refine ow_y (y_move rfl) rfl rfl rfl ?_
  refine ow_y (y_sub64 rfl rfl (by omega)) rfl rfl rfl ?_
  refine ow_y (y_bin (v := .int .i64 0) rfl rfl (fun w => run_guard_int _ _ _ _ _ _ w) (fun w => rfl)) rfl rfl rfl ?_
  refine ow_cmp_t rfl rfl rfl rfl rfl (by simp only [cmpP]; try omega) ?_
  refine ow_y (y_assign rfl) rfl rfl rfl ?_
  refine ow_nil ?_
  refine cw_ret ?_
  repeat with_reducible first | refine thenQ_ret ?_ | refine thenQ_normal ?_ | refine thenQ_exit ?_ | refine blockQ_ret ?_ | refine blockQ_normal ?_ | refine blockQ_exit_same ?_ | refine blockQ_exit_ne rfl ?_
  refine body_ret (.one (.tmp rfl)) ?_
  rfl

set_option maxRecDepth 100000 in
set_option maxHeartbeats 400000 in
theorem tz64_w : ∀ (R : Heap), GlobP R → FnW Tryz.prog 84 [.int .u64 16] R [] fun v _ => v = .int .i64 4 := by
  intro R hR
  obtain ⟨T, f, hm⟩ := hR.tab
  refine fn_of_body Tryz.func84 rfl Tryz.ntmps84 Tryz.results84 (by rfl) ?_
  refine cw_regseq ?_
  refine ow_y (y_assign rfl) rfl rfl rfl ?_
  refine ow_nil ?_
  refine cw_seq ?_
  refine cw_regseq ?_
  refine ow_y (y_move rfl) rfl rfl rfl ?_
  refine ow_cmp_f rfl rfl rfl rfl rfl (by simp only [cmpP]; try omega) ?_
  refine ow_nil ?_
  refine cw_if_f rfl ?_
  refine cw_skip ?_
  repeat with_reducible first | refine thenQ_ret ?_ | refine thenQ_normal ?_ | refine thenQ_exit ?_ | refine blockQ_ret ?_ | refine blockQ_normal ?_ | refine blockQ_exit_same ?_ | refine blockQ_exit_ne rfl ?_
  refine cw_regseq ?_
  refine ow_y (y_move rfl) rfl rfl rfl ?_
  refine ow_y (y_move rfl) rfl rfl rfl ?_
  refine ow_y (y_unop (v' := .int .u64 18446744073709551600) rfl (fun w => rfl)) rfl rfl rfl ?_
  refine ow_y (y_bin (v := .int .u64 16) rfl rfl (fun w => run_guard_int _ _ _ _ _ _ w) (fun w => rfl)) rfl rfl rfl ?_
  refine ow_y (y_bin (v := .int .u64 4573923408821661840) rfl rfl (fun w => run_guard_int _ _ _ _ _ _ w) (fun w => rfl)) rfl rfl rfl ?_
  refine ow_y (y_bin (v := .int .u64 15) rfl rfl (fun w => run_guard_int _ _ _ _ _ _ w) (fun w => rfl)) rfl rfl rfl ?_
  refine ow_y (y_indexArr (i := 15) rfl rfl arr_150 sz_5 (by omega)) rfl rfl rfl ?_
  refine ow_y (y_load rfl pt_5 (.inr hm) rfl) rfl rfl rfl ?_
  refine ow_y (y_convInt rfl cv_5_3) rfl rfl rfl ?_
  refine ow_y (y_assign rfl) rfl rfl rfl ?_
  refine ow_nil ?_
  refine cw_ret ?_
  repeat with_reducible first | refine thenQ_ret ?_ | refine thenQ_normal ?_ | refine thenQ_exit ?_ | refine blockQ_ret ?_ | refine blockQ_normal ?_ | refine blockQ_exit_same ?_ | refine blockQ_exit_ne rfl ?_
  refine body_ret (.one (.tmp rfl)) ?_
  rfl

theorem pow2_c (R L : Heap) : FnW Tryz.prog 66 [.int .i64 16] R L fun v L' => v = .bool true ∧ L' = L := FnW.gen (pow2_w R) L
theorem tz64_c (R L : Heap) (hR : GlobP R) : FnW Tryz.prog 84 [.int .u64 16] R L fun v L' => v = .int .i64 4 ∧ L' = L := FnW.gen (tz64_w R hR) L

set_option maxRecDepth 100000 in
set_option maxHeartbeats 400000 in
theorem tz_w : ∀ (R : Heap), GlobP R → FnW Tryz.prog 67 [.int .u64 16] R [] fun v _ => v = .int .i64 4 := by
  intro R hR
  refine fn_of_body Tryz.func67 rfl Tryz.ntmps67 Tryz.results67 (by rfl) ?_
  refine cw_regseq ?_
  refine ow_y (y_assign rfl) rfl rfl rfl ?_
  refine ow_nil ?_
  refine cw_seq ?_
  refine cw_if_f rfl ?_
  refine cw_skip ?_
  repeat with_reducible first | refine thenQ_ret ?_ | refine thenQ_normal ?_ | refine thenQ_exit ?_ | refine blockQ_ret ?_ | refine blockQ_normal ?_ | refine blockQ_exit_same ?_ | refine blockQ_exit_ne rfl ?_
  refine cw_regseq ?_
  refine ow_y (y_move rfl) rfl rfl rfl ?_
  refine ow_call rfl rfl (by rfl) ct_84 (tz64_c R _ hR) ?_
  rintro _ _ ⟨rfl, rfl⟩
  refine ow_y (y_assign rfl) rfl rfl rfl ?_
  refine ow_nil ?_
  refine cw_ret ?_
  repeat with_reducible first | refine thenQ_ret ?_ | refine thenQ_normal ?_ | refine thenQ_exit ?_ | refine blockQ_ret ?_ | refine blockQ_normal ?_ | refine blockQ_exit_same ?_ | refine blockQ_exit_ne rfl ?_
  refine body_ret (.one (.tmp rfl)) ?_
  rfl

theorem tz_c (R L : Heap) (hR : GlobP R) : FnW Tryz.prog 67 [.int .u64 16] R L fun v L' => v = .int .i64 4 ∧ L' = L := FnW.gen (tz_w R hR) L

set_option maxRecDepth 100000 in
set_option maxHeartbeats 4000000 in
theorem fmtBits_w : ∀ (R : Heap) (u0 : Nat), GlobP R → u0 < 4294967296 → FnW Tryz.prog 46 [.slice none 0 0, .int .u64 u0, .int .i64 16, .bool false, .bool false] R [] fun v _ => v = .tuple #[.slice none 0 0, str (hexText u0)] := by
  intro R u0 hR hu0
  refine fn_of_body Tryz.func46 rfl Tryz.ntmps46 Tryz.results46 (by rfl) ?_
  refine cw_regseq ?_
  refine ow_y (y_assign rfl) rfl rfl rfl ?_
  refine ow_y (y_assign rfl) rfl rfl rfl ?_
  refine ow_nil ?_
  refine cw_seq ?_
  refine cw_regseq ?_
  refine ow_y (y_move rfl) rfl rfl rfl ?_
  refine ow_cmp_f rfl rfl rfl rfl rfl (by simp only [cmpP]; try omega) ?_
  refine ow_y (y_move rfl) rfl rfl rfl ?_
  refine ow_y (y_move rfl) rfl rfl rfl ?_
  refine ow_cmp_f rfl rfl rfl rfl rfl (by simp only [cmpP]; try omega) ?_
  refine ow_y (y_pick_f rfl rfl) rfl rfl rfl ?_
  refine ow_y (y_move rfl) rfl rfl rfl ?_
  refine ow_y (y_move rfl) rfl rfl rfl ?_
  refine ow_cmp_f rfl rfl rfl rfl rfl (by simp only [cmpP]; try omega) ?_
  refine ow_y (y_pick_f rfl rfl) rfl rfl rfl ?_
  refine ow_nil ?_
  refine cw_if_f rfl ?_
  refine cw_skip ?_
  repeat with_reducible first | refine thenQ_ret ?_ | refine thenQ_normal ?_ | refine thenQ_exit ?_ | refine blockQ_ret ?_ | refine blockQ_normal ?_ | refine blockQ_exit_same ?_ | refine blockQ_exit_ne rfl ?_
  refine cw_regseq ?_
  refine ow_alloc rfl rfl zt_124 rfl (fun b12 => ?_)
  refine ow_nil ?_
  refine cw_regseq ?_
  refine ow_y (y_assign rfl) rfl rfl rfl ?_
  refine ow_nil ?_
  refine cw_seq ?_
  refine cw_regseq ?_
  refine ow_y (y_move rfl) rfl rfl rfl ?_
  refine ow_nil ?_
  refine cw_if_f rfl ?_
  refine cw_skip ?_
  repeat with_reducible first | refine thenQ_ret ?_ | refine thenQ_normal ?_ | refine thenQ_exit ?_ | refine blockQ_ret ?_ | refine blockQ_normal ?_ | refine blockQ_exit_same ?_ | refine blockQ_exit_ne rfl ?_
  refine cw_seq ?_
  refine cw_regseq ?_
  refine ow_y (y_move rfl) rfl rfl rfl ?_
  refine ow_call rfl rfl (by rfl) ct_66 (pow2_c R _) ?_
  · rintro _ _ ⟨rfl, rfl⟩
    refine ow_nil ?_
    refine cw_if_t rfl ?_
    refine cw_regseq ?_
    refine ow_y (y_move rfl) rfl rfl rfl ?_
    refine ow_y (y_conv_u64 rfl cv_3_68 (by omega) (by omega)) rfl rfl rfl ?_
    refine ow_call rfl rfl (by rfl) ct_67 (tz_c R _ hR) ?_
    rintro _ _ ⟨rfl, rfl⟩
    refine ow_y (y_conv_u64 rfl cv_3_68 (by omega) (by omega)) rfl rfl rfl ?_
    refine ow_y (y_assign rfl) rfl rfl rfl ?_
    refine ow_nil ?_
    refine cw_regseq ?_
    refine ow_y (y_move rfl) rfl rfl rfl ?_
    refine ow_y (y_conv_u64 rfl cv_3_51 (by omega) (by omega)) rfl rfl rfl ?_
    refine ow_y (y_assign rfl) rfl rfl rfl ?_
    refine ow_nil ?_
    refine cw_regseq ?_
    refine ow_y (y_move rfl) rfl rfl rfl ?_
    refine ow_y (y_conv_u64 rfl cv_3_68 (by omega) (by omega)) rfl rfl rfl ?_
    refine ow_y (y_bin (v := .int .u64 15) rfl rfl (fun w => run_guard_int _ _ _ _ _ _ w) (fun w => rfl)) rfl rfl rfl ?_
    refine ow_y (y_assign rfl) rfl rfl rfl ?_
    refine ow_nil ?_
    refine cw_seq ?_
    refine cw_block ?_
    refine cw_loop (α := Nat × List UInt8 × List Value) (fun x => [(1, .int .u64 (x.1 : Int)), (3, .bool false), (4, .bool false), (0, .slice none 0 0), (10, .slice none 0 0), (12, .pointer (some ⟨b12, 0, none⟩)), (13, .int .i64 ((65 - x.2.1.length : Nat) : Int)), (14, .int .u64 4), (15, .int .u64 16), (16, .int .u64 15)]) (fun x => [(b12, cb x.2.2 124)]) (fun x => x.1 < 4294967296 ∧ x.2.2.length = 65 ∧ x.2.1.length ≤ 64 ∧ x.2.2.drop (65 - x.2.1.length) = byteV x.2.1 ∧ hexText x.1 ++ x.2.1 = hexText u0) (fun x => x.1) (u0, [], List.replicate 65 (.int .u8 0)) ?_ (by repeat (first | exact EnvLe.nil _ | refine EnvLe.cons rfl ?_)) (by repeat (first | exact Split.nil | (apply Split.cons; · repeat (first | exact Pick.here | apply Pick.there)) | exact Split.whole _ | exact Split.front _ _ rfl | exact Split.back _ _ rfl | exact Split.app_nil _ | apply Split.skip)) ?_
    · exact ⟨hu0, by simp, by simp, rfl, by simp⟩
    · rintro ⟨u, suf, cells⟩ ⟨hu, hcl, hsl0, hdrop, hhex⟩
      simp only at hu hcl hsl0 hdrop hhex
      refine cw_seq ?_
      refine cw_regseq ?_
      refine ow_y (y_move rfl) rfl rfl rfl ?_
      refine ow_y (y_move rfl) rfl rfl rfl ?_
      refine ow_cmp rfl rfl rfl rfl rfl (fun h46 => ?_) (fun h46 => ?_)
      · simp only [cmpP] at h46
        refine ow_nil ?_
        refine cw_if_t rfl ?_
        refine cw_skip ?_
        repeat with_reducible first | refine thenQ_ret ?_ | refine thenQ_normal ?_ | refine thenQ_exit ?_ | refine blockQ_ret ?_ | refine blockQ_normal ?_ | refine blockQ_exit_same ?_ | refine blockQ_exit_ne rfl ?_
        refine cw_block ?_
        refine cw_regseq ?_
        refine ow_y (y_move rfl) rfl rfl rfl ?_
        have hul := hexText_len 7 u0 (by omega)
        have hup := hexText_pos u
        have hsl := congrArg List.length hhex
        rw [List.length_append] at hsl
        refine ow_y (y_bin (v := .int .i64 ((65 - (suf.length + 1) : Nat) : Int)) rfl rfl (fun w => run_guard_int _ _ _ _ _ _ w) (fun w => by rw [(run_bin_arith _ .i64 _ _ w).2.1 rfl, wrap64_id (by (try simp only); omega) (by (try simp only); omega)]; congr 2; (try simp only); omega)) rfl rfl rfl ?_
        refine ow_y (y_assign rfl) rfl rfl rfl ?_
        refine ow_nil ?_
        refine cw_regseq ?_
        refine ow_y (y_move rfl) rfl rfl rfl ?_
        refine ow_y (y_move rfl) rfl rfl rfl ?_
        refine ow_y (y_move rfl) rfl rfl rfl ?_
        refine ow_y (y_bin rfl rfl (fun w => run_guard_int _ _ _ _ _ _ w) (fun w => run_and15 _ u (by omega) w)) rfl rfl rfl ?_
        refine ow_y (y_idxStr (l := digs36) (i := u % 16) rfl rfl st_9 (digs_at _ (by omega))) rfl rfl rfl ?_
        refine ow_y (y_indexArr (i := 65 - (suf.length + 1)) rfl rfl arr_124 sz_5 (by omega)) rfl rfl rfl ?_
        refine ow_store rfl rfl rfl sz_5 rfl (by repeat (first | exact Upd.here | apply Upd.there)) (setL_set _ _ _ (by (try simp only); omega)) ?_
        refine ow_nil ?_
        refine cw_region ?_
        refine ow_y (y_move rfl) rfl rfl rfl ?_
        refine ow_y (y_move rfl) rfl rfl rfl ?_
        refine ow_y (y_bin rfl rfl (fun w => run_guard_int _ _ _ _ _ _ w) (fun w => run_shr4 _ u w)) rfl rfl rfl ?_
        refine ow_y (y_assign rfl) rfl rfl rfl ?_
        refine ow_nil ?_
        repeat with_reducible first | refine thenQ_ret ?_ | refine thenQ_normal ?_ | refine thenQ_exit ?_ | refine blockQ_ret ?_ | refine blockQ_normal ?_ | refine blockQ_exit_same ?_ | refine blockQ_exit_ne rfl ?_
        refine ⟨(u / 16, hexDig (u % 16) :: suf, cells.set (0 + (65 - (suf.length + 1)) * 1) (.int .u8 (hexDig (u % 16)).toNat)), _, ?_, ?_, (by repeat (first | exact EnvLe.nil _ | refine EnvLe.cons rfl ?_)), (by repeat (first | exact Split.nil | (apply Split.cons; · repeat (first | exact Pick.here | apply Pick.there)) | exact Split.whole _ | exact Split.front _ _ rfl | exact Split.back _ _ rfl | exact Split.app_nil _ | apply Split.skip))⟩
        · refine ⟨by simp only; omega, by simp only [List.length_set]; omega, by simp only [List.length_cons]; omega, ?_, ?_⟩
          · simp only [List.length_cons]
            rw [Nat.zero_add, Nat.mul_one]
            refine drop_set ?_ (by omega)
            have e : 65 - (suf.length + 1) + 1 = 65 - suf.length := by omega
            rw [e, hdrop]
          · simp only
            rw [← hhex, hexText_big (show 16 ≤ u by omega)]; simp
        · simp only; omega
      · simp only [cmpP] at h46
        refine ow_nil ?_
        refine cw_if_f rfl ?_
        refine cw_exit ?_
        repeat with_reducible first | refine thenQ_ret ?_ | refine thenQ_normal ?_ | refine thenQ_exit ?_ | refine blockQ_ret ?_ | refine blockQ_normal ?_ | refine blockQ_exit_same ?_ | refine blockQ_exit_ne rfl ?_
        refine cw_regseq ?_
        refine ow_y (y_move rfl) rfl rfl rfl ?_
        have hul := hexText_len 7 u0 (by omega)
        have hsl := congrArg List.length hhex
        have hus := hexText_small (show u < 16 by omega)
        rw [List.length_append, hus, List.length_singleton] at hsl
        refine ow_y (y_bin (v := .int .i64 ((65 - (suf.length + 1) : Nat) : Int)) rfl rfl (fun w => run_guard_int _ _ _ _ _ _ w) (fun w => by rw [(run_bin_arith _ .i64 _ _ w).2.1 rfl, wrap64_id (by (try simp only); omega) (by (try simp only); omega)]; congr 2; (try simp only); omega)) rfl rfl rfl ?_
        refine ow_y (y_assign rfl) rfl rfl rfl ?_
        refine ow_nil ?_
        refine cw_region ?_
        refine ow_y (y_move rfl) rfl rfl rfl ?_
        refine ow_y (y_move rfl) rfl rfl rfl ?_
        refine ow_y (y_idxStr (l := digs36) (i := u) rfl rfl st_9 (digs_at _ (by omega))) rfl rfl rfl ?_
        refine ow_y (y_indexArr (i := 65 - (suf.length + 1)) rfl rfl arr_124 sz_5 (by omega)) rfl rfl rfl ?_
        refine ow_store rfl rfl rfl sz_5 rfl (by repeat (first | exact Upd.here | apply Upd.there)) (setL_set _ _ _ (by (try simp only); omega)) ?_
        refine ow_nil ?_
        repeat with_reducible first | refine thenQ_ret ?_ | refine thenQ_normal ?_ | refine thenQ_exit ?_ | refine blockQ_ret ?_ | refine blockQ_normal ?_ | refine blockQ_exit_same ?_ | refine blockQ_exit_ne rfl ?_
        refine cw_seq ?_
        refine cw_regseq ?_
        refine ow_y (y_move rfl) rfl rfl rfl ?_
        refine ow_nil ?_
        refine cw_if_f rfl ?_
        refine cw_skip ?_
        repeat with_reducible first | refine thenQ_ret ?_ | refine thenQ_normal ?_ | refine thenQ_exit ?_ | refine blockQ_ret ?_ | refine blockQ_normal ?_ | refine blockQ_exit_same ?_ | refine blockQ_exit_ne rfl ?_
        refine cw_seq ?_
        refine cw_regseq ?_
        refine ow_y (y_move rfl) rfl rfl rfl ?_
        refine ow_nil ?_
        refine cw_if_f rfl ?_
        refine cw_skip ?_
        repeat with_reducible first | refine thenQ_ret ?_ | refine thenQ_normal ?_ | refine thenQ_exit ?_ | refine blockQ_ret ?_ | refine blockQ_normal ?_ | refine blockQ_exit_same ?_ | refine blockQ_exit_ne rfl ?_
        refine cw_regseq ?_
        refine ow_y (y_move rfl) rfl rfl rfl ?_
        refine ow_y (y_sliceArr (i := 65 - (suf.length + 1)) rfl rfl arr_124 sz_5 (by omega)) rfl rfl rfl ?_
        have hdr : (cells.set (0 + (65 - (suf.length + 1)) * 1) (.int .u8 (hexDig u).toNat)).drop (0 + (65 - (suf.length + 1)) * 1) = byteV (hexDig u :: suf) := by
          rw [Nat.zero_add, Nat.mul_one]
          refine drop_set ?_ (by omega)
          have e : 65 - (suf.length + 1) + 1 = 65 - suf.length := by omega
          rw [e, hdrop]
        have hle : 65 - (65 - (suf.length + 1)) = (hexDig u :: suf).length := by simp only [List.length_cons]; omega
        rw [hle]
        refine ow_y (y_bytesStr rfl ru_9_30b (by first | (apply In.own; (repeat (first | exact List.Mem.head _ | apply List.Mem.tail)); done) | (apply In.ro; (repeat (first | exact List.Mem.head _ | apply List.Mem.tail)); done)) (cells_at hdr)) rfl rfl rfl ?_
        refine ow_y (y_assign rfl) rfl rfl rfl ?_
        refine ow_nil ?_
        refine cw_ret ?_
        repeat with_reducible first | refine thenQ_ret ?_ | refine thenQ_normal ?_ | refine thenQ_exit ?_ | refine blockQ_ret ?_ | refine blockQ_normal ?_ | refine blockQ_exit_same ?_ | refine blockQ_exit_ne rfl ?_
        refine body_ret (.two (.tmp rfl) (.tmp rfl)) ?_
        rw [← hhex, hus]; rfl

end Go.Proofs.YtgppllppddaodaaGreatDoor

/-
  The walk of Print.
-/
namespace Go.Proofs.YtgppllppddaodaaGreatDoor
open Sl Am
open Go
theorem ct_14 : callT Tryz.prog 14 = true := by kernel_rfl
theorem ct_16 : callT Tryz.prog 16 = true := by kernel_rfl
theorem ct_17 : callT Tryz.prog 17 = true := by kernel_rfl
theorem ct_18 : callT Tryz.prog 18 = true := by kernel_rfl
theorem ct_19 : callT Tryz.prog 19 = true := by kernel_rfl
theorem ct_20 : callT Tryz.prog 20 = true := by kernel_rfl
theorem ct_30 : callT Tryz.prog 30 = true := by kernel_rfl
theorem ct_46 : callT Tryz.prog 46 = true := by kernel_rfl
theorem cv_36_51 : convT Tryz.prog 36 51 .u64 = true := by kernel_rfl
theorem el_22 : elemT Tryz.prog 22 = some 36 := by kernel_rfl
theorem sz_36 : sizeT Tryz.prog 36 = some 1 := by kernel_rfl
theorem zt_44 : zeroT Tryz.prog 44 = some (.agg #[.pointer none, .slice none 0 0]) := by kernel_rfl
theorem fmtBits_c (R L : Heap) (u : Nat) (hR : GlobP R) (hu : u < 4294967296) : FnW Tryz.prog 46 [.slice none 0 0, .int .u64 u, .int .i64 16, .bool false, .bool false] R L fun v L' => v = .tuple #[.slice none 0 0, str (hexText u)] ∧ L' = L := FnW.gen (fmtBits_w R u hR hu) L

set_option maxRecDepth 100000 in
set_option maxHeartbeats 400000 in
theorem fmtUint_in : ∀ (R : Heap) (u : Nat), GlobP R → u < 4294967296 → FnW Tryz.prog 30 [.int .u64 u, .int .i64 16] R [] fun v _ => v = str (hexText u) := by
  intro R u hR hu
  refine fn_of_body Tryz.func30 rfl Tryz.ntmps30 Tryz.results30 (by rfl) ?_
  refine cw_regseq ?_
  refine ow_y (y_assign rfl) rfl rfl rfl ?_
  refine ow_nil ?_
  refine cw_seq ?_
  refine cw_regseq ?_
  refine ow_y (y_move rfl) rfl rfl rfl ?_
  refine ow_cmp_f rfl rfl rfl rfl rfl (by simp only [cmpP]; try omega) ?_
  refine ow_nil ?_
  refine cw_if_f rfl ?_
  refine cw_skip ?_
  repeat with_reducible first | refine thenQ_ret ?_ | refine thenQ_normal ?_ | refine thenQ_exit ?_ | refine blockQ_ret ?_ | refine blockQ_normal ?_ | refine blockQ_exit_same ?_ | refine blockQ_exit_ne rfl ?_
  refine cw_regseq ?_
  refine ow_y (y_move rfl) rfl rfl rfl ?_
  refine ow_y (y_move rfl) rfl rfl rfl ?_
  refine ow_call rfl rfl (by rfl) ct_46 (fmtBits_c R _ u hR hu) ?_
  rintro _ _ ⟨rfl, rfl⟩
  refine ow_y (y_move rfl) rfl rfl rfl ?_
  refine ow_y (y_extract rfl rfl) rfl rfl rfl ?_
  refine ow_y (y_extract rfl rfl) rfl rfl rfl ?_
  refine ow_y (y_assign rfl) rfl rfl rfl ?_
  refine ow_y (y_assign rfl) rfl rfl rfl ?_
  refine ow_nil ?_
  refine cw_regseq ?_
  refine ow_y (y_move rfl) rfl rfl rfl ?_
  refine ow_y (y_assign rfl) rfl rfl rfl ?_
  refine ow_nil ?_
  refine cw_ret ?_
  repeat with_reducible first | refine thenQ_ret ?_ | refine thenQ_normal ?_ | refine thenQ_exit ?_ | refine blockQ_ret ?_ | refine blockQ_normal ?_ | refine blockQ_exit_same ?_ | refine blockQ_exit_ne rfl ?_
  refine body_ret (.one (.tmp rfl)) ?_
  rfl

theorem fmtUint_in_c (R L : Heap) (u : Nat) (hR : GlobP R) (hu : u < 4294967296) : FnW Tryz.prog 30 [.int .u64 u, .int .i64 16] R L fun v L' => v = str (hexText u) ∧ L' = L := FnW.gen (fmtUint_in R u hR hu) L

set_option maxRecDepth 100000 in
set_option maxHeartbeats 400000 in
theorem fmtUint_w : ∀ (R : Heap) (u : Nat), GlobP R → u < 4294967296 → FnW Tryz.prog 18 [.int .u64 u, .int .i64 16] R [] fun v _ => v = str (hexText u) := by
  intro R u hR hu
  refine fn_of_body Tryz.func18 rfl Tryz.ntmps18 Tryz.results18 (by rfl) ?_
  refine cw_regseq ?_
  refine ow_y (y_assign rfl) rfl rfl rfl ?_
  refine ow_nil ?_
  refine cw_regseq ?_
  refine ow_y (y_move rfl) rfl rfl rfl ?_
  refine ow_y (y_move rfl) rfl rfl rfl ?_
  refine ow_call rfl rfl (by rfl) ct_30 (fmtUint_in_c R _ u hR hu) ?_
  rintro _ _ ⟨rfl, rfl⟩
  refine ow_y (y_assign rfl) rfl rfl rfl ?_
  refine ow_nil ?_
  refine cw_ret ?_
  repeat with_reducible first | refine thenQ_ret ?_ | refine thenQ_normal ?_ | refine thenQ_exit ?_ | refine blockQ_ret ?_ | refine blockQ_normal ?_ | refine blockQ_exit_same ?_ | refine blockQ_exit_ne rfl ?_
  refine body_ret (.one (.tmp rfl)) ?_
  rfl

theorem fmtUint_c (R L : Heap) (u : Nat) (hR : GlobP R) (hu : u < 4294967296) : FnW Tryz.prog 18 [.int .u64 u, .int .i64 16] R L fun v L' => v = str (hexText u) ∧ L' = L := FnW.gen (fmtUint_w R u hR hu) L
theorem lineText_c (R L : Heap) (i : Ins) (hR : Glob R) (hs : Small i) : FnW Tryz.prog 17 [.agg (encI i).toArray] R L fun v L' => v = str (lineText i) ∧ L' = L := FnW.gen (lineText_w R i hR hs) L
/-- A slice of words, read only. -/
def U32S (R : Heap) (v : Value) (ws : List Nat) : Prop := ∃ ad c, v = .slice ad ws.length c ∧ (ws ≠ [] → ∃ (b o : Nat) (cells : List Value) (T : TypeId) (f : Nat × Nat), ad = some ⟨b, o, none⟩ ∧ (b, .cells cells.toArray T f) ∈ R ∧ ∀ (j : Nat) w, ws[j]? = some w → cells[o + j]? = some (.int .u32 (w : Nat)))
theorem decodeW_small (w : Nat) (_h : w < 4294967296) : Small (decodeW w) := by
  unfold decodeW Small
  split <;> simp only <;> omega
theorem decode_ok {w : Nat} (h : (Am.decode w).2 = 0) : (Am.decode w).1 = decodeW w := by
  unfold Am.decode at h ⊢
  split at h
  · rename_i hr; rw [if_pos hr]
  · cases h
theorem lineText_len {i : Ins} (hs : Small i) : (lineText i).length ≤ 105 := by
  have h1 := mnem_len i.op
  unfold lineText
  split
  · omega
  · split
    · rename_i hm
      rw [mem_texts hm]
      obtain ⟨q1, q2, q3, q4, q5, q6, q7, q8⟩ := hs
      have ha := Lib.itoa_length_le i.a (by omega) (by omega)
      have hb := Lib.itoa_length_le i.b (by omega) (by omega)
      have hi := Lib.itoa_length_le i.imm (by omega) (by omega)
      simp only [List.length_append, List.length_cons, List.length_nil, List.getD_cons_zero, List.getD_cons_succ]
      omega
    · have hj : (Lib.join (opTexts i) [44, 32]).length ≤ (opTexts i).length * 24 := join_len (m := 22) (sep := [44, 32]) _ (opTexts_len hs)
      have hc := opTexts_count i
      simp only [List.length_append, List.length_cons, List.length_nil]
      omega
theorem wordText_len {w : Nat} (h : w < 4294967296) : (wordText w).length ≤ 106 := by
  have h1 := hexText_len 7 w (by omega)
  unfold wordText
  split
  · rename_i h2
    rw [decode_ok h2]
    have := lineText_len (decodeW_small w h)
    simp only [List.length_append, List.length_cons, List.length_nil]; omega
  · simp only [List.length_append, List.length_cons, List.length_nil, List.length_replicate]; omega
theorem wordText_ne (w : Nat) : wordText w ≠ [] := by
  unfold wordText; split <;> simp
theorem printT_snoc (ws : List Nat) (w : Nat) : printT (ws ++ [w]) = printT ws ++ wordText w := by simp [printT]
theorem take_snoc {ws : List Nat} {k w : Nat} (h : ws[k]? = some w) : ws.take (k + 1) = ws.take k ++ [w] := by
  have hlt : k < ws.length := by
    rcases Nat.lt_or_ge k ws.length with h' | h'
    · exact h'
    · simp [List.getElem?_eq_none h'] at h
  rw [List.getElem?_eq_getElem hlt] at h
  rw [List.take_succ_eq_append_getElem hlt, Option.some.inj h]

theorem rep48 : ∀ c : Nat, List.replicate c (48 : UInt8) = Lib.repeatL [48] c
  | 0 => by simp [Lib.repeatL]
  | c + 1 => by
    rw [List.replicate_succ, rep48 c]; rfl

set_option maxRecDepth 100000 in
set_option maxHeartbeats 4000000 in
theorem print_w : ∀ (R : Heap) (wv : Value) (ws : List Nat), GlobP R → U32S R wv ws → (∀ w ∈ ws, w < 4294967296) → ws.length ≤ 1073741824 → FnW Tryz.prog 11 [wv] R [] fun v _ => v = str (printT ws) := by
  intro R wv ws hR hU hw32 hwl
  obtain ⟨wad, wc, hwv, hwr⟩ := id hU
  refine fn_of_body Tryz.func11 rfl Tryz.ntmps11 Tryz.results11 (by rfl) ?_
  refine cw_regseq ?_
  refine ow_y (y_assign rfl) rfl rfl rfl ?_
  refine ow_nil ?_
  refine cw_regseq ?_
  refine ow_alloc rfl rfl zt_44 rfl (fun b3 => ?_)
  refine ow_nil ?_
  refine cw_seq ?_
  refine cw_regseq ?_
  refine ow_y (y_move rfl) rfl rfl rfl ?_
  refine ow_y (y_lenSl (congrArg some hwv) el_22) rfl rfl rfl ?_
  refine ow_y (y_move rfl) rfl rfl rfl ?_
  refine ow_nil ?_
  refine cw_block ?_
  refine cw_loop (α := Nat × List UInt8 × Value × Value × Heap) (fun x => [(3, .pointer (some ⟨b3, 0, none⟩)), (9, wv), (10, .int .i64 (ws.length : Int)), (11, .int .i64 (x.1 : Int))]) (fun x => (b3, cb [x.2.2.1, x.2.2.2.1] 44) :: x.2.2.2.2) (fun x => x.1 ≤ ws.length ∧ OwnS 5 1 x.2.2.2.1 x.2.2.2.2 x.2.1.length (byteV x.2.1) ∧ BAd b3 x.2.2.1 ∧ (x.2.1 = [] → x.2.2.2.1 = .slice none 0 0) ∧ printT (ws.take x.1) = x.2.1 ∧ x.2.1.length ≤ x.1 * 106) (fun x => ws.length - x.1) (0, [], .pointer none, .slice none 0 0, []) ?_ (by repeat (first | exact EnvLe.nil _ | refine EnvLe.cons rfl ?_)) (by repeat (first | exact Split.nil | (apply Split.cons; · repeat (first | exact Pick.here | apply Pick.there)) | exact Split.whole _ | exact Split.front _ _ rfl | exact Split.back _ _ rfl | exact Split.app_nil _ | apply Split.skip)) ?_
  · exact ⟨Nat.zero_le _, .nil, .inl rfl, fun _ => rfl, rfl, by simp⟩
  · rintro ⟨k, out, ad, sv, A⟩ ⟨hk, hown, hb, hnil, hout, hol⟩
    simp only at hk hown hb hnil hout hol
    refine cw_regseq ?_
    refine ow_cmp rfl rfl rfl rfl rfl (fun h12 => ?_) (fun h12 => ?_)
    · simp only [cmpP] at h12
      refine ow_nil ?_
      refine cw_seq ?_
      refine cw_if_t rfl ?_
      refine cw_skip ?_
      repeat with_reducible first | refine thenQ_ret ?_ | refine thenQ_normal ?_ | refine thenQ_exit ?_ | refine blockQ_ret ?_ | refine blockQ_normal ?_ | refine blockQ_exit_same ?_ | refine blockQ_exit_ne rfl ?_
      refine cw_seq ?_
      refine cw_block ?_
      refine cw_regseq ?_
      obtain ⟨wd, hwd⟩ : ∃ wd, ws[k]? = some wd := ⟨_, List.getElem?_eq_getElem (by omega)⟩
      have hwt32 : wd < 4294967296 := hw32 wd (List.mem_of_getElem? hwd)
      have hlt : k < ws.length := by omega
      obtain ⟨wb, wo, wcells, wT, wf, hwad, hwm, hwat⟩ := hwr (by intro h; rw [h] at hlt; simp at hlt)
      have hw1 : wcells[wo + k * 1]? = some (.int .u32 (wd : Nat)) := by rw [Nat.mul_one]; exact hwat k wd hwd
      subst hwad
      refine ow_y (y_indexAddr (i := k) (congrArg some hwv) rfl el_22 sz_36 (by omega)) rfl rfl rfl ?_
      refine ow_y (y_load rfl pt_36 (.inr hwm) hw1) rfl rfl rfl ?_
      refine ow_y (y_assign rfl) rfl rfl rfl ?_
      refine ow_nil ?_
      refine cw_regseq ?_
      refine ow_y (y_move rfl) rfl rfl rfl ?_
      refine ow_call rfl rfl (by rfl) ct_14 (Decode_c R _ hR.base (wd : Int) (by omega) (by omega)) ?_
      rintro _ _ ⟨rfl, rfl⟩
      refine ow_y (y_move rfl) rfl rfl rfl ?_
      refine ow_y (y_extract rfl rfl) rfl rfl rfl ?_
      refine ow_y (y_extract rfl rfl) rfl rfl rfl ?_
      refine ow_alloc rfl rfl zt_33 rfl (fun b6 => ?_)
      refine ow_storeAgg rfl rfl rfl sz_33 rfl rfl (by repeat (first | exact Upd.here | apply Upd.there)) (by repeat (first | exact SetLs.nil | (apply SetLs.cons; · repeat (first | exact SetL.here | apply SetL.there)))) ?_
      refine ow_y (y_assign rfl) rfl rfl rfl ?_
      refine ow_nil ?_
      refine cw_regseq ?_
      refine ow_y (y_move rfl) rfl rfl rfl ?_
      refine ow_cmp rfl rfl rfl rfl rfl (fun h21 => ?_) (fun h21 => ?_)
      · simp only [cmpP] at h21
        refine ow_nil ?_
        refine cw_if_t rfl ?_
        refine cw_region ?_
        refine ow_y (y_loadAgg rfl at_33 sz_33 (by first | (apply In.own; (repeat (first | exact List.Mem.head _ | apply List.Mem.tail)); done) | (apply In.ro; (repeat (first | exact List.Mem.head _ | apply List.Mem.tail)); done)) (by repeat (first | exact Sub.nil | apply Sub.take | apply Sub.skip))) rfl rfl rfl ?_
        refine ow_call rfl rfl (by rfl) ct_17 (lineText_c R _ (Am.decode wd).1 hR.base (by rw [decode_ok (by omega)]; exact decodeW_small wd hwt32)) ?_
        rintro _ _ ⟨rfl, rfl⟩
        have hll : (lineText (Am.decode wd).1).length ≤ 105 := by rw [decode_ok (by omega)]; exact lineText_len (decodeW_small wd hwt32)
        refine ow_y (y_concat rfl rfl (by first | omega | (simp; omega) | (simp only [List.length_append, List.length_cons, List.length_nil]; omega))) rfl rfl rfl ?_
        refine ow_call rfl rfl (by rfl) ct_16 (writeString_c (out := out) (lineText (Am.decode wd).1 ++ [10]) hb hown (by simp only [List.length_append, List.length_cons, List.length_nil] at *; omega) (by repeat (first | exact Split.nil | (apply Split.cons; · repeat (first | exact Pick.here | apply Pick.there)) | exact Split.whole _ | exact Split.front _ _ rfl | exact Split.back _ _ rfl | exact Split.app_nil _ | apply Split.skip))) ?_
        rintro _ _ ⟨sv2, A2, rfl, hown2⟩
        refine ow_nil ?_
        repeat with_reducible first | refine thenQ_ret ?_ | refine thenQ_normal ?_ | refine thenQ_exit ?_ | refine blockQ_ret ?_ | refine blockQ_normal ?_ | refine blockQ_exit_same ?_ | refine blockQ_exit_ne rfl ?_
        refine cw_region ?_
        refine ow_y (y_add64 rfl rfl (by omega)) rfl rfl rfl ?_
        refine ow_y (y_move rfl) rfl rfl rfl ?_
        refine ow_nil ?_
        repeat with_reducible first | refine thenQ_ret ?_ | refine thenQ_normal ?_ | refine thenQ_exit ?_ | refine blockQ_ret ?_ | refine blockQ_normal ?_ | refine blockQ_exit_same ?_ | refine blockQ_exit_ne rfl ?_
        refine ⟨(k + 1, out ++ (lineText (Am.decode wd).1 ++ [10]), .pointer (some ⟨b3, 0, none⟩), sv2, A2), _, ?_, ?_, (by repeat (first | exact EnvLe.nil _ | refine EnvLe.cons rfl ?_)), (by repeat (first | exact Split.nil | (apply Split.cons; · repeat (first | exact Pick.here | apply Pick.there)) | exact Split.whole _ | exact Split.front _ _ rfl | exact Split.back _ _ rfl | exact Split.app_nil _ | apply Split.skip))⟩
        · have hwt : wordText wd = lineText (Am.decode wd).1 ++ [10] := by unfold wordText; rw [if_pos (by omega)]
          have hwl := wordText_len (w := wd) (hw32 wd (List.mem_of_getElem? hwd))
          refine ⟨hlt, hown2, .inr rfl, (fun h => ?_), ?_, ?_⟩
          · simp only at h; rw [← hwt] at h; exact absurd (List.append_eq_nil_iff.1 h).2 (wordText_ne wd)
          · simp only; rw [take_snoc hwd, printT_snoc, hout, hwt]
          · simp only; rw [← hwt, List.length_append]; omega
        · simp only; omega
      · simp only [cmpP] at h21
        refine ow_nil ?_
        refine cw_if_f rfl ?_
        refine cw_regseq ?_
        refine ow_y (y_move rfl) rfl rfl rfl ?_
        refine ow_y (y_conv_u64 rfl cv_36_51 (by omega) (by omega)) rfl rfl rfl ?_
        refine ow_call rfl rfl (by rfl) ct_18 (fmtUint_c R _ wd hR hwt32) ?_
        rintro _ _ ⟨rfl, rfl⟩
        have hhl := hexText_len 7 wd (by omega)
        refine ow_y (y_assign rfl) rfl rfl rfl ?_
        refine ow_nil ?_
        refine cw_region ?_
        refine ow_y (y_move rfl) rfl rfl rfl ?_
        refine ow_y (y_lenStr rfl st_9) rfl rfl rfl ?_
        refine ow_y (y_bin (v := .int .i64 ((8 - (hexText wd).length : Nat) : Int)) rfl rfl (fun w => run_guard_int _ _ _ _ _ _ w) (fun w => by rw [(run_bin_arith _ .i64 _ _ w).2.1 rfl, wrap64_id (by omega) (by omega)]; congr 2; omega)) rfl rfl rfl ?_
        refine ow_call rfl rfl (by rfl) ct_19 (repeat_c R _ [48] (8 - (hexText wd).length) (by omega) (by simp; omega)) ?_
        rintro _ _ ⟨rfl, rfl⟩
        have hrl : (Lib.repeatL [48] (8 - (hexText wd).length)).length = 8 - (hexText wd).length := by rw [← rep48, List.length_replicate]
        refine ow_y (y_concat rfl rfl (by first | omega | (simp; omega) | (simp only [List.length_append, List.length_cons, List.length_nil]; omega))) rfl rfl rfl ?_
        refine ow_y (y_move rfl) rfl rfl rfl ?_
        refine ow_y (y_concat rfl rfl (by first | omega | (simp; omega) | (simp only [List.length_append, List.length_cons, List.length_nil]; omega))) rfl rfl rfl ?_
        refine ow_y (y_concat rfl rfl (by first | omega | (simp; omega) | (simp only [List.length_append, List.length_cons, List.length_nil]; omega))) rfl rfl rfl ?_
        refine ow_call rfl rfl (by rfl) ct_16 (writeString_c (out := out) ([119, 111, 114, 100, 32, 48, 120] ++ Lib.repeatL [48] (8 - (hexText wd).length) ++ hexText wd ++ [10]) hb hown (by simp only [List.length_append, List.length_cons, List.length_nil] at *; omega) (by repeat (first | exact Split.nil | (apply Split.cons; · repeat (first | exact Pick.here | apply Pick.there)) | exact Split.whole _ | exact Split.front _ _ rfl | exact Split.back _ _ rfl | exact Split.app_nil _ | apply Split.skip))) ?_
        rintro _ _ ⟨sv2, A2, rfl, hown2⟩
        refine ow_nil ?_
        repeat with_reducible first | refine thenQ_ret ?_ | refine thenQ_normal ?_ | refine thenQ_exit ?_ | refine blockQ_ret ?_ | refine blockQ_normal ?_ | refine blockQ_exit_same ?_ | refine blockQ_exit_ne rfl ?_
        refine cw_region ?_
        refine ow_y (y_add64 rfl rfl (by omega)) rfl rfl rfl ?_
        refine ow_y (y_move rfl) rfl rfl rfl ?_
        refine ow_nil ?_
        repeat with_reducible first | refine thenQ_ret ?_ | refine thenQ_normal ?_ | refine thenQ_exit ?_ | refine blockQ_ret ?_ | refine blockQ_normal ?_ | refine blockQ_exit_same ?_ | refine blockQ_exit_ne rfl ?_
        refine ⟨(k + 1, out ++ ([119, 111, 114, 100, 32, 48, 120] ++ Lib.repeatL [48] (8 - (hexText wd).length) ++ hexText wd ++ [10]), .pointer (some ⟨b3, 0, none⟩), sv2, A2), _, ?_, ?_, (by repeat (first | exact EnvLe.nil _ | refine EnvLe.cons rfl ?_)), (by repeat (first | exact Split.nil | (apply Split.cons; · repeat (first | exact Pick.here | apply Pick.there)) | exact Split.whole _ | exact Split.front _ _ rfl | exact Split.back _ _ rfl | exact Split.app_nil _ | apply Split.skip))⟩
        · have hwt : wordText wd = [119, 111, 114, 100, 32, 48, 120] ++ Lib.repeatL [48] (8 - (hexText wd).length) ++ hexText wd ++ [10] := by unfold wordText; rw [if_neg (by omega), rep48]
          have hwl := wordText_len (w := wd) (hw32 wd (List.mem_of_getElem? hwd))
          refine ⟨hlt, hown2, .inr rfl, (fun h => ?_), ?_, ?_⟩
          · simp only at h; rw [← hwt] at h; exact absurd (List.append_eq_nil_iff.1 h).2 (wordText_ne wd)
          · simp only; rw [take_snoc hwd, printT_snoc, hout, hwt]
          · simp only; rw [← hwt, List.length_append]; omega
        · simp only; omega
    · simp only [cmpP] at h12
      refine ow_nil ?_
      refine cw_seq ?_
      refine cw_if_f rfl ?_
      refine cw_exit ?_
      repeat with_reducible first | refine thenQ_ret ?_ | refine thenQ_normal ?_ | refine thenQ_exit ?_ | refine blockQ_ret ?_ | refine blockQ_normal ?_ | refine blockQ_exit_same ?_ | refine blockQ_exit_ne rfl ?_
      refine cw_regseq ?_
      refine ow_call rfl rfl (by rfl) ct_20 (string_c hown hnil (by omega) (by repeat (first | exact Split.nil | (apply Split.cons; · repeat (first | exact Pick.here | apply Pick.there)) | exact Split.whole _ | exact Split.front _ _ rfl | exact Split.back _ _ rfl | exact Split.app_nil _ | apply Split.skip))) ?_
      intro v L2 hv
      refine ow_y (y_assign rfl) rfl rfl rfl ?_
      refine ow_nil ?_
      refine cw_ret ?_
      repeat with_reducible first | refine thenQ_ret ?_ | refine thenQ_normal ?_ | refine thenQ_exit ?_ | refine blockQ_ret ?_ | refine blockQ_normal ?_ | refine blockQ_exit_same ?_ | refine blockQ_exit_ne rfl ?_
      refine body_ret (.one (.tmp rfl)) ?_
      have hkl : k = ws.length := by omega
      subst hkl
      rw [List.take_length] at hout
      rw [hv, ← hout]

end Go.Proofs.YtgppllppddaodaaGreatDoor

/-
  The walk of same.
-/
namespace Go.Proofs.YtgppllppddaodaaGreatDoor
open Sl Am
open Go

/-- A slice of words, read only. -/
def U32R (R : Heap) (v : Value) (ws : List Int) : Prop := ∃ ad c, v = .slice ad ws.length c ∧ (ws ≠ [] → ∃ (b o : Nat) (cells : List Value) (T : TypeId) (f : Nat × Nat), ad = some ⟨b, o, none⟩ ∧ (b, .cells cells.toArray T f) ∈ R ∧ ∀ (j : Nat) w, ws[j]? = some w → cells[o + j]? = some (.int .u32 w))
theorem take_snocI {ws : List Int} {k : Nat} {w : Int} (h : ws[k]? = some w) : ws.take (k + 1) = ws.take k ++ [w] := by
  have hlt : k < ws.length := by
    rcases Nat.lt_or_ge k ws.length with h' | h'
    · exact h'
    · simp [List.getElem?_eq_none h'] at h
  rw [List.getElem?_eq_getElem hlt] at h
  rw [List.take_succ_eq_append_getElem hlt, Option.some.inj h]

set_option maxRecDepth 100000 in
set_option maxHeartbeats 400000 in
theorem same_w : ∀ (R : Heap) (va vb : Value) (xs ys : List Int), xs.length ≤ 4294967296 → U32R R va xs → U32R R vb ys → FnW Tryz.prog 13 [va, vb] R [] fun v _ => v = .bool (decide (xs = ys)) := by
  rintro R va vb xs ys hxl ⟨ada, ca, hva, hra⟩ ⟨adb, cb2, hvb, hrb⟩
  refine fn_of_body Tryz.func13 rfl Tryz.ntmps13 Tryz.results13 (by rfl) ?_
  refine cw_regseq ?_
  refine ow_y (y_assign rfl) rfl rfl rfl ?_
  refine ow_nil ?_
  refine cw_seq ?_
  refine cw_regseq ?_
  refine ow_y (y_move rfl) rfl rfl rfl ?_
  refine ow_y (y_lenSl (congrArg some hva) el_22) rfl rfl rfl ?_
  refine ow_y (y_move rfl) rfl rfl rfl ?_
  refine ow_y (y_lenSl (congrArg some hvb) el_22) rfl rfl rfl ?_
  refine ow_cmp rfl rfl rfl rfl rfl (fun h10 => ?_) (fun h10 => ?_)
  · simp only [cmpP] at h10
    refine ow_nil ?_
    refine cw_if_t rfl ?_
    refine cw_regseq ?_
    refine ow_y (y_assign rfl) rfl rfl rfl ?_
    refine ow_nil ?_
    refine cw_ret ?_
    repeat with_reducible first | refine thenQ_ret ?_ | refine thenQ_normal ?_ | refine thenQ_exit ?_ | refine blockQ_ret ?_ | refine blockQ_normal ?_ | refine blockQ_exit_same ?_ | refine blockQ_exit_ne rfl ?_
    refine body_ret (.one (.tmp rfl)) ?_
    rw [decide_eq_false (fun h => h10 (by rw [h]))]
  · simp only [cmpP] at h10
    refine ow_nil ?_
    refine cw_if_f rfl ?_
    refine cw_skip ?_
    repeat with_reducible first | refine thenQ_ret ?_ | refine thenQ_normal ?_ | refine thenQ_exit ?_ | refine blockQ_ret ?_ | refine blockQ_normal ?_ | refine blockQ_exit_same ?_ | refine blockQ_exit_ne rfl ?_
    refine cw_seq ?_
    refine cw_regseq ?_
    refine ow_y (y_assign rfl) rfl rfl rfl ?_
    refine ow_nil ?_
    refine cw_block ?_
    refine cw_loop (α := Nat) (fun x => [(0, va), (1, vb), (5, .int .i64 (x : Int))]) (fun x => []) (fun x => x ≤ xs.length ∧ xs.take x = ys.take x) (fun x => xs.length - x) 0 ?_ (by repeat (first | exact EnvLe.nil _ | refine EnvLe.cons rfl ?_)) (by repeat (first | exact Split.nil | (apply Split.cons; · repeat (first | exact Pick.here | apply Pick.there)) | exact Split.whole _ | exact Split.front _ _ rfl | exact Split.back _ _ rfl | exact Split.app_nil _ | apply Split.skip)) ?_
    · exact ⟨Nat.zero_le _, by simp⟩
    · rintro k ⟨hk, heq⟩
      refine cw_seq ?_
      refine cw_regseq ?_
      refine ow_y (y_move rfl) rfl rfl rfl ?_
      refine ow_y (y_move rfl) rfl rfl rfl ?_
      refine ow_y (y_lenSl (congrArg some hva) el_22) rfl rfl rfl ?_
      refine ow_cmp rfl rfl rfl rfl rfl (fun h14 => ?_) (fun h14 => ?_)
      · simp only [cmpP] at h14
        refine ow_nil ?_
        refine cw_if_t rfl ?_
        refine cw_skip ?_
        repeat with_reducible first | refine thenQ_ret ?_ | refine thenQ_normal ?_ | refine thenQ_exit ?_ | refine blockQ_ret ?_ | refine blockQ_normal ?_ | refine blockQ_exit_same ?_ | refine blockQ_exit_ne rfl ?_
        refine cw_seq ?_
        refine cw_block ?_
        refine cw_drawseq [] (by kernel_rfl) rfl ?_
        have hlt : k < xs.length := by omega
        obtain ⟨a, ha⟩ : ∃ a, xs[k]? = some a := ⟨_, List.getElem?_eq_getElem hlt⟩
        obtain ⟨b, hb⟩ : ∃ b, ys[k]? = some b := ⟨_, List.getElem?_eq_getElem (by omega)⟩
        obtain ⟨ba, oa, cellsa, Ta, fa, hada, hma, hata⟩ := hra (by intro h; rw [h] at hlt; simp at hlt)
        obtain ⟨bb, ob, cellsb, Tb, fb, hadb, hmb, hatb⟩ := hrb (by intro h; rw [h] at h10; simp at h10; rw [h10] at hlt; simp at hlt)
        have hxa : cellsa[oa + k * 1]? = some (.int .u32 a) := by rw [Nat.mul_one]; exact hata k a ha
        have hxb : cellsb[ob + k * 1]? = some (.int .u32 b) := by rw [Nat.mul_one]; exact hatb k b hb
        subst hada
        subst hadb
        refine any_take 0 rfl (by kernel_rfl) (by kernel_rfl) (by kernel_rfl) rfl rfl rfl (by repeat (first | exact Split.nil | (apply Split.cons; · repeat (first | exact Pick.here | apply Pick.there)) | exact Split.whole _ | exact Split.front _ _ rfl | exact Split.back _ _ rfl | exact Split.app_nil _ | apply Split.skip)) (y_move rfl) ?_
        refine any_take 1 rfl (by kernel_rfl) (by kernel_rfl) (by kernel_rfl) rfl rfl rfl (by repeat (first | exact Split.nil | (apply Split.cons; · repeat (first | exact Pick.here | apply Pick.there)) | exact Split.whole _ | exact Split.front _ _ rfl | exact Split.back _ _ rfl | exact Split.app_nil _ | apply Split.skip)) (y_move rfl) ?_
        refine any_take 2 rfl (by kernel_rfl) (by kernel_rfl) (by kernel_rfl) rfl rfl rfl (by repeat (first | exact Split.nil | (apply Split.cons; · repeat (first | exact Pick.here | apply Pick.there)) | exact Split.whole _ | exact Split.front _ _ rfl | exact Split.back _ _ rfl | exact Split.app_nil _ | apply Split.skip)) (y_indexAddr (i := k) (congrArg some hva) rfl el_22 sz_36 (by omega)) ?_
        refine any_take 3 rfl (by kernel_rfl) (by kernel_rfl) (by kernel_rfl) rfl rfl rfl (by repeat (first | exact Split.nil | (apply Split.cons; · repeat (first | exact Pick.here | apply Pick.there)) | exact Split.whole _ | exact Split.front _ _ rfl | exact Split.back _ _ rfl | exact Split.app_nil _ | apply Split.skip)) (y_load rfl pt_36 (.inr hma) hxa) ?_
        refine any_take 4 rfl (by kernel_rfl) (by kernel_rfl) (by kernel_rfl) rfl rfl rfl (by repeat (first | exact Split.nil | (apply Split.cons; · repeat (first | exact Pick.here | apply Pick.there)) | exact Split.whole _ | exact Split.front _ _ rfl | exact Split.back _ _ rfl | exact Split.app_nil _ | apply Split.skip)) (y_move rfl) ?_
        refine any_take 5 rfl (by kernel_rfl) (by kernel_rfl) (by kernel_rfl) rfl rfl rfl (by repeat (first | exact Split.nil | (apply Split.cons; · repeat (first | exact Pick.here | apply Pick.there)) | exact Split.whole _ | exact Split.front _ _ rfl | exact Split.back _ _ rfl | exact Split.app_nil _ | apply Split.skip)) (y_move rfl) ?_
        refine any_take 6 rfl (by kernel_rfl) (by kernel_rfl) (by kernel_rfl) rfl rfl rfl (by repeat (first | exact Split.nil | (apply Split.cons; · repeat (first | exact Pick.here | apply Pick.there)) | exact Split.whole _ | exact Split.front _ _ rfl | exact Split.back _ _ rfl | exact Split.app_nil _ | apply Split.skip)) (y_indexAddr (i := k) (congrArg some hvb) rfl el_22 sz_36 (by omega)) ?_
        refine any_take 7 rfl (by kernel_rfl) (by kernel_rfl) (by kernel_rfl) rfl rfl rfl (by repeat (first | exact Split.nil | (apply Split.cons; · repeat (first | exact Pick.here | apply Pick.there)) | exact Split.whole _ | exact Split.front _ _ rfl | exact Split.back _ _ rfl | exact Split.app_nil _ | apply Split.skip)) (y_load rfl pt_36 (.inr hmb) hxb) ?_
        refine any_take 8 rfl (by kernel_rfl) (by kernel_rfl) (by kernel_rfl) rfl rfl rfl (by repeat (first | exact Split.nil | (apply Split.cons; · repeat (first | exact Pick.here | apply Pick.there)) | exact Split.whole _ | exact Split.front _ _ rfl | exact Split.back _ _ rfl | exact Split.app_nil _ | apply Split.skip)) (y_cmpB rfl rfl rfl) ?_
        refine any_done (by kernel_rfl) ?_
        refine cw_if rfl (fun hc1 => ?_) (fun hc1 => ?_)
        · have hne := hc1
          refine cw_regseq ?_
          refine ow_y (y_assign rfl) rfl rfl rfl ?_
          refine ow_nil ?_
          refine cw_ret ?_
          repeat with_reducible first | refine thenQ_ret ?_ | refine thenQ_normal ?_ | refine thenQ_exit ?_ | refine blockQ_ret ?_ | refine blockQ_normal ?_ | refine blockQ_exit_same ?_ | refine blockQ_exit_ne rfl ?_
          refine body_ret (.one (.tmp rfl)) ?_
          have hab : a ≠ b := of_decide_eq_true hne
          rw [decide_eq_false (fun h => hab (by rw [h] at ha; rw [ha] at hb; exact Option.some.inj hb))]
        · have hne := hc1
          refine cw_skip ?_
          repeat with_reducible first | refine thenQ_ret ?_ | refine thenQ_normal ?_ | refine thenQ_exit ?_ | refine blockQ_ret ?_ | refine blockQ_normal ?_ | refine blockQ_exit_same ?_ | refine blockQ_exit_ne rfl ?_
          refine cw_region ?_
          refine ow_y (y_move rfl) rfl rfl rfl ?_
          refine ow_y (y_add64 rfl rfl (by omega)) rfl rfl rfl ?_
          refine ow_y (y_assign rfl) rfl rfl rfl ?_
          refine ow_nil ?_
          repeat with_reducible first | refine thenQ_ret ?_ | refine thenQ_normal ?_ | refine thenQ_exit ?_ | refine blockQ_ret ?_ | refine blockQ_normal ?_ | refine blockQ_exit_same ?_ | refine blockQ_exit_ne rfl ?_
          refine ⟨(k + 1), _, ?_, ?_, (by repeat (first | exact EnvLe.nil _ | refine EnvLe.cons rfl ?_)), (by repeat (first | exact Split.nil | (apply Split.cons; · repeat (first | exact Pick.here | apply Pick.there)) | exact Split.whole _ | exact Split.front _ _ rfl | exact Split.back _ _ rfl | exact Split.app_nil _ | apply Split.skip))⟩
          · refine ⟨hlt, ?_⟩
            have hab : ¬ (a ≠ b) := of_decide_eq_false hne
            rw [take_snocI ha, take_snocI hb, heq, Classical.not_not.1 hab]
          · omega
      · simp only [cmpP] at h14
        refine ow_nil ?_
        refine cw_if_f rfl ?_
        refine cw_exit ?_
        repeat with_reducible first | refine thenQ_ret ?_ | refine thenQ_normal ?_ | refine thenQ_exit ?_ | refine blockQ_ret ?_ | refine blockQ_normal ?_ | refine blockQ_exit_same ?_ | refine blockQ_exit_ne rfl ?_
        refine cw_regseq ?_
        refine ow_y (y_assign rfl) rfl rfl rfl ?_
        refine ow_nil ?_
        refine cw_ret ?_
        repeat with_reducible first | refine thenQ_ret ?_ | refine thenQ_normal ?_ | refine thenQ_exit ?_ | refine blockQ_ret ?_ | refine blockQ_normal ?_ | refine blockQ_exit_same ?_ | refine blockQ_exit_ne rfl ?_
        refine body_ret (.one (.tmp rfl)) ?_
        have hxy : xs = ys := by
          have hk2 : k = xs.length := by omega
          have hl2 : xs.length = ys.length := by omega
          rw [hk2, List.take_length, hl2, List.take_length] at heq
          exact heq
        rw [decide_eq_true hxy]

theorem same_c (R L : Heap) (va vb : Value) (xs ys : List Int) (hl : xs.length ≤ 4294967296) (ha : U32R R va xs) (hb : U32R R vb ys) : FnW Tryz.prog 13 [va, vb] R L fun v L' => v = .bool (decide (xs = ys)) ∧ L' = L := FnW.gen (same_w R va vb xs ys hl ha hb) L

end Go.Proofs.YtgppllppddaodaaGreatDoor

/-
  The walk of awake.
-/
namespace Go.Proofs.YtgppllppddaodaaGreatDoor
open Sl Am
open Go
theorem ct_11 : callT Tryz.prog 11 = true := by kernel_rfl
theorem ct_12 : callT Tryz.prog 12 = true := by kernel_rfl
theorem ct_13 : callT Tryz.prog 13 = true := by kernel_rfl
theorem FnW.genR {P : Program} {f : FuncId} {args : List Value} {G : Value → Prop} {Rc R L : Heap} (h : FnW P f args Rc [] fun v _ => G v) (hR : ∀ p ∈ Rc, p ∈ R ∨ p ∈ L) : FnW P f args R L fun v L' => G v ∧ L' = L :=
  ((h.drop (G' := fun v L' => G v ∧ L' = []) fun v L' hG => ⟨[], L', .nil, hG, rfl⟩).frame (R := R) (L := L) .nil hR).mono fun v L' ⟨A', ⟨hG, hA⟩, hL⟩ => ⟨hG, by rw [hL, hA]; rfl⟩
theorem asm_f {R L : Heap} (base : Int) (src : List UInt8) (hR : Glob R) : FnW Tryz.prog 12 [.int .i64 base, str src] R L fun v L' => ∃ A', L' = A' ++ L ∧ AsmPost base src v A' :=
  ((asm_c R base src hR).frame (L := L) .nil (fun _ hp => .inl hp)).mono fun _ _ ⟨A', h, hL⟩ => ⟨A', hL, h⟩
theorem u32r_own {R A : Heap} {sv : Value} {ws : List Int} (h : OwnS 36 1 sv A ws.length (u32V ws)) : U32R (R ++ A) sv ws := by
  obtain ⟨ad, c, hv⟩ := own_slice h
  refine ⟨ad, c, hv, fun hne => ?_⟩
  obtain ⟨b, cap, cells, h1, h2, h3, h4⟩ := own_row h (List.length_pos_iff.2 hne)
  rw [hv] at h1
  simp only [Value.slice.injEq] at h1
  refine ⟨b, 0, cells, 36, (0, 0), h1.1, by rw [h2]; simp [cb], fun j w hj => ?_⟩
  have hjl : j < ws.length := by
    rcases Nat.lt_or_ge j ws.length with h' | h'
    · exact h'
    · simp [List.getElem?_eq_none h'] at hj
  rw [Nat.mul_one] at h4
  have := congrArg (fun q => q[j]?) h4
  simp only [List.getElem?_take, hjl, if_true, u32V, List.getElem?_map, hj] at this
  rw [Nat.zero_add]; exact this
theorem u32r_lit {R : Heap} {b c : Nat} (ws : List Int) (h : (b, cb (u32V ws) 36) ∈ R) : U32R R (.slice (some ⟨b, 0, none⟩) ws.length c) ws :=
  ⟨_, c, rfl, fun _ => ⟨b, 0, _, _, _, rfl, h, fun j w hj => by rw [Nat.zero_add, u32V, List.getElem?_map, hj]; rfl⟩⟩
theorem U32R.mono {R R' : Heap} {v : Value} {ws : List Int} (h : U32R R v ws) (hs : ∀ p ∈ R, p ∈ R') : U32R R' v ws := by
  obtain ⟨ad, c, hv, hr⟩ := h
  exact ⟨ad, c, hv, fun hne => let ⟨b, o, cells, T, f, h1, h2, h3⟩ := hr hne; ⟨b, o, cells, T, f, h1, hs _ h2, h3⟩⟩
theorem globP_mono {R A : Heap} (h : GlobP R) : GlobP (R ++ A) := ⟨glob_mono h.base, let ⟨T, f, hm⟩ := h.tab; ⟨T, f, List.mem_append_left _ hm⟩⟩
theorem u32s_lit {R : Heap} {b c : Nat} (ws : List Nat) (h : (b, cb (ws.map fun (n : Nat) => Value.int .u32 (n : Int)) 36) ∈ R) : U32S R (.slice (some ⟨b, 0, none⟩) ws.length c) ws :=
  ⟨_, c, rfl, fun _ => ⟨b, 0, _, _, _, rfl, h, fun j w hj => by rw [Nat.zero_add, List.getElem?_map, hj]; rfl⟩⟩

set_option maxRecDepth 100000 in
set_option maxHeartbeats 400000 in
theorem awake_w : ∀ (R : Heap), GlobP R → FnW Tryz.prog 10 [] R [] fun v _ => v = .bool true := by
  intro R hR
  refine fn_of_body Tryz.func10 rfl Tryz.ntmps10 Tryz.results10 (by rfl) ?_
  refine cw_regseq ?_
  refine ow_y (y_assign rfl) rfl rfl rfl ?_
  refine ow_nil ?_
  refine cw_regseq ?_
  refine ow_call rfl rfl (by rfl) ct_12 (asm_f 64 src1 hR.base) ?_
  rintro _ _ ⟨A1, rfl, hp1⟩
  rw [AsmPost, aw1] at hp1
  obtain ⟨sv1, rfl, hown1⟩ := hp1
  refine ow_y (y_move rfl) rfl rfl rfl ?_
  refine ow_y (y_extract rfl rfl) rfl rfl rfl ?_
  refine ow_y (y_extract rfl rfl) rfl rfl rfl ?_
  refine ow_y (y_extract rfl rfl) rfl rfl rfl ?_
  refine ow_y (y_assign rfl) rfl rfl rfl ?_
  refine ow_y (y_assign rfl) rfl rfl rfl ?_
  refine ow_y (y_assign rfl) rfl rfl rfl ?_
  refine ow_nil ?_
  refine cw_regseq ?_
  refine ow_buildSlice (el := 36) (zs := [.int .u32 0, .int .u32 0]) (fun i => some (i * 1, 1)) rfl rfl (by repeat (first | exact EvPs.nil | apply EvPs.cons rfl)) (by repeat (first | exact FillL.nil | (apply FillL.cons rfl rfl rfl; · repeat (first | exact SetLs.nil | (apply SetLs.cons; · repeat (first | exact SetL.here | apply SetL.there)))))) (fun _ => by kernel_rfl) (fun b15 => ?_)
  refine ow_call rfl rfl (by rfl) ct_11 (FnW.genR (print_w (R ++ [(b15, cb [.int .u32 118620168, .int .u32 0] 36)]) (.slice (some ⟨b15, 0, none⟩) 2 2) [118620168, 0] (globP_mono hR) (u32s_lit [118620168, 0] (List.mem_append_right _ (.head _))) (by decide) (by decide)) (by intro p hp; rcases List.mem_append.1 hp with h | h; exact .inl h; exact .inr (by simp at h; simp [h]))) ?_
  rintro _ _ ⟨rfl, rfl⟩
  rw [aw3]
  refine ow_y (y_assign rfl) rfl rfl rfl ?_
  refine ow_nil ?_
  refine cw_regseq ?_
  refine ow_call rfl rfl (by rfl) ct_12 (asm_f 0 src2 hR.base) ?_
  rintro _ _ ⟨A2, rfl, hp2⟩
  rw [AsmPost, aw2] at hp2
  obtain ⟨sv2, rfl, hown2⟩ := hp2
  refine ow_y (y_move rfl) rfl rfl rfl ?_
  refine ow_y (y_extract rfl rfl) rfl rfl rfl ?_
  refine ow_y (y_extract rfl rfl) rfl rfl rfl ?_
  refine ow_y (y_extract rfl rfl) rfl rfl rfl ?_
  refine ow_y (y_assign rfl) rfl rfl rfl ?_
  refine ow_y (y_assign rfl) rfl rfl rfl ?_
  refine ow_y (y_assign rfl) rfl rfl rfl ?_
  refine ow_nil ?_
  refine cw_regseq ?_
  refine ow_call rfl rfl (by rfl) ct_15 (Mnemonic_c R _ hR.base 25) ?_
  rintro _ _ ⟨rfl, rfl⟩
  rw [aw4]
  refine ow_y (y_assign rfl) rfl rfl rfl ?_
  refine ow_nil ?_
  refine cw_regseq ?_
  refine ow_y (y_move rfl) rfl rfl rfl ?_
  refine ow_buildSlice (el := 36) (zs := [.int .u32 0, .int .u32 0, .int .u32 0]) (fun i => some (i * 1, 1)) rfl rfl (by repeat (first | exact EvPs.nil | apply EvPs.cons rfl)) (by repeat (first | exact FillL.nil | (apply FillL.cons rfl rfl rfl; · repeat (first | exact SetLs.nil | (apply SetLs.cons; · repeat (first | exact SetL.here | apply SetL.there)))))) (fun _ => by kernel_rfl) (fun b24 => ?_)
  refine ow_call rfl rfl (by rfl) ct_13 (FnW.genR (same_w (R ++ (A1 ++ [(b24, cb [.int .u32 419430400, .int .u32 185729088, .int .u32 234881092] 36)])) sv1 (.slice (some ⟨b24, 0, none⟩) 3 3) [419430400, 185729088, 234881092] [419430400, 185729088, 234881092] (by decide) ((u32r_own (R := R) hown1).mono (by intro p hp; simp at hp ⊢; rcases hp with h | h <;> simp [h])) (u32r_lit [419430400, 185729088, 234881092] (by simp [u32V]))) (by intro p hp; simp at hp; rcases hp with h | h | h <;> simp [h])) ?_
  · rintro _ _ ⟨rfl, rfl⟩
    refine ow_y (y_assign rfl) rfl rfl rfl ?_
    refine ow_nil ?_
    refine cw_regseq ?_
    refine ow_y (y_move rfl) rfl rfl rfl ?_
    refine ow_y (y_move rfl) rfl rfl rfl ?_
    refine ow_y (y_move rfl) rfl rfl rfl ?_
    refine ow_cmp_t rfl rfl rfl rfl rfl (by simp only [cmpP]; try omega) ?_
    refine ow_y (y_pick_t rfl rfl) rfl rfl rfl ?_
    refine ow_y (y_move rfl) rfl rfl rfl ?_
    refine ow_y (y_move rfl) rfl rfl rfl ?_
    refine ow_streq rfl rfl rfl rfl (fun h33 => ?_) (fun h33 => ?_)
    · refine ow_y (y_pick_t rfl rfl) rfl rfl rfl ?_
      refine ow_y (y_move rfl) rfl rfl rfl ?_
      refine ow_y (y_move rfl) rfl rfl rfl ?_
      refine ow_cmp_t rfl rfl rfl rfl rfl (by simp only [cmpP]; try omega) ?_
      refine ow_y (y_pick_t rfl rfl) rfl rfl rfl ?_
      refine ow_y (y_move rfl) rfl rfl rfl ?_
      refine ow_y (y_move rfl) rfl rfl rfl ?_
      refine ow_cmp_t rfl rfl rfl rfl rfl (by simp only [cmpP]; try omega) ?_
      refine ow_y (y_pick_t rfl rfl) rfl rfl rfl ?_
      refine ow_y (y_move rfl) rfl rfl rfl ?_
      refine ow_y (y_move rfl) rfl rfl rfl ?_
      refine ow_streq rfl rfl rfl rfl (fun h45 => ?_) (fun h45 => ?_)
      · refine ow_y (y_pick_t rfl rfl) rfl rfl rfl ?_
        refine ow_y (y_assign rfl) rfl rfl rfl ?_
        refine ow_nil ?_
        refine cw_ret ?_
        repeat with_reducible first | refine thenQ_ret ?_ | refine thenQ_normal ?_ | refine thenQ_exit ?_ | refine blockQ_ret ?_ | refine blockQ_normal ?_ | refine blockQ_exit_same ?_ | refine blockQ_exit_ne rfl ?_
        refine body_ret (.one (.tmp rfl)) ?_
        rfl
      · exact absurd rfl h45
    · exact absurd rfl h33

theorem awake_c (R L : Heap) (hR : GlobP R) : FnW Tryz.prog 10 [] R L fun v L' => v = .bool true ∧ L' = L := FnW.gen (awake_w R hR) L

end Go.Proofs.YtgppllppddaodaaGreatDoor

/-
  The walk of AsmBack.
-/
namespace Go.Proofs.YtgppllppddaodaaGreatDoor
open Sl Am
open Go
theorem ct_10 : callT Tryz.prog 10 = true := by kernel_rfl
theorem u32s_r {R : Heap} {v : Value} {ws : List Nat} (h : U32S R v ws) : U32R R v (ws.map fun (w : Nat) => (w : Int)) := by
  obtain ⟨ad, c, hv, hr⟩ := h
  refine ⟨ad, c, by rw [List.length_map]; exact hv, fun hne => ?_⟩
  obtain ⟨b, o, cells, T, f, h1, h2, h3⟩ := hr (by intro h'; rw [h'] at hne; exact hne rfl)
  refine ⟨b, o, cells, T, f, h1, h2, fun j w hj => ?_⟩
  rw [List.getElem?_map] at hj
  cases hq : ws[j]? with
  | none => rw [hq] at hj; cases hj
  | some u => rw [hq] at hj; simp only [Option.map_some, Option.some.injEq] at hj; rw [← hj]; exact h3 j u hq

set_option maxRecDepth 100000 in
set_option maxHeartbeats 400000 in
theorem back_w : ∀ (R : Heap) (base : Int) (wv : Value) (ws : List Nat), GlobP R → U32S R wv ws → (∀ w ∈ ws, w < 4294967296) → FnW Tryz.prog 3 [.int .i64 base, wv] R [] fun v _ => v = .bool true := by
  intro R base wv ws hR hw hlt
  obtain ⟨ad, c, hv, _⟩ := id hw
  refine fn_of_body Tryz.func3 rfl Tryz.ntmps3 Tryz.results3 (by rfl) ?_
  refine cw_regseq ?_
  refine ow_y (y_assign rfl) rfl rfl rfl ?_
  refine ow_nil ?_
  refine cw_regseq ?_
  refine ow_call rfl rfl (by rfl) ct_10 (awake_c R _ hR) ?_
  · rintro _ _ ⟨rfl, rfl⟩
    refine ow_y (y_assign rfl) rfl rfl rfl ?_
    refine ow_nil ?_
    refine cw_seq ?_
    refine cw_regseq ?_
    refine ow_y (y_move rfl) rfl rfl rfl ?_
    refine ow_cmp rfl rfl rfl rfl rfl (fun h13 => ?_) (fun h13 => ?_)
    · simp only [cmpP] at h13
      refine ow_y (y_move rfl) rfl rfl rfl ?_
      refine ow_skip rfl rfl rfl ?_
      refine ow_skip rfl rfl rfl ?_
      refine ow_y (y_pick_t rfl rfl) rfl rfl rfl ?_
      refine ow_y (y_move rfl) rfl rfl rfl ?_
      refine ow_skip rfl rfl rfl ?_
      refine ow_skip rfl rfl rfl ?_
      refine ow_skip rfl rfl rfl ?_
      refine ow_y (y_pick_t rfl rfl) rfl rfl rfl ?_
      refine ow_nil ?_
      refine cw_if_t rfl ?_
      refine cw_regseq ?_
      refine ow_y (y_move rfl) rfl rfl rfl ?_
      refine ow_y (y_assign rfl) rfl rfl rfl ?_
      refine ow_nil ?_
      refine cw_ret ?_
      repeat with_reducible first | refine thenQ_ret ?_ | refine thenQ_normal ?_ | refine thenQ_exit ?_ | refine blockQ_ret ?_ | refine blockQ_normal ?_ | refine blockQ_exit_same ?_ | refine blockQ_exit_ne rfl ?_
      refine body_ret (.one (.tmp rfl)) ?_
      rfl
    · simp only [cmpP] at h13
      refine ow_y (y_move rfl) rfl rfl rfl ?_
      refine ow_y (y_move rfl) rfl rfl rfl ?_
      refine ow_cmp rfl rfl rfl rfl rfl (fun h16 => ?_) (fun h16 => ?_)
      · simp only [cmpP] at h16
        refine ow_y (y_pick_f rfl rfl) rfl rfl rfl ?_
        refine ow_y (y_move rfl) rfl rfl rfl ?_
        refine ow_skip rfl rfl rfl ?_
        refine ow_skip rfl rfl rfl ?_
        refine ow_skip rfl rfl rfl ?_
        refine ow_y (y_pick_t rfl rfl) rfl rfl rfl ?_
        refine ow_nil ?_
        refine cw_if_t rfl ?_
        refine cw_regseq ?_
        refine ow_y (y_move rfl) rfl rfl rfl ?_
        refine ow_y (y_assign rfl) rfl rfl rfl ?_
        refine ow_nil ?_
        refine cw_ret ?_
        repeat with_reducible first | refine thenQ_ret ?_ | refine thenQ_normal ?_ | refine thenQ_exit ?_ | refine blockQ_ret ?_ | refine blockQ_normal ?_ | refine blockQ_exit_same ?_ | refine blockQ_exit_ne rfl ?_
        refine body_ret (.one (.tmp rfl)) ?_
        rfl
      · simp only [cmpP] at h16
        refine ow_y (y_pick_f rfl rfl) rfl rfl rfl ?_
        refine ow_y (y_move rfl) rfl rfl rfl ?_
        refine ow_y (y_move rfl) rfl rfl rfl ?_
        refine ow_y (y_lenSl (congrArg some hv) el_22) rfl rfl rfl ?_
        refine ow_cmp rfl rfl rfl rfl rfl (fun h21 => ?_) (fun h21 => ?_)
        · simp only [cmpP] at h21
          refine ow_y (y_pick_f rfl rfl) rfl rfl rfl ?_
          refine ow_nil ?_
          refine cw_if_t rfl ?_
          refine cw_regseq ?_
          refine ow_y (y_move rfl) rfl rfl rfl ?_
          refine ow_y (y_assign rfl) rfl rfl rfl ?_
          refine ow_nil ?_
          refine cw_ret ?_
          repeat with_reducible first | refine thenQ_ret ?_ | refine thenQ_normal ?_ | refine thenQ_exit ?_ | refine blockQ_ret ?_ | refine blockQ_normal ?_ | refine blockQ_exit_same ?_ | refine blockQ_exit_ne rfl ?_
          refine body_ret (.one (.tmp rfl)) ?_
          rfl
        · simp only [cmpP] at h21
          refine ow_y (y_pick_f rfl rfl) rfl rfl rfl ?_
          refine ow_nil ?_
          refine cw_if_f rfl ?_
          refine cw_skip ?_
          repeat with_reducible first | refine thenQ_ret ?_ | refine thenQ_normal ?_ | refine thenQ_exit ?_ | refine blockQ_ret ?_ | refine blockQ_normal ?_ | refine blockQ_exit_same ?_ | refine blockQ_exit_ne rfl ?_
          refine cw_regseq ?_
          refine ow_y (y_move rfl) rfl rfl rfl ?_
          refine ow_call rfl rfl (by rfl) ct_11 (FnW.genR (print_w R wv ws hR hw hlt (by omega)) (fun p hp => .inl hp)) ?_
          rintro _ _ ⟨rfl, rfl⟩
          refine ow_y (y_assign rfl) rfl rfl rfl ?_
          refine ow_nil ?_
          refine cw_regseq ?_
          refine ow_y (y_move rfl) rfl rfl rfl ?_
          refine ow_y (y_move rfl) rfl rfl rfl ?_
          refine ow_call rfl rfl (by rfl) ct_12 (asm_f base (printT ws) hR.base) ?_
          rintro _ _ ⟨A, rfl, hp⟩
          rw [AsmPost, assemble_print (by omega) (by omega) (by omega) hlt] at hp
          obtain ⟨sv, rfl, hown⟩ := hp
          refine ow_y (y_move rfl) rfl rfl rfl ?_
          refine ow_y (y_extract rfl rfl) rfl rfl rfl ?_
          refine ow_y (y_extract rfl rfl) rfl rfl rfl ?_
          refine ow_y (y_extract rfl rfl) rfl rfl rfl ?_
          refine ow_y (y_assign rfl) rfl rfl rfl ?_
          refine ow_y (y_assign rfl) rfl rfl rfl ?_
          refine ow_y (y_assign rfl) rfl rfl rfl ?_
          refine ow_nil ?_
          refine cw_regseq ?_
          refine ow_y (y_move rfl) rfl rfl rfl ?_
          refine ow_y (y_move rfl) rfl rfl rfl ?_
          refine ow_call rfl rfl (by rfl) ct_13 (FnW.genR (same_w (R ++ A) sv wv (ws.map fun (w : Nat) => (w : Int)) (ws.map fun (w : Nat) => (w : Int)) (by rw [List.length_map]; omega) (u32r_own (R := R) hown) ((u32s_r hw).mono fun p hp => List.mem_append_left _ hp)) (by intro p hp; simpa using hp)) ?_
          · rintro _ _ ⟨rfl, rfl⟩
            rw [decide_eq_true rfl]
            refine ow_y (y_assign rfl) rfl rfl rfl ?_
            refine ow_nil ?_
            refine cw_regseq ?_
            refine ow_y (y_move rfl) rfl rfl rfl ?_
            refine ow_y (y_move rfl) rfl rfl rfl ?_
            refine ow_y (y_move rfl) rfl rfl rfl ?_
            refine ow_cmp_t rfl rfl rfl rfl rfl (by simp only [cmpP]; try omega) ?_
            refine ow_y (y_pick_t rfl rfl) rfl rfl rfl ?_
            refine ow_y (y_move rfl) rfl rfl rfl ?_
            refine ow_y (y_move rfl) rfl rfl rfl ?_
            refine ow_cmp_t rfl rfl rfl rfl rfl (by simp only [cmpP]; try omega) ?_
            refine ow_y (y_pick_t rfl rfl) rfl rfl rfl ?_
            refine ow_y (y_move rfl) rfl rfl rfl ?_
            refine ow_y (y_move rfl) rfl rfl rfl ?_
            refine ow_y (y_pick_t rfl rfl) rfl rfl rfl ?_
            refine ow_y (y_assign rfl) rfl rfl rfl ?_
            refine ow_nil ?_
            refine cw_ret ?_
            repeat with_reducible first | refine thenQ_ret ?_ | refine thenQ_normal ?_ | refine thenQ_exit ?_ | refine blockQ_ret ?_ | refine blockQ_normal ?_ | refine blockQ_exit_same ?_ | refine blockQ_exit_ne rfl ?_
            refine body_ret (.one (.tmp rfl)) ?_
            rfl

end Go.Proofs.YtgppllppddaodaaGreatDoor

/-
  What a row's premises give: the package-level variables that the library reads (GlobP), an argument that is a slice of words (U32S); and back: the answer, the arguments, all else as it was.
-/
namespace Go.Proofs.YtgppllppddaodaaGreatDoor
open Sl Am Go.ChangeShapes Go.WideShapes Go.ChangeAt Go.RowKit

theorem ownK : ownKnob Tryz.prog.godebug = none := by kernel_rfl
theorem laidOut : laidOutB Tryz.prog = true := by kernel_rfl

theorem trod_iface {P : Program} {w : World} {t : TypeId} {ms : Array (String × TypeId)} {fuel : Nat} {cs : List Value} {n : String} {d : DataW Unit} {p : List MemPlace} (ht : P.underlying t = some (.interface ms))
    (h : DataW.trod (fun _ => ()) P w 0 (fun _ => true) false fuel t cs = some (.iface n d, p)) : ∃ u v, cs = [.iface u v] := by
  cases fuel with
  | zero => simp [DataW.trod] at h
  | succ k =>
    unfold DataW.trod at h
    rw [ht] at h
    split at h <;> simp_all
theorem block_of_var {P : Program} {w : World} {n : String} {g : Nat} {cs : Array Value} (hg : P.globalNamed n = some g) (h : w.var? P n = some cs) : ∃ T f, w.heap[g]? = some (.cells cs T f) := by
  unfold World.var? at h
  rw [hg] at h
  simp only [Option.bind_some] at h
  split at h
  · rename_i cs' T f hh
    cases h
    exact ⟨T, f, hh⟩
  · cases h
theorem tab_of {W : World} {l : List (String × DataW Unit)} {name : String} {k : IntKind} {zs : List Int} {g n : Nat} {t e : TypeId} (hL : laidMet Tryz.prog l W) (hm : (name, Lib.tabData k zs) ∈ l)
    (hg : Tryz.prog.globalNamed name = some g) (hty : (Tryz.prog.globals[g]?).map (·.type) = some t) (ht : Tryz.prog.underlying t = some (.array n e)) (he : Tryz.prog.underlying e = some (.int k)) (hce : Tryz.prog.cellsOf e = 1) (hct : Tryz.prog.cellsOf t = n) :
    ∃ T f, W.heap[g]? = some (.cells (zs.map (Value.int k)).toArray T f) := by
  obtain ⟨g', t', cs, fuel, p, h1, h2, h3, h4⟩ := Lib.laidMet.reads hL hm
  obtain rfl := Option.some.inj (hg.symm.trans h1)
  obtain rfl := Option.some.inj (hty.symm.trans h2)
  have := Lib.cells_of_tab ht he hce hct h4
  rw [← this]
  exact block_of_var hg h3
theorem err_of {W : World} {l : List (String × DataW Unit)} {name : String} {d : DataW Unit} {nm : String} {g : Nat} {t : TypeId} {ms : Array (String × TypeId)} (hL : laidMet Tryz.prog l W) (hm : (name, .iface nm d) ∈ l)
    (hg : Tryz.prog.globalNamed name = some g) (hty : (Tryz.prog.globals[g]?).map (·.type) = some t) (ht : Tryz.prog.underlying t = some (.interface ms)) :
    ∃ te pe T f, W.heap[g]? = some (.cells #[.iface te pe] T f) := by
  obtain ⟨g', t', cs, fuel, p, h1, h2, h3, h4⟩ := Lib.laidMet.reads hL hm
  obtain rfl := Option.some.inj (hg.symm.trans h1)
  obtain rfl := Option.some.inj (hty.symm.trans h2)
  obtain ⟨u, v, hc⟩ := trod_iface ht h4
  obtain ⟨T, f, hb⟩ := block_of_var hg h3
  refine ⟨u, v, T, f, ?_⟩
  rw [hb]
  have : cs = #[.iface u v] := Array.toList_inj.1 hc
  rw [this]
/-- The rows' list. -/
def laidL : List (String × DataW Unit) := [("math/bits.deBruijn32tab", Rows.laid_math_bits_deBruijn32tab), ("math/bits.deBruijn64tab", Rows.laid_math_bits_deBruijn64tab), ("internal/strconv.uint64pow10", Rows.laid_internal_strconv_uint64pow10), ("unicode/utf8.acceptRanges", Rows.laid_unicode_utf8_acceptRanges), ("strconv.ErrRange", Rows.laid_strconv_ErrRange), ("strconv.ErrSyntax", Rows.laid_strconv_ErrSyntax), ("unicode/utf8.first", Rows.laid_unicode_utf8_first)]
theorem cell_int {P : Program} {w : World} {r : Reach} {base : Nat} {t : TypeId} {k : IntKind} {v : Value} (ht : P.underlying t = some (.int k)) (h : Cell.ok P w r base t v) : ∃ n, v = .int k n := by
  unfold Cell.ok at h
  rw [ht] at h
  cases v with
  | int k' n => exact ⟨n, by rw [h.1]⟩
  | _ => exact h.elim
set_option maxRecDepth 100000 in
theorem maxLen_of {W : World} (h : W.ShapedOpen Tryz.prog) : ∃ m T f, W.heap[1]? = some (.cells #[.int .i64 m] T f) := by
  obtain ⟨h1, _⟩ := h
  obtain ⟨cs, hc, hs, hb⟩ := h1 1 #[.int .i64 0] 3 (of_decide_eq_true (by kernel_rfl)) (by kernel_rfl)
  obtain ⟨ts, ht, ⟨k, hk⟩, hok⟩ := hb (by kernel_rfl)
  have hts : Tryz.prog.cellTypes Tryz.prog.depth 3 = some [3] := by kernel_rfl
  rw [hts] at ht
  obtain rfl := Option.some.inj ht
  have hs1 : cs.size = 1 := hs
  obtain ⟨v, rfl⟩ : ∃ v, cs = #[v] := by
    obtain ⟨l⟩ := cs
    match l, hs1 with
    | [v], _ => exact ⟨v, rfl⟩
  obtain ⟨u, hu, hv⟩ := hok 0 v rfl
  have hu3 : u = 3 := by
    have : ([3] : List TypeId)[0 % [3].length]? = some u := hu
    simpa using this.symm
  subst hu3
  obtain ⟨m, rfl⟩ := cell_int Tryz.underlying3 hv
  exact ⟨_, _, _, hc⟩
def deB64L : List Int := [0, 1, 56, 2, 57, 49, 28, 3, 61, 58, 42, 50, 38, 29, 17, 4, 62, 47, 59, 36, 45, 43, 51, 22, 53, 39, 33, 30, 24, 18, 12, 5, 63, 55, 48, 27, 60, 41, 37, 16, 46, 35, 44, 21, 52, 32, 23, 11, 54, 26, 40, 15, 34, 20, 31, 10, 25, 14, 19, 9, 13, 8, 7, 6]
theorem ifc46 : Tryz.prog.underlying 46 = some (.interface (Tryz.prog.methodsAt 46)) := by kernel_rfl
/-- The library's variables. -/
theorem globs {W : World} (hL : laidMetH Tryz.prog laidL W) (hS : W.ShapedOpen Tryz.prog) : ∃ R : Heap, GlobP R ∧ ∀ p ∈ R, W.heap[p.1]? = some p.2 := by
  rw [MakeChecks.laidMetH_plain _ _ _ (by kernel_rfl)] at hL
  have c4 : Tryz.prog.cellsOf 51 = 1 := by kernel_rfl
  obtain ⟨T0, f0, h0⟩ := tab_of (name := "internal/strconv.uint64pow10") (k := .u64) (zs := Lib.pow10Tab) (g := 0) (n := 20) (t := 123) (e := 51) hL (List.mem_of_getElem? (i := 2) (by kernel_rfl)) (by kernel_rfl) (by kernel_rfl) (by kernel_rfl) (by kernel_rfl) c4 (by kernel_rfl)
  obtain ⟨m, T1, f1, h1⟩ := maxLen_of hS
  obtain ⟨T3, f3, h3⟩ := tab_of (name := "math/bits.deBruijn64tab") (k := .u8) (zs := deB64L) (g := 3) (n := 64) (t := 150) (e := 5) hL (List.mem_of_getElem? (i := 1) (by kernel_rfl)) (by kernel_rfl) (by kernel_rfl) (by kernel_rfl) (by kernel_rfl) (by kernel_rfl) (by kernel_rfl)
  obtain ⟨u6, v6, T6, f6, h6⟩ := err_of (name := "strconv.ErrSyntax") (g := 6) (t := 46) hL (List.mem_of_getElem? (i := 5) rfl) (by kernel_rfl) (by kernel_rfl) ifc46
  obtain ⟨u7, v7, T7, f7, h7⟩ := err_of (name := "strconv.ErrRange") (g := 7) (t := 46) hL (List.mem_of_getElem? (i := 4) rfl) (by kernel_rfl) (by kernel_rfl) ifc46
  refine ⟨[(0, .cells pow10V.toArray T0 f0), (1, .cells #[.int .i64 m] T1 f1), (3, .cells deB64V.toArray T3 f3), (6, .cells #[.iface u6 v6] T6 f6), (7, .cells #[.iface u7 v7] T7 f7)], ⟨⟨⟨T0, f0, ?_⟩, ⟨m, T1, f1, ?_⟩, ⟨u6, v6, T6, f6, ?_⟩, ⟨u7, v7, T7, f7, ?_⟩⟩, ⟨T3, f3, ?_⟩⟩, ?_⟩
  · simp
  · simp
  · simp
  · simp
  · simp
  · intro p hp
    simp only [List.mem_cons, List.not_mem_nil, or_false] at hp
    rcases hp with rfl | rfl | rfl | rfl | rfl
    · exact h0
    · exact h1
    · exact h3
    · exact h6
    · exact h7
theorem U32S.mono {R R' : Heap} {v : Value} {ws : List Nat} (h : U32S R v ws) (hs : ∀ p ∈ R, p ∈ R') : U32S R' v ws := by
  obtain ⟨ad, c, hv, hr⟩ := h
  exact ⟨ad, c, hv, fun hne => let ⟨b, o, cells, T, f, h1, h2, h3⟩ := hr hne; ⟨b, o, cells, T, f, h1, hs _ h2, h3⟩⟩
set_option maxRecDepth 100000 in
/-- An argument that is a slice of words. -/
theorem words_of {H : Type} {enc : TypeId × Value → H} {W : World} {b0 : Nat} {v : Value} {d : DataW H} {p : List MemPlace} (hv : Value.okWide Tryz.prog W .any b0 22 v) (h : DataW.Trod enc Tryz.prog W 0 (fun _ => true) true 22 v d p) :
    ∃ (ws : List Nat) (R : Heap), U32S R v ws ∧ (∀ w ∈ ws, w < 4294967296) ∧ ∀ q ∈ R, W.heap[q.1]? = some q.2 := by
  have hs22 : Tryz.prog.underlying 22 = some (.slice 36) := by kernel_rfl
  have hs36 : Tryz.prog.underlying 36 = some (.int .u32) := by kernel_rfl
  obtain ⟨ad, len, cap, rfl⟩ := okWide_slice hs22 hv
  obtain ⟨fuel, hf⟩ := h
  have hcs : (Value.slice ad len cap).cells.toList = [.slice ad len cap] := rfl
  rw [hcs] at hf
  rcases open_ints hs22 hs36 (by kernel_rfl) hf with ⟨h1, _⟩ | ⟨a, len', cap', zs, h1, _, hlc, _, hzl, _, hcell, hwf⟩
  · simp only [List.cons.injEq, Value.slice.injEq, and_true] at h1
    obtain ⟨rfl, rfl, rfl⟩ := h1
    exact ⟨[], [], ⟨none, 0, rfl, fun h => absurd rfl h⟩, (fun w hw => by cases hw), (fun q hq => by cases hq)⟩
  · simp only [List.cons.injEq, Value.slice.injEq, and_true] at h1
    obtain ⟨rfl, rfl, rfl⟩ := h1
    simp only [if_true] at hzl
    have hws : ((zs.take len).map Int.toNat).length = len := by rw [List.length_map, List.length_take]; omega
    have hlt : ∀ w ∈ (zs.take len).map Int.toNat, w < 4294967296 := by
      intro w hw
      obtain ⟨z, hz, rfl⟩ := List.mem_map.1 hw
      have := bounds_u32 (hwf z (List.mem_of_mem_take hz))
      omega
    by_cases hne : (zs.take len).map Int.toNat = []
    · refine ⟨[], [], ⟨some a, cap, ?_, fun h => absurd rfl h⟩, (fun w hw => by cases hw), (fun q hq => by cases hq)⟩
      rw [hne] at hws
      simp only [List.length_nil] at hws ⊢
      rw [← hws]
    · have hlen : 0 < len := by rw [← hws]; exact List.length_pos_iff.2 hne
      have h0 := hcell 0 (by omega)
      obtain ⟨cs, T, f, hb, hsp⟩ : ∃ cs T f, W.heap[a.block]? = some (.cells cs T f) ∧ a.spot = none := by
        have e0 : a.add 0 = a := by simp [Addr.add]
        rw [e0] at h0
        unfold World.cell? at h0
        split at h0
        · rename_i c T f hh
          refine ⟨c, T, f, hh, ?_⟩
          cases hq : a.spot with
          | none => rfl
          | some q => rw [hq] at h0; simp at h0
        · cases h0
      obtain ⟨blk, off, spot⟩ := a
      simp only at hb hsp
      subst hsp
      refine ⟨(zs.take len).map Int.toNat, [(blk, .cells cs T f)], ⟨some ⟨blk, off, none⟩, cap, by rw [hws], fun _ => ⟨blk, off, cs.toList, T, f, rfl, by simp, fun j w hj => ?_⟩⟩, hlt, fun q hq => ?_⟩
      · have hjl : j < len := by
          rcases Nat.lt_or_ge j len with h' | h'
          · exact h'
          · rw [List.getElem?_eq_none (by omega)] at hj; cases hj
        have hc := hcell j (by omega)
        rw [add_addr] at hc
        have hcc : cs[off + j]? = some (.int .u32 (zs.getD j 0)) := by
          simpa [World.cell?, hb] using hc
        rw [List.getElem?_map, List.getElem?_take, if_pos hjl, List.getElem?_eq_getElem (by omega)] at hj
        simp only [Option.map_some, Option.some.injEq] at hj
        have hz : zs.getD j 0 = zs[j] := by rw [List.getD_eq_getElem?_getD, List.getElem?_eq_getElem (by omega)]; rfl
        have hb2 := bounds_u32 (hwf zs[j] (List.getElem_mem _))
        rw [hz] at hcc
        rw [← hj, Int.toNat_of_nonneg hb2.1]
        simpa using hcc
      · simp only [List.mem_singleton] at hq
        subst hq; exact hb
theorem args_stay {P : Program} (hl : laidOutB P = true) {H : Type} {enc : TypeId × Value → H} {W W' : World} (hb : RowKit.Below W.heap.size W W') : ∀ (ts : List TypeId) (vs : List Value) (ds : List (DataW H)) (ps : List MemPlace), (ts.all fun t => P.readableRec t && decide (t < P.types.size)) = true → (∀ x ∈ ps, x.block < W.heap.size) →
    DataW.TrodAll enc P W 0 (fun _ => true) true ts vs ds ps → DataW.TrodAll enc P W' 0 (fun b => decide (b < W.heap.size)) true ts vs ds ps
  | [], [], [], _, _, _, h => h
  | [], [], _ :: _, _, _, _, h => h.elim
  | [], _ :: _, _, _, _, _, h => h.elim
  | _ :: _, [], _, _, _, _, h => h.elim
  | _ :: _, _ :: _, [], _, _, _, h => h.elim
  | t :: ts, v :: vs, d :: ds, ps, ht, hlt, h => by
    obtain ⟨p, q, h1, h2, rfl⟩ := h
    simp only [List.all_cons, Bool.and_eq_true, decide_eq_true_eq] at ht
    exact ⟨p, q, Below.trod hl ht.1.1 ht.1.2 h1 hb fun x hx => hlt x (List.mem_append_left _ hx), args_stay hl hb ts vs ds q ht.2 (fun x hx => hlt x (List.mem_append_right _ hx)) h2, rfl⟩
/-- What a law leaves. -/
theorem law_post {H : Type} {enc : TypeId × Value → H} {W W' : World} {args : Array Value} {ds gs : List (DataW H)} {before : List MemPlace} {fn : Func} {s : ChangeSpec} (hv : s.vars = []) (hr : fn.resultTypes = #[4])
    (hts : (fn.params.toList.all fun t => Tryz.prog.readableRec t && decide (t < Tryz.prog.types.size)) = true) (hs : s.fn H (ds ++ gs) = { results := [.lit (.bool true)], args := ds })
    (hW : DataW.Whole enc Tryz.prog fn.params.toList s.vars false W args.toList ds gs before) (hb : RowKit.Below W.heap.size W W') : s.post enc Tryz.prog fn false true false false W args (.bool true) W' := by
  have hW' := hW
  obtain ⟨p, q, hA, hV, rfl, hfz, hnd⟩ := hW
  refine ⟨ds, gs, p ++ q, [], p, [], hW', ?_, ?_, ?_, hb.frame _, fun h => by cases h⟩
  · rw [hs, hr]
    exact trodAll_mk1 (shut_bool Tryz.underlying4 _)
  · rw [hs]
    exact args_stay laidOut hb _ _ _ _ hts (fun x hx => hW'.lt x (List.mem_append_left _ hx)) hA
  · rw [hs, hv]; rfl
set_option maxRecDepth 100000 in
/-- The witness's world. -/
theorem varsRef (os : Os) (args : Array Value) : ((World.laidAll Tryz.prog os laidL).forCall (fun _ _ => 0) ⟨#[], args, []⟩).variablesRefB Tryz.prog = true := by kernel_rfl
theorem varsRest (os : Os) (args : Array Value) : (((World.laidAll Tryz.prog os laidL).forCall (fun _ _ => 0) ⟨#[], args, []⟩).heap.toList.drop Tryz.prog.globals.size).take ((begin Tryz.prog (fun _ _ => 0) default).world.heap.size - Tryz.prog.globals.size) =
      (begin Tryz.prog (fun _ _ => 0) default).world.heap.toList.drop Tryz.prog.globals.size := by kernel_rfl
theorem laidMet_all (os : Os) (args : Array Value) : laidMet Tryz.prog laidL ((World.laidAll Tryz.prog os laidL).forCall (fun _ _ => 0) ⟨#[], args, []⟩).memory := laidMet_laidAll _ (by kernel_rfl) (by kernel_rfl)
theorem below_of {W W' : World} {L' : Heap} (h : Mv [] W L' W') : RowKit.Below W.heap.size W W' := ⟨h.os, h.tape, h.output, h.size, fun k hk => h.block k hk (by simp)⟩
theorem holds0 {R : Heap} {W : World} (h : ∀ p ∈ R, W.heap[p.1]? = some p.2) : Holds R [] W where
  ro := h
  own := fun p hp => by cases hp
  nd := List.nodup_nil
  dj := fun p _ hk => by cases hk
theorem string_str (s : ByteArray) : Value.string s = str s.data.toList := by
  simp [str]
end Go.Proofs.YtgppllppddaodaaGreatDoor
