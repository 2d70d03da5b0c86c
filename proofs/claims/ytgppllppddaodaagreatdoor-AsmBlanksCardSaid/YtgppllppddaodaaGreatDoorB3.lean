/-
  Lemmas and walks that the seat's cards rest on, merged: W3, W4, W5, W6, W7, W8. No statement of the set is proved here.
-/
import Derived.Test.YtgppllppddaodaaGreatDoorB2
import Derived.Test.YtgppllppddaodaaGreatDoorB1
/-
  The walks of Mnemonic, operation, form, Kind.
-/
namespace Go.Proofs.YtgppllppddaodaaGreatDoor
open Sl Am

theorem ct_15 : callT Tryz.prog 15 = true := by kernel_rfl
theorem ct_26 : callT Tryz.prog 26 = true := by kernel_rfl
theorem el_38 : elemT Tryz.prog 38 = some 9 := by kernel_rfl
theorem pt_9 : plainT Tryz.prog 9 = true := by kernel_rfl
theorem sz_9 : sizeT Tryz.prog 9 = some 1 := by kernel_rfl
set_option maxRecDepth 100000 in
theorem split_mn (R L : Heap) (hR : Glob R) : FnW Tryz.prog 26 [str mnemText, str [32]] R L fun v L' => ∃ b, v = .slice (some ⟨b, 0, none⟩) 26 26 ∧ L' = (b, cb (mnems.map str) 9) :: L := by
  have h := split_c R L hR mnemText 32 (by decide)
  rw [show splitC 32 mnemText = mnems by decide] at h
  exact h
set_option maxRecDepth 100000 in
theorem split_fo (R L : Heap) (hR : Glob R) : FnW Tryz.prog 26 [str formText, str [32]] R L fun v L' => ∃ b, v = .slice (some ⟨b, 0, none⟩) 26 26 ∧ L' = (b, cb (formsL.map str) 9) :: L := by
  have h := split_c R L hR formText 32 (by decide)
  rw [show splitC 32 formText = formsL by decide] at h
  exact h
theorem mn_at (n : Nat) (h : n < 26) : (mnems.map str)[0 + n * 1]? = some (str (mnems.getD n [])) := by
  rw [Nat.zero_add, Nat.mul_one, List.getElem?_map, List.getD_eq_getElem?_getD, List.getElem?_eq_getElem (by simpa [mnems] using h)]; rfl
theorem fo_at (n : Nat) (h : n < 26) : (formsL.map str)[0 + n * 1]? = some (str (formsL.getD n [])) := by
  rw [Nat.zero_add, Nat.mul_one, List.getElem?_map, List.getD_eq_getElem?_getD, List.getElem?_eq_getElem (by simpa [formsL] using h)]; rfl

set_option maxRecDepth 100000 in
set_option maxHeartbeats 400000 in
theorem Mnemonic_lo : ∀ (R : Heap) (op : Int), ¬ (1 ≤ op ∧ op ≤ 25) → FnW Tryz.prog 15 [.int .i64 op] R [] fun v _ => v = str (mnem op) := by
  intro R op hop
  refine fn_of_body Tryz.func15 rfl Tryz.ntmps15 Tryz.results15 (by rfl) ?_
  refine cw_regseq ?_
  refine ow_y (y_assign rfl) rfl rfl rfl ?_
  refine ow_nil ?_
  refine cw_seq ?_
  refine cw_regseq ?_
  refine ow_y (y_move rfl) rfl rfl rfl ?_
  refine ow_cmp rfl rfl rfl rfl rfl (fun h4 => ?_) (fun h4 => ?_)
  · simp only [cmpP] at h4
    refine ow_y (y_move rfl) rfl rfl rfl ?_
    refine ow_skip rfl rfl rfl ?_
    refine ow_skip rfl rfl rfl ?_
    refine ow_y (y_pick_t rfl rfl) rfl rfl rfl ?_
    refine ow_nil ?_
    refine cw_if_t rfl ?_
    refine cw_regseq ?_
    refine ow_y (y_assign rfl) rfl rfl rfl ?_
    refine ow_nil ?_
    refine cw_ret ?_
    repeat with_reducible first | refine thenQ_ret ?_ | refine thenQ_normal ?_ | refine thenQ_exit ?_ | refine blockQ_ret ?_ | refine blockQ_normal ?_ | refine blockQ_exit_same ?_ | refine blockQ_exit_ne rfl ?_
    refine body_ret (.one (.tmp rfl)) ?_
    simp only [mnem]; rw [if_neg hop]
  · simp only [cmpP] at h4
    refine ow_y (y_move rfl) rfl rfl rfl ?_
    refine ow_y (y_move rfl) rfl rfl rfl ?_
    refine ow_cmp rfl rfl rfl rfl rfl (fun h7 => ?_) (fun h7 => ?_)
    · simp only [cmpP] at h7
      refine ow_y (y_pick_f rfl rfl) rfl rfl rfl ?_
      refine ow_nil ?_
      refine cw_if_t rfl ?_
      refine cw_regseq ?_
      refine ow_y (y_assign rfl) rfl rfl rfl ?_
      refine ow_nil ?_
      refine cw_ret ?_
      repeat with_reducible first | refine thenQ_ret ?_ | refine thenQ_normal ?_ | refine thenQ_exit ?_ | refine blockQ_ret ?_ | refine blockQ_normal ?_ | refine blockQ_exit_same ?_ | refine blockQ_exit_ne rfl ?_
      refine body_ret (.one (.tmp rfl)) ?_
      simp only [mnem]; rw [if_neg hop]
    · simp only [cmpP] at h7
      exact absurd (by omega) hop

set_option maxRecDepth 100000 in
set_option maxHeartbeats 400000 in
theorem Mnemonic_hi : ∀ (R : Heap) (n : Nat), Glob R → 1 ≤ n → n ≤ 25 → FnW Tryz.prog 15 [.int .i64 n] R [] fun v _ => v = str (mnem n) := by
  intro R n hR h1 h2
  have hat := mn_at n (by omega)
  refine fn_of_body Tryz.func15 rfl Tryz.ntmps15 Tryz.results15 (by rfl) ?_
  refine cw_regseq ?_
  refine ow_y (y_assign rfl) rfl rfl rfl ?_
  refine ow_nil ?_
  refine cw_seq ?_
  refine cw_regseq ?_
  refine ow_y (y_move rfl) rfl rfl rfl ?_
  refine ow_cmp_f rfl rfl rfl rfl rfl (by simp only [cmpP]; omega) ?_
  refine ow_y (y_move rfl) rfl rfl rfl ?_
  refine ow_y (y_move rfl) rfl rfl rfl ?_
  refine ow_cmp_f rfl rfl rfl rfl rfl (by simp only [cmpP]; omega) ?_
  refine ow_y (y_pick_f rfl rfl) rfl rfl rfl ?_
  refine ow_nil ?_
  refine cw_if_f rfl ?_
  refine cw_skip ?_
  repeat with_reducible first | refine thenQ_ret ?_ | refine thenQ_normal ?_ | refine thenQ_exit ?_ | refine blockQ_ret ?_ | refine blockQ_normal ?_ | refine blockQ_exit_same ?_ | refine blockQ_exit_ne rfl ?_
  refine cw_regseq ?_
  refine ow_call rfl rfl (by rfl) ct_26 (split_mn R _ hR) ?_
  rintro _ _ ⟨b9, rfl, rfl⟩
  refine ow_y (y_move rfl) rfl rfl rfl ?_
  refine ow_y (y_indexAddr rfl rfl el_38 sz_9 (by omega)) rfl rfl rfl ?_
  refine ow_y (y_load rfl pt_9 (by first | (apply In.own; (repeat (first | exact List.Mem.head _ | apply List.Mem.tail)); done) | (apply In.ro; (repeat (first | exact List.Mem.head _ | apply List.Mem.tail)); done)) hat) rfl rfl rfl ?_
  refine ow_y (y_assign rfl) rfl rfl rfl ?_
  refine ow_nil ?_
  refine cw_ret ?_
  repeat with_reducible first | refine thenQ_ret ?_ | refine thenQ_normal ?_ | refine thenQ_exit ?_ | refine blockQ_ret ?_ | refine blockQ_normal ?_ | refine blockQ_exit_same ?_ | refine blockQ_exit_ne rfl ?_
  refine body_ret (.one (.tmp rfl)) ?_
  simp only [mnem]; rw [if_pos (by omega)]; rfl

theorem Mnemonic_c (R L : Heap) (hR : Glob R) (op : Int) : FnW Tryz.prog 15 [.int .i64 op] R L fun v L' => v = str (mnem op) ∧ L' = L := by
  refine FnW.gen (G := fun v => v = str (mnem op)) ?_ L
  by_cases h : 1 ≤ op ∧ op ≤ 25
  · obtain ⟨n, rfl⟩ : ∃ n : Nat, op = n := ⟨op.toNat, by omega⟩
    exact Mnemonic_hi R n hR (by omega) (by omega)
  · exact Mnemonic_lo R op h
theorem mn_drop (x : Nat) (h : x ≤ 25) : mnems.drop x = mnems.getD x [] :: mnems.drop (x + 1) := by
  have hl : x < mnems.length := by simp [mnems]; omega
  rw [List.drop_eq_getElem_cons hl, List.getD_eq_getElem?_getD, List.getElem?_eq_getElem hl]; rfl
theorem mnem_nat (x : Nat) (h1 : 1 ≤ x) (h2 : x ≤ 25) : mnem (x : Int) = mnems.getD x [] := by
  simp only [mnem]; rw [if_pos (by omega)]; rfl
theorem opFrom_hit {x : Nat} (h1 : 1 ≤ x) (h2 : x ≤ 25) {l : List UInt8} (h : mnem (x : Int) = l) : opFrom (mnems.drop x) x l = x := by
  rw [mnem_nat x h1 h2] at h
  rw [mn_drop x h2, opFrom, if_pos h]
theorem opFrom_miss {x : Nat} (h1 : 1 ≤ x) (h2 : x ≤ 25) {l : List UInt8} (h : mnem (x : Int) ≠ l) : opFrom (mnems.drop x) x l = opFrom (mnems.drop (x + 1)) ((x + 1 : Nat) : Int) l := by
  rw [mnem_nat x h1 h2] at h
  rw [mn_drop x h2, opFrom, if_neg h]; rfl
theorem opFrom_end (l : List UInt8) : opFrom (mnems.drop 26) 26 l = 0 := rfl

set_option maxRecDepth 100000 in
set_option maxHeartbeats 400000 in
theorem operation_w : ∀ (R : Heap) (l : List UInt8), Glob R → FnW Tryz.prog 54 [str l] R [] fun v _ => v = .int .i64 (opOf l) := by
  intro R l hR
  refine fn_of_body Tryz.func54 rfl Tryz.ntmps54 Tryz.results54 (by rfl) ?_
  refine cw_regseq ?_
  refine ow_y (y_assign rfl) rfl rfl rfl ?_
  refine ow_nil ?_
  refine cw_seq ?_
  refine cw_regseq ?_
  refine ow_y (y_assign rfl) rfl rfl rfl ?_
  refine ow_nil ?_
  refine cw_block ?_
  refine cw_loop (α := Nat) (fun x => [(0, str l), (3, .int .i64 x)]) (fun x => []) (fun x => 1 ≤ x ∧ x ≤ 26 ∧ opOf l = opFrom (mnems.drop x) x l) (fun x => 26 - x) 1 ?_ (by repeat (first | exact EnvLe.nil _ | refine EnvLe.cons rfl ?_)) (by repeat (first | exact Split.nil | refine Split.cons (by repeat (first | exact Pick.here | apply Pick.there)) ?_)) ?_
  · exact ⟨by omega, by omega, rfl⟩
  · rintro x ⟨hx1, hx2, hx3⟩
    refine cw_seq ?_
    refine cw_regseq ?_
    refine ow_y (y_move rfl) rfl rfl rfl ?_
    refine ow_cmp rfl rfl rfl rfl rfl (fun h5 => ?_) (fun h5 => ?_)
    · simp only [cmpP] at h5
      refine ow_nil ?_
      refine cw_if_t rfl ?_
      refine cw_skip ?_
      repeat with_reducible first | refine thenQ_ret ?_ | refine thenQ_normal ?_ | refine thenQ_exit ?_ | refine blockQ_ret ?_ | refine blockQ_normal ?_ | refine blockQ_exit_same ?_ | refine blockQ_exit_ne rfl ?_
      refine cw_seq ?_
      refine cw_block ?_
      refine cw_regseq ?_
      refine ow_y (y_move rfl) rfl rfl rfl ?_
      refine ow_call rfl rfl (by rfl) ct_15 (Mnemonic_c R _ hR _) ?_
      rintro _ _ ⟨rfl, rfl⟩
      refine ow_y (y_move rfl) rfl rfl rfl ?_
      refine ow_streq rfl rfl rfl rfl (fun h11 => ?_) (fun h11 => ?_)
      · refine ow_nil ?_
        refine cw_if_t rfl ?_
        refine cw_regseq ?_
        refine ow_y (y_move rfl) rfl rfl rfl ?_
        refine ow_y (y_assign rfl) rfl rfl rfl ?_
        refine ow_nil ?_
        refine cw_ret ?_
        repeat with_reducible first | refine thenQ_ret ?_ | refine thenQ_normal ?_ | refine thenQ_exit ?_ | refine blockQ_ret ?_ | refine blockQ_normal ?_ | refine blockQ_exit_same ?_ | refine blockQ_exit_ne rfl ?_
        refine body_ret (.one (.tmp rfl)) ?_
        rw [hx3, opFrom_hit hx1 (by omega) h11]
      · refine ow_nil ?_
        refine cw_if_f rfl ?_
        refine cw_skip ?_
        repeat with_reducible first | refine thenQ_ret ?_ | refine thenQ_normal ?_ | refine thenQ_exit ?_ | refine blockQ_ret ?_ | refine blockQ_normal ?_ | refine blockQ_exit_same ?_ | refine blockQ_exit_ne rfl ?_
        refine cw_region ?_
        refine ow_y (y_move rfl) rfl rfl rfl ?_
        refine ow_y (y_add64 rfl rfl (by omega)) rfl rfl rfl ?_
        refine ow_y (y_assign rfl) rfl rfl rfl ?_
        refine ow_nil ?_
        repeat with_reducible first | refine thenQ_ret ?_ | refine thenQ_normal ?_ | refine thenQ_exit ?_ | refine blockQ_ret ?_ | refine blockQ_normal ?_ | refine blockQ_exit_same ?_ | refine blockQ_exit_ne rfl ?_
        refine ⟨(x + 1), _, ?_, ?_, (by repeat (first | exact EnvLe.nil _ | refine EnvLe.cons rfl ?_)), (by repeat (first | exact Split.nil | refine Split.cons (by repeat (first | exact Pick.here | apply Pick.there)) ?_))⟩
        · exact ⟨by omega, by omega, by rw [hx3]; exact opFrom_miss hx1 (by omega) h11⟩
        · omega
    · simp only [cmpP] at h5
      refine ow_nil ?_
      refine cw_if_f rfl ?_
      refine cw_exit ?_
      repeat with_reducible first | refine thenQ_ret ?_ | refine thenQ_normal ?_ | refine thenQ_exit ?_ | refine blockQ_ret ?_ | refine blockQ_normal ?_ | refine blockQ_exit_same ?_ | refine blockQ_exit_ne rfl ?_
      refine cw_regseq ?_
      refine ow_y (y_assign rfl) rfl rfl rfl ?_
      refine ow_nil ?_
      refine cw_ret ?_
      repeat with_reducible first | refine thenQ_ret ?_ | refine thenQ_normal ?_ | refine thenQ_exit ?_ | refine blockQ_ret ?_ | refine blockQ_normal ?_ | refine blockQ_exit_same ?_ | refine blockQ_exit_ne rfl ?_
      refine body_ret (.one (.tmp rfl)) ?_
      have hx : x = 26 := by omega
      subst hx
      rw [hx3]; rfl

theorem operation_c (R L : Heap) (hR : Glob R) (l : List UInt8) : FnW Tryz.prog 54 [str l] R L fun v L' => v = .int .i64 (opOf l) ∧ L' = L :=
  FnW.gen (operation_w R l hR) L

end Go.Proofs.YtgppllppddaodaaGreatDoor

/-
  The walks of form, Kind.
-/
namespace Go.Proofs.YtgppllppddaodaaGreatDoor
open Sl Am

theorem ct_38 : callT Tryz.prog 38 = true := by kernel_rfl
theorem ct_58 : callT Tryz.prog 58 = true := by kernel_rfl
theorem st_9 : strT Tryz.prog 9 = true := by kernel_rfl
abbrev ff (n : Nat) : List UInt8 := formsL.getD n []
set_option maxRecDepth 100000 in
theorem ff_ascii : ∀ n, n < 26 → (ff n).all (fun b => decide (b.toNat < 128)) = true := by decide
set_option maxRecDepth 100000 in
theorem ff_len : ∀ n, n < 26 → (ff n).length ≤ 10 := by decide
set_option maxRecDepth 100000 in
theorem ff_ix : ∀ n, n < 26 → (Lib.indexAny (ff n) [60, 62] = -1 ∧ kindsL.getD n [] = ff n) ∨ (0 ≤ Lib.indexAny (ff n) [60, 62] ∧ (Lib.indexAny (ff n) [60, 62]).toNat + 1 ≤ (ff n).length ∧ kindsL.getD n [] = (ff n).take (Lib.indexAny (ff n) [60, 62]).toNat) := by decide
theorem kind_nat (n : Nat) (h1 : 1 ≤ n) (h2 : n ≤ 25) : kind (n : Int) = kindsL.getD n [] := by
  simp only [kind]; rw [if_pos (by omega)]; rfl

set_option maxRecDepth 100000 in
set_option maxHeartbeats 400000 in
theorem form_lo : ∀ (R : Heap) (op : Int), ¬ (1 ≤ op ∧ op ≤ 25) → FnW Tryz.prog 38 [.int .i64 op] R [] fun v _ => ∃ s r, v = .tuple #[str (kind op), str s, str r] := by
  intro R op hop
  refine fn_of_body Tryz.func38 rfl Tryz.ntmps38 Tryz.results38 (by rfl) ?_
  refine cw_regseq ?_
  refine ow_y (y_assign rfl) rfl rfl rfl ?_
  refine ow_y (y_assign rfl) rfl rfl rfl ?_
  refine ow_y (y_assign rfl) rfl rfl rfl ?_
  refine ow_nil ?_
  refine cw_seq ?_
  refine cw_regseq ?_
  refine ow_y (y_move rfl) rfl rfl rfl ?_
  refine ow_cmp rfl rfl rfl rfl rfl (fun h8 => ?_) (fun h8 => ?_)
  · simp only [cmpP] at h8
    refine ow_y (y_move rfl) rfl rfl rfl ?_
    refine ow_skip rfl rfl rfl ?_
    refine ow_skip rfl rfl rfl ?_
    refine ow_y (y_pick_t rfl rfl) rfl rfl rfl ?_
    refine ow_nil ?_
    refine cw_if_t rfl ?_
    refine cw_regseq ?_
    refine ow_y (y_assign rfl) rfl rfl rfl ?_
    refine ow_y (y_assign rfl) rfl rfl rfl ?_
    refine ow_y (y_assign rfl) rfl rfl rfl ?_
    refine ow_nil ?_
    refine cw_ret ?_
    repeat with_reducible first | refine thenQ_ret ?_ | refine thenQ_normal ?_ | refine thenQ_exit ?_ | refine blockQ_ret ?_ | refine blockQ_normal ?_ | refine blockQ_exit_same ?_ | refine blockQ_exit_ne rfl ?_
    refine body_ret (.three (.tmp rfl) (.tmp rfl) (.tmp rfl)) ?_
    exact ⟨[], [], by simp only [kind]; rw [if_neg hop]⟩
  · simp only [cmpP] at h8
    refine ow_y (y_move rfl) rfl rfl rfl ?_
    refine ow_y (y_move rfl) rfl rfl rfl ?_
    refine ow_cmp rfl rfl rfl rfl rfl (fun h11 => ?_) (fun h11 => ?_)
    · simp only [cmpP] at h11
      refine ow_y (y_pick_f rfl rfl) rfl rfl rfl ?_
      refine ow_nil ?_
      refine cw_if_t rfl ?_
      refine cw_regseq ?_
      refine ow_y (y_assign rfl) rfl rfl rfl ?_
      refine ow_y (y_assign rfl) rfl rfl rfl ?_
      refine ow_y (y_assign rfl) rfl rfl rfl ?_
      refine ow_nil ?_
      refine cw_ret ?_
      repeat with_reducible first | refine thenQ_ret ?_ | refine thenQ_normal ?_ | refine thenQ_exit ?_ | refine blockQ_ret ?_ | refine blockQ_normal ?_ | refine blockQ_exit_same ?_ | refine blockQ_exit_ne rfl ?_
      refine body_ret (.three (.tmp rfl) (.tmp rfl) (.tmp rfl)) ?_
      exact ⟨[], [], by simp only [kind]; rw [if_neg hop]⟩
    · simp only [cmpP] at h11
      exact absurd (by omega) hop

set_option maxRecDepth 100000 in
set_option maxHeartbeats 400000 in
theorem form_one : ∀ (R : Heap) (n : Nat), Glob R → 1 ≤ n → n ≤ 25 → Lib.indexAny (ff n) [60, 62] = -1 → kindsL.getD n [] = ff n → FnW Tryz.prog 38 [.int .i64 n] R [] fun v _ => ∃ s r, v = .tuple #[str (kind n), str s, str r] := by
  intro R n hR h1 h2 hx hkk
  refine fn_of_body Tryz.func38 rfl Tryz.ntmps38 Tryz.results38 (by rfl) ?_
  refine cw_regseq ?_
  refine ow_y (y_assign rfl) rfl rfl rfl ?_
  refine ow_y (y_assign rfl) rfl rfl rfl ?_
  refine ow_y (y_assign rfl) rfl rfl rfl ?_
  refine ow_nil ?_
  refine cw_seq ?_
  refine cw_regseq ?_
  refine ow_y (y_move rfl) rfl rfl rfl ?_
  refine ow_cmp_f rfl rfl rfl rfl rfl (by simp only [cmpP]; omega) ?_
  refine ow_y (y_move rfl) rfl rfl rfl ?_
  refine ow_y (y_move rfl) rfl rfl rfl ?_
  refine ow_cmp_f rfl rfl rfl rfl rfl (by simp only [cmpP]; omega) ?_
  refine ow_y (y_pick_f rfl rfl) rfl rfl rfl ?_
  refine ow_nil ?_
  refine cw_if_f rfl ?_
  refine cw_skip ?_
  repeat with_reducible first | refine thenQ_ret ?_ | refine thenQ_normal ?_ | refine thenQ_exit ?_ | refine blockQ_ret ?_ | refine blockQ_normal ?_ | refine blockQ_exit_same ?_ | refine blockQ_exit_ne rfl ?_
  refine cw_regseq ?_
  refine ow_call rfl rfl (by rfl) ct_26 (split_fo R _ hR) ?_
  rintro _ _ ⟨b9, rfl, rfl⟩
  refine ow_y (y_move rfl) rfl rfl rfl ?_
  refine ow_y (y_indexAddr rfl rfl el_38 sz_9 (by omega)) rfl rfl rfl ?_
  refine ow_y (y_load rfl pt_9 (by first | (apply In.own; (repeat (first | exact List.Mem.head _ | apply List.Mem.tail)); done) | (apply In.ro; (repeat (first | exact List.Mem.head _ | apply List.Mem.tail)); done)) (fo_at n (by omega))) rfl rfl rfl ?_
  refine ow_y (y_assign rfl) rfl rfl rfl ?_
  refine ow_nil ?_
  refine cw_seq ?_
  refine cw_regseq ?_
  refine ow_y (y_move rfl) rfl rfl rfl ?_
  refine ow_call rfl rfl (by rfl) ct_58 (indexAny_c R _ (ff n) [60, 62] (by have := ff_len n (by omega); omega) (by decide) (ff_ascii n (by omega)) (by decide)) ?_
  rintro _ _ ⟨rfl, rfl⟩
  rw [hx]
  refine ow_y (y_assign rfl) rfl rfl rfl ?_
  refine ow_nil ?_
  refine cw_regseq ?_
  refine ow_y (y_move rfl) rfl rfl rfl ?_
  refine ow_cmp_f rfl rfl rfl rfl rfl (by simp only [cmpP]; omega) ?_
  refine ow_nil ?_
  refine cw_if_f rfl ?_
  refine cw_skip ?_
  repeat with_reducible first | refine thenQ_ret ?_ | refine thenQ_normal ?_ | refine thenQ_exit ?_ | refine blockQ_ret ?_ | refine blockQ_normal ?_ | refine blockQ_exit_same ?_ | refine blockQ_exit_ne rfl ?_
  refine cw_regseq ?_
  refine ow_y (y_move rfl) rfl rfl rfl ?_
  refine ow_y (y_assign rfl) rfl rfl rfl ?_
  refine ow_y (y_assign rfl) rfl rfl rfl ?_
  refine ow_y (y_assign rfl) rfl rfl rfl ?_
  refine ow_nil ?_
  refine cw_ret ?_
  repeat with_reducible first | refine thenQ_ret ?_ | refine thenQ_normal ?_ | refine thenQ_exit ?_ | refine blockQ_ret ?_ | refine blockQ_normal ?_ | refine blockQ_exit_same ?_ | refine blockQ_exit_ne rfl ?_
  refine body_ret (.three (.tmp rfl) (.tmp rfl) (.tmp rfl)) ?_
  exact ⟨[], [], by rw [kind_nat n h1 h2, hkk]⟩

set_option maxRecDepth 100000 in
set_option maxHeartbeats 400000 in
theorem form_cut : ∀ (R : Heap) (n k : Nat), Glob R → 1 ≤ n → n ≤ 25 → Lib.indexAny (ff n) [60, 62] = k → k + 1 ≤ (ff n).length → kindsL.getD n [] = (ff n).take k → FnW Tryz.prog 38 [.int .i64 n] R [] fun v _ => ∃ s r, v = .tuple #[str (kind n), str s, str r] := by
  intro R n k hR h1 h2 hx hk hkk
  have hl := ff_len n (by omega)
  have hk2 : k + 1 ≤ (formsL.getD n []).length := hk
  refine fn_of_body Tryz.func38 rfl Tryz.ntmps38 Tryz.results38 (by rfl) ?_
  refine cw_regseq ?_
  refine ow_y (y_assign rfl) rfl rfl rfl ?_
  refine ow_y (y_assign rfl) rfl rfl rfl ?_
  refine ow_y (y_assign rfl) rfl rfl rfl ?_
  refine ow_nil ?_
  refine cw_seq ?_
  refine cw_regseq ?_
  refine ow_y (y_move rfl) rfl rfl rfl ?_
  refine ow_cmp_f rfl rfl rfl rfl rfl (by simp only [cmpP]; omega) ?_
  refine ow_y (y_move rfl) rfl rfl rfl ?_
  refine ow_y (y_move rfl) rfl rfl rfl ?_
  refine ow_cmp_f rfl rfl rfl rfl rfl (by simp only [cmpP]; omega) ?_
  refine ow_y (y_pick_f rfl rfl) rfl rfl rfl ?_
  refine ow_nil ?_
  refine cw_if_f rfl ?_
  refine cw_skip ?_
  repeat with_reducible first | refine thenQ_ret ?_ | refine thenQ_normal ?_ | refine thenQ_exit ?_ | refine blockQ_ret ?_ | refine blockQ_normal ?_ | refine blockQ_exit_same ?_ | refine blockQ_exit_ne rfl ?_
  refine cw_regseq ?_
  refine ow_call rfl rfl (by rfl) ct_26 (split_fo R _ hR) ?_
  rintro _ _ ⟨b9, rfl, rfl⟩
  refine ow_y (y_move rfl) rfl rfl rfl ?_
  refine ow_y (y_indexAddr rfl rfl el_38 sz_9 (by omega)) rfl rfl rfl ?_
  refine ow_y (y_load rfl pt_9 (by first | (apply In.own; (repeat (first | exact List.Mem.head _ | apply List.Mem.tail)); done) | (apply In.ro; (repeat (first | exact List.Mem.head _ | apply List.Mem.tail)); done)) (fo_at n (by omega))) rfl rfl rfl ?_
  refine ow_y (y_assign rfl) rfl rfl rfl ?_
  refine ow_nil ?_
  refine cw_seq ?_
  refine cw_regseq ?_
  refine ow_y (y_move rfl) rfl rfl rfl ?_
  refine ow_call rfl rfl (by rfl) ct_58 (indexAny_c R _ (ff n) [60, 62] (by have := ff_len n (by omega); omega) (by decide) (ff_ascii n (by omega)) (by decide)) ?_
  rintro _ _ ⟨rfl, rfl⟩
  rw [hx]
  refine ow_y (y_assign rfl) rfl rfl rfl ?_
  refine ow_nil ?_
  refine cw_regseq ?_
  refine ow_y (y_move rfl) rfl rfl rfl ?_
  refine ow_cmp_t rfl rfl rfl rfl rfl (by simp only [cmpP]; omega) ?_
  refine ow_nil ?_
  refine cw_if_t rfl ?_
  refine cw_drawseq [] (by kernel_rfl) rfl ?_
  refine any_take 0 rfl (by kernel_rfl) (by kernel_rfl) (by kernel_rfl) rfl rfl rfl (by repeat (first | exact Split.nil | refine Split.cons (by repeat (first | exact Pick.here | apply Pick.there)) ?_)) (y_move rfl) ?_
  refine any_take 1 rfl (by kernel_rfl) (by kernel_rfl) (by kernel_rfl) rfl rfl rfl (by repeat (first | exact Split.nil | refine Split.cons (by repeat (first | exact Pick.here | apply Pick.there)) ?_)) (y_move rfl) ?_
  refine any_take 2 rfl (by kernel_rfl) (by kernel_rfl) (by kernel_rfl) rfl rfl rfl (by repeat (first | exact Split.nil | refine Split.cons (by repeat (first | exact Pick.here | apply Pick.there)) ?_)) (y_sliceStr (vlo := none) (vhi := some (.int .i64 (k))) (i := 0) (j := k) rfl st_9 rfl rfl (.inl ⟨rfl, rfl⟩) (.inr (by first | rfl | (simp; done))) (by omega) (by omega)) ?_
  refine any_take 3 rfl (by kernel_rfl) (by kernel_rfl) (by kernel_rfl) rfl rfl rfl (by repeat (first | exact Split.nil | refine Split.cons (by repeat (first | exact Pick.here | apply Pick.there)) ?_)) (y_move rfl) ?_
  refine any_take 4 rfl (by kernel_rfl) (by kernel_rfl) (by kernel_rfl) rfl rfl rfl (by repeat (first | exact Split.nil | refine Split.cons (by repeat (first | exact Pick.here | apply Pick.there)) ?_)) (y_move rfl) ?_
  refine any_take 5 rfl (by kernel_rfl) (by kernel_rfl) (by kernel_rfl) rfl rfl rfl (by repeat (first | exact Split.nil | refine Split.cons (by repeat (first | exact Pick.here | apply Pick.there)) ?_)) (y_move rfl) ?_
  refine any_take 6 rfl (by kernel_rfl) (by kernel_rfl) (by kernel_rfl) rfl rfl rfl (by repeat (first | exact Split.nil | refine Split.cons (by repeat (first | exact Pick.here | apply Pick.there)) ?_)) (y_add64 rfl rfl (by omega)) ?_
  refine any_take 7 rfl (by kernel_rfl) (by kernel_rfl) (by kernel_rfl) rfl rfl rfl (by repeat (first | exact Split.nil | refine Split.cons (by repeat (first | exact Pick.here | apply Pick.there)) ?_)) (y_sliceStr (vlo := some (.int .i64 (k))) (vhi := some (.int .i64 ((k : Int) + 1))) (i := k) (j := k + 1) rfl st_9 rfl rfl (.inr (by first | rfl | (simp; done))) (.inr (by first | rfl | (simp; done))) (by omega) (by omega)) ?_
  refine any_take 8 rfl (by kernel_rfl) (by kernel_rfl) (by kernel_rfl) rfl rfl rfl (by repeat (first | exact Split.nil | refine Split.cons (by repeat (first | exact Pick.here | apply Pick.there)) ?_)) (y_move rfl) ?_
  refine any_take 9 rfl (by kernel_rfl) (by kernel_rfl) (by kernel_rfl) rfl rfl rfl (by repeat (first | exact Split.nil | refine Split.cons (by repeat (first | exact Pick.here | apply Pick.there)) ?_)) (y_move rfl) ?_
  refine any_take 10 rfl (by kernel_rfl) (by kernel_rfl) (by kernel_rfl) rfl rfl rfl (by repeat (first | exact Split.nil | refine Split.cons (by repeat (first | exact Pick.here | apply Pick.there)) ?_)) (y_add64 rfl rfl (by omega)) ?_
  refine any_take 11 rfl (by kernel_rfl) (by kernel_rfl) (by kernel_rfl) rfl rfl rfl (by repeat (first | exact Split.nil | refine Split.cons (by repeat (first | exact Pick.here | apply Pick.there)) ?_)) (y_sliceStr (vlo := some (.int .i64 ((k : Int) + 1))) (vhi := none) (i := k + 1) (j := (formsL.getD n []).length) rfl st_9 rfl rfl (.inr (by first | rfl | (simp; done))) (.inl ⟨rfl, rfl⟩) (by omega) (by omega)) ?_
  refine any_take 12 rfl (by kernel_rfl) (by kernel_rfl) (by kernel_rfl) rfl rfl rfl (by repeat (first | exact Split.nil | refine Split.cons (by repeat (first | exact Pick.here | apply Pick.there)) ?_)) (y_assign rfl) ?_
  refine any_take 13 rfl (by kernel_rfl) (by kernel_rfl) (by kernel_rfl) rfl rfl rfl (by repeat (first | exact Split.nil | refine Split.cons (by repeat (first | exact Pick.here | apply Pick.there)) ?_)) (y_assign rfl) ?_
  refine any_take 14 rfl (by kernel_rfl) (by kernel_rfl) (by kernel_rfl) rfl rfl rfl (by repeat (first | exact Split.nil | refine Split.cons (by repeat (first | exact Pick.here | apply Pick.there)) ?_)) (y_assign rfl) ?_
  refine any_done (by kernel_rfl) ?_
  refine cw_ret ?_
  repeat with_reducible first | refine thenQ_ret ?_ | refine thenQ_normal ?_ | refine thenQ_exit ?_ | refine blockQ_ret ?_ | refine blockQ_normal ?_ | refine blockQ_exit_same ?_ | refine blockQ_exit_ne rfl ?_
  refine body_ret (.three (.tmp rfl) (.tmp rfl) (.tmp rfl)) ?_
  exact ⟨_, _, by rw [kind_nat n h1 h2, hkk]; rfl⟩

theorem form_c (R L : Heap) (hR : Glob R) (op : Int) : FnW Tryz.prog 38 [.int .i64 op] R L fun v L' => (∃ s r, v = .tuple #[str (kind op), str s, str r]) ∧ L' = L := by
  refine FnW.gen (G := fun v => ∃ s r, v = .tuple #[str (kind op), str s, str r]) ?_ L
  by_cases h : 1 ≤ op ∧ op ≤ 25
  · obtain ⟨n, rfl⟩ : ∃ n : Nat, op = n := ⟨op.toNat, by omega⟩
    rcases ff_ix n (by omega) with ⟨h1, h2⟩ | ⟨h1, h2, h3⟩
    · exact form_one R n hR (by omega) (by omega) h1 h2
    · exact form_cut R n _ hR (by omega) (by omega) (by omega) h2 h3
  · exact form_lo R op h

set_option maxRecDepth 100000 in
set_option maxHeartbeats 400000 in
theorem Kind_w : ∀ (R : Heap) (op : Int), Glob R → FnW Tryz.prog 24 [.int .i64 op] R [] fun v _ => v = str (kind op) := by
  intro R op hR
  refine fn_of_body Tryz.func24 rfl Tryz.ntmps24 Tryz.results24 (by rfl) ?_
  refine cw_regseq ?_
  refine ow_y (y_assign rfl) rfl rfl rfl ?_
  refine ow_nil ?_
  refine cw_regseq ?_
  refine ow_y (y_move rfl) rfl rfl rfl ?_
  refine ow_call rfl rfl (by rfl) ct_38 (form_c R _ hR op) ?_
  rintro _ _ ⟨⟨s, r, rfl⟩, rfl⟩
  refine ow_y (y_move rfl) rfl rfl rfl ?_
  refine ow_y (y_extract rfl rfl) rfl rfl rfl ?_
  refine ow_y (y_extract rfl rfl) rfl rfl rfl ?_
  refine ow_y (y_extract rfl rfl) rfl rfl rfl ?_
  refine ow_y (y_assign rfl) rfl rfl rfl ?_
  refine ow_y (y_assign rfl) rfl rfl rfl ?_
  refine ow_y (y_assign rfl) rfl rfl rfl ?_
  refine ow_nil ?_
  refine cw_regseq ?_
  refine ow_y (y_move rfl) rfl rfl rfl ?_
  refine ow_y (y_assign rfl) rfl rfl rfl ?_
  refine ow_nil ?_
  refine cw_ret ?_
  repeat with_reducible first | refine thenQ_ret ?_ | refine thenQ_normal ?_ | refine thenQ_exit ?_ | refine blockQ_ret ?_ | refine blockQ_normal ?_ | refine blockQ_exit_same ?_ | refine blockQ_exit_ne rfl ?_
  refine body_ret (.one (.tmp rfl)) ?_
  rfl

theorem Kind_c (R L : Heap) (hR : Glob R) (op : Int) : FnW Tryz.prog 24 [.int .i64 op] R L fun v L' => v = str (kind op) ∧ L' = L := FnW.gen (Kind_w R op hR) L

end Go.Proofs.YtgppllppddaodaaGreatDoor

/-
  The walks of Right, Encode, Decode.
-/
namespace Go.Proofs.YtgppllppddaodaaGreatDoor
open Sl Am
open Go
theorem at_33 : aggT Tryz.prog 33 = true := by kernel_rfl
theorem ct_24 : callT Tryz.prog 24 = true := by kernel_rfl
theorem ct_39 : callT Tryz.prog 39 = true := by kernel_rfl
theorem ft_33_0 : fieldT Tryz.prog 33 0 = some 0 := by kernel_rfl
theorem ft_33_1 : fieldT Tryz.prog 33 1 = some 1 := by kernel_rfl
theorem ft_33_2 : fieldT Tryz.prog 33 2 = some 2 := by kernel_rfl
theorem ft_33_3 : fieldT Tryz.prog 33 3 = some 3 := by kernel_rfl
theorem ft_33_4 : fieldT Tryz.prog 33 4 = some 4 := by kernel_rfl
theorem pt_3 : plainT Tryz.prog 3 = true := by kernel_rfl
theorem sz_3 : sizeT Tryz.prog 3 = some 1 := by kernel_rfl
theorem sz_33 : sizeT Tryz.prog 33 = some 5 := by kernel_rfl
theorem zt_33 : zeroT Tryz.prog 33 = some (.agg #[.int .i64 0, .int .i64 0, .int .i64 0, .int .i64 0, .int .i64 0]) := by kernel_rfl
theorem kind_ascii (op : Int) : ∀ c ∈ kind op, c.toNat < 128 := by
  intro c hc
  simp only [kind] at hc
  split at hc
  · rename_i h
    have key : ∀ n, n < 26 → ∀ c ∈ kindsL.getD n [], c.toNat < 128 := by decide
    exact key op.toNat (by omega) c hc
  · cases hc
theorem kind_asc {op : Int} {p : Nat} {c : UInt8} (h : (kind op)[p]? = some c) : c.toNat < 128 := kind_ascii op c (List.mem_of_getElem? h)
set_option maxRecDepth 100000 in
theorem run_eqIns (a b c imm : Int) (w : World) : (binOp .eql 33 (.agg #[.int .i64 0, .int .i64 a, .int .i64 b, .int .i64 c, .int .i64 imm]) (.agg #[.int .i64 0, .int .i64 0, .int .i64 0, .int .i64 0, .int .i64 0])).run Tryz.prog w =
    .ok (.bool (decide (a = 0 ∧ b = 0 ∧ c = 0 ∧ imm = 0))) w := by
  have u33 : Tryz.prog.underlying 33 = some (.struct (Tryz.prog.fieldsOf 33)) := by kernel_rfl
  have s33 : Tryz.prog.stoodInHeld 33 = false := by kernel_rfl
  rw [run_eql_struct, run_equalIn_agg w _ _ _ _ u33 s33]
  unfold Program.fieldsOf
  rw [Tryz.underlying33]
  have p3 : ∀ w, (isAgg 3).run Tryz.prog w = .ok false w := fun w => Sl.run_isAgg_plain (by kernel_rfl)
  have e3 : ∀ (d : Nat) (x y : Int) (w : World), (Op.equalIn (d + 1) 3 (.int .i64 x) (.int .i64 y)).run Tryz.prog w = .ok (x == y) w := fun d x y w => run_equalIn_int w d 3 .i64 .i64 x y (by kernel_rfl)
  simp [Op.eqFields, part, p3, e3]
  by_cases ha : a = 0 <;> by_cases hb : b = 0 <;> by_cases hc : c = 0 <;> by_cases hi : imm = 0 <;> simp [ha, hb, hc, hi]

set_option maxRecDepth 100000 in
set_option maxHeartbeats 400000 in
theorem within_w : ∀ (R : Heap) (n m : Int), FnW Tryz.prog 39 [.int .i64 n, .int .i64 m] R [] fun v _ => v = .bool (decide (0 ≤ n ∧ n < m)) := by
  intro R n m
  refine fn_of_body Tryz.func39 rfl Tryz.ntmps39 Tryz.results39 (by rfl) ?_
  refine cw_regseq ?_
  refine ow_y (y_assign rfl) rfl rfl rfl ?_
  refine ow_nil ?_
  refine cw_regseq ?_
  refine ow_y (y_move rfl) rfl rfl rfl ?_
  refine ow_cmp rfl rfl rfl rfl rfl (fun h6 => ?_) (fun h6 => ?_)
  · simp only [cmpP] at h6
    refine ow_y (y_move rfl) rfl rfl rfl ?_
    refine ow_y (y_move rfl) rfl rfl rfl ?_
    refine ow_y (y_move rfl) rfl rfl rfl ?_
    refine ow_y (y_cmpB rfl rfl rfl) rfl rfl rfl ?_
    refine ow_y (y_pick_t rfl rfl) rfl rfl rfl ?_
    refine ow_y (y_assign rfl) rfl rfl rfl ?_
    refine ow_nil ?_
    refine cw_ret ?_
    repeat with_reducible first | refine thenQ_ret ?_ | refine thenQ_normal ?_ | refine thenQ_exit ?_ | refine blockQ_ret ?_ | refine blockQ_normal ?_ | refine blockQ_exit_same ?_ | refine blockQ_exit_ne rfl ?_
    refine body_ret (.one (.tmp rfl)) ?_
    simp [cmpP, h6]
  · simp only [cmpP] at h6
    refine ow_y (y_move rfl) rfl rfl rfl ?_
    refine ow_skip rfl rfl rfl ?_
    refine ow_skip rfl rfl rfl ?_
    refine ow_skip rfl rfl rfl ?_
    refine ow_y (y_pick_f rfl rfl) rfl rfl rfl ?_
    refine ow_y (y_assign rfl) rfl rfl rfl ?_
    refine ow_nil ?_
    refine cw_ret ?_
    repeat with_reducible first | refine thenQ_ret ?_ | refine thenQ_normal ?_ | refine thenQ_exit ?_ | refine blockQ_ret ?_ | refine blockQ_normal ?_ | refine blockQ_exit_same ?_ | refine blockQ_exit_ne rfl ?_
    refine body_ret (.one (.tmp rfl)) ?_
    simp; omega

theorem within_c (R L : Heap) (n m : Int) : FnW Tryz.prog 39 [.int .i64 n, .int .i64 m] R L fun v L' => v = .bool (decide (0 ≤ n ∧ n < m)) ∧ L' = L := FnW.gen (within_w R n m) L

set_option maxRecDepth 100000 in
set_option maxHeartbeats 400000 in
theorem Right_w : ∀ (R : Heap) (i : Ins), Glob R → FnW Tryz.prog 25 [.agg (encI i).toArray] R [] fun v _ => v = .bool (right i) := by
  intro R i hR
  refine fn_of_body Tryz.func25 rfl Tryz.ntmps25 Tryz.results25 (by rfl) ?_
  refine cw_regseq ?_
  refine ow_box rfl rfl rfl rfl (fun b1 => ?_)
  refine ow_y (y_assign rfl) rfl rfl rfl ?_
  refine ow_nil ?_
  refine cw_regseq ?_
  refine ow_y (y_loadAgg rfl at_33 sz_33 (by first | (apply In.own; (repeat (first | exact List.Mem.head _ | apply List.Mem.tail)); done) | (apply In.ro; (repeat (first | exact List.Mem.head _ | apply List.Mem.tail)); done)) (by repeat (first | exact Sub.nil | apply Sub.take | apply Sub.skip))) rfl rfl rfl ?_
  refine ow_alloc rfl rfl zt_33 rfl (fun b3 => ?_)
  refine ow_storeAgg rfl rfl rfl sz_33 rfl rfl (by repeat (first | exact Upd.here | apply Upd.there)) (by repeat (first | exact SetLs.nil | (apply SetLs.cons; · repeat (first | exact SetL.here | apply SetL.there)))) ?_
  refine ow_nil ?_
  refine cw_regseq ?_
  refine ow_y (y_fieldAddr 0 rfl ft_33_0 rfl) rfl rfl rfl ?_
  refine ow_store rfl rfl rfl sz_3 rfl (by repeat (first | exact Upd.here | apply Upd.there)) (by repeat (first | exact SetL.here | apply SetL.there)) ?_
  refine ow_nil ?_
  refine cw_regseq ?_
  refine ow_y (y_fieldAddr 0 rfl ft_33_0 rfl) rfl rfl rfl ?_
  refine ow_y (y_load rfl pt_3 (by first | (apply In.own; (repeat (first | exact List.Mem.head _ | apply List.Mem.tail)); done) | (apply In.ro; (repeat (first | exact List.Mem.head _ | apply List.Mem.tail)); done)) rfl) rfl rfl rfl ?_
  refine ow_call rfl rfl (by rfl) ct_24 (Kind_c R _ hR i.op) ?_
  rintro _ _ ⟨rfl, rfl⟩
  refine ow_y (y_strneB rfl rfl) rfl rfl rfl ?_
  refine ow_y (y_assign rfl) rfl rfl rfl ?_
  refine ow_nil ?_
  refine cw_seq ?_
  refine cw_regseq ?_
  refine ow_y (y_fieldAddr 0 rfl ft_33_0 rfl) rfl rfl rfl ?_
  refine ow_y (y_load rfl pt_3 (by first | (apply In.own; (repeat (first | exact List.Mem.head _ | apply List.Mem.tail)); done) | (apply In.ro; (repeat (first | exact List.Mem.head _ | apply List.Mem.tail)); done)) rfl) rfl rfl rfl ?_
  refine ow_call rfl rfl (by rfl) ct_24 (Kind_c R _ hR i.op) ?_
  rintro _ _ ⟨rfl, rfl⟩
  refine ow_rangeStr rfl rfl rfl st_9 (fun b16 => ?_)
  refine ow_nil ?_
  refine cw_block ?_
  refine cw_loop (α := Nat × Bool × Int × Int × Int × Int) (fun x => [(1, .pointer (some ⟨b1, 0, none⟩)), (3, .pointer (some ⟨b3, 0, none⟩)), (16, .pointer (some ⟨b16, 0, none⟩)), (4, .bool x.2.1)]) (fun x => [(b16, .stringIter (bs (kind i.op)) x.1), (b3, cb [.int .i64 0, .int .i64 x.2.2.1, .int .i64 x.2.2.2.1, .int .i64 x.2.2.2.2.1, .int .i64 x.2.2.2.2.2] 33), (b1, cb (encI i) 33)]) (fun x => rstate i x.1 = (x.2.1, ⟨0, x.2.2.1, x.2.2.2.1, x.2.2.2.2.1, x.2.2.2.2.2⟩) ∧ x.1 ≤ (kind i.op).length) (fun x => (kind i.op).length - x.1) (0, decide (kind i.op ≠ []), i.a, i.b, i.c, i.imm) ?_ (by repeat (first | exact EnvLe.nil _ | refine EnvLe.cons rfl ?_)) (by repeat (first | exact Split.nil | (apply Split.cons; · repeat (first | exact Pick.here | apply Pick.there)))) ?_
  · exact ⟨rfl, Nat.zero_le _⟩
  · rintro ⟨p, fine, ra, rb, rc, rimm⟩ ⟨hx, hp⟩
    simp only at hx hp
    refine cw_regseq ?_
    rcases Nat.lt_or_ge p (kind i.op).length with hlt | hge
    · obtain ⟨c, hc⟩ : ∃ c, (kind i.op)[p]? = some c := ⟨_, List.getElem?_eq_getElem hlt⟩
      refine ow_next_step (c := c.toNat) (wd := 1) rfl rfl rfl hlt (Sl.decode_ascii hc (kind_asc hc)) (by repeat (first | exact Upd.here | apply Upd.there)) ?_
      refine ow_y (y_extract rfl rfl) rfl rfl rfl ?_
      refine ow_nil ?_
      refine cw_seq ?_
      refine cw_if_t rfl ?_
      refine cw_skip ?_
      repeat with_reducible first | refine thenQ_ret ?_ | refine thenQ_normal ?_ | refine thenQ_exit ?_ | refine blockQ_ret ?_ | refine blockQ_normal ?_ | refine blockQ_exit_same ?_ | refine blockQ_exit_ne rfl ?_
      refine cw_block ?_
      refine cw_regseq ?_
      refine ow_y (y_extract rfl rfl) rfl rfl rfl ?_
      refine ow_y (y_assign rfl) rfl rfl rfl ?_
      refine ow_nil ?_
      refine cw_regseq ?_
      refine ow_y (y_move rfl) rfl rfl rfl ?_
      refine ow_nil ?_
      refine cw_block ?_
      refine cw_regseq ?_
      refine ow_cmp rfl rfl rfl rfl rfl (fun h22 => ?_) (fun h22 => ?_)
      · simp only [cmpP] at h22
        refine ow_y (y_assign rfl) rfl rfl rfl ?_
        refine ow_nil ?_
        refine cw_if_t rfl ?_
        refine cw_region ?_
        refine ow_y (y_move rfl) rfl rfl rfl ?_
        refine ow_y (y_move rfl) rfl rfl rfl ?_
        refine ow_split (t := 24) rfl (fun hq1 => ?_) (fun hq1 => ?_)
        · refine ow_y (y_fieldAddr 1 rfl ft_33_1 rfl) rfl rfl rfl ?_
          refine ow_y (y_load rfl pt_3 (by first | (apply In.own; (repeat (first | exact List.Mem.head _ | apply List.Mem.tail)); done) | (apply In.ro; (repeat (first | exact List.Mem.head _ | apply List.Mem.tail)); done)) rfl) rfl rfl rfl ?_
          refine ow_call rfl rfl (by rfl) ct_39 (within_c R _ _ _) ?_
          rintro _ _ ⟨rfl, rfl⟩
          refine ow_y (y_pick_t rfl rfl) rfl rfl rfl ?_
          refine ow_y (y_assign rfl) rfl rfl rfl ?_
          refine ow_y (y_fieldAddr 1 rfl ft_33_1 rfl) rfl rfl rfl ?_
          refine ow_store rfl rfl rfl sz_3 rfl (by repeat (first | exact Upd.here | apply Upd.there)) (by repeat (first | exact SetL.here | apply SetL.there)) ?_
          refine ow_nil ?_
          repeat with_reducible first | refine thenQ_ret ?_ | refine thenQ_normal ?_ | refine thenQ_exit ?_ | refine blockQ_ret ?_ | refine blockQ_normal ?_ | refine blockQ_exit_same ?_ | refine blockQ_exit_ne rfl ?_
          refine ⟨(p + 1, decide (0 ≤ i.a ∧ i.a < 16), 0, rb, rc, rimm), _, ?_, ?_, (by repeat (first | exact EnvLe.nil _ | refine EnvLe.cons rfl ?_)), (by repeat (first | exact Split.nil | (apply Split.cons; · repeat (first | exact Pick.here | apply Pick.there))))⟩
          · refine ⟨?_, hlt⟩
            rw [rstate_succ i hc, hx]
            unfold rstep
            repeat first | rw [if_pos (by omega)] | rw [if_neg (by omega)]
            try simp_all
          · simp only; omega
        · refine ow_skip rfl rfl rfl ?_
          refine ow_skip rfl rfl rfl ?_
          refine ow_skip rfl rfl rfl ?_
          refine ow_y (y_pick_f rfl rfl) rfl rfl rfl ?_
          refine ow_y (y_assign rfl) rfl rfl rfl ?_
          refine ow_y (y_fieldAddr 1 rfl ft_33_1 rfl) rfl rfl rfl ?_
          refine ow_store rfl rfl rfl sz_3 rfl (by repeat (first | exact Upd.here | apply Upd.there)) (by repeat (first | exact SetL.here | apply SetL.there)) ?_
          refine ow_nil ?_
          repeat with_reducible first | refine thenQ_ret ?_ | refine thenQ_normal ?_ | refine thenQ_exit ?_ | refine blockQ_ret ?_ | refine blockQ_normal ?_ | refine blockQ_exit_same ?_ | refine blockQ_exit_ne rfl ?_
          refine ⟨(p + 1, false, 0, rb, rc, rimm), _, ?_, ?_, (by repeat (first | exact EnvLe.nil _ | refine EnvLe.cons rfl ?_)), (by repeat (first | exact Split.nil | (apply Split.cons; · repeat (first | exact Pick.here | apply Pick.there))))⟩
          · refine ⟨?_, hlt⟩
            rw [rstate_succ i hc, hx]
            unfold rstep
            repeat first | rw [if_pos (by omega)] | rw [if_neg (by omega)]
            try simp_all
          · simp only; omega
      · simp only [cmpP] at h22
        refine ow_y (y_assign rfl) rfl rfl rfl ?_
        refine ow_nil ?_
        refine cw_if_f rfl ?_
        refine cw_regseq ?_
        refine ow_cmp rfl rfl rfl rfl rfl (fun h31 => ?_) (fun h31 => ?_)
        · simp only [cmpP] at h31
          refine ow_y (y_assign rfl) rfl rfl rfl ?_
          refine ow_nil ?_
          refine cw_if_t rfl ?_
          refine cw_region ?_
          refine ow_y (y_move rfl) rfl rfl rfl ?_
          refine ow_y (y_move rfl) rfl rfl rfl ?_
          refine ow_split (t := 33) rfl (fun hq2 => ?_) (fun hq2 => ?_)
          · refine ow_y (y_fieldAddr 2 rfl ft_33_2 rfl) rfl rfl rfl ?_
            refine ow_y (y_load rfl pt_3 (by first | (apply In.own; (repeat (first | exact List.Mem.head _ | apply List.Mem.tail)); done) | (apply In.ro; (repeat (first | exact List.Mem.head _ | apply List.Mem.tail)); done)) rfl) rfl rfl rfl ?_
            refine ow_call rfl rfl (by rfl) ct_39 (within_c R _ _ _) ?_
            rintro _ _ ⟨rfl, rfl⟩
            refine ow_y (y_pick_t rfl rfl) rfl rfl rfl ?_
            refine ow_y (y_assign rfl) rfl rfl rfl ?_
            refine ow_y (y_fieldAddr 2 rfl ft_33_2 rfl) rfl rfl rfl ?_
            refine ow_store rfl rfl rfl sz_3 rfl (by repeat (first | exact Upd.here | apply Upd.there)) (by repeat (first | exact SetL.here | apply SetL.there)) ?_
            refine ow_nil ?_
            repeat with_reducible first | refine thenQ_ret ?_ | refine thenQ_normal ?_ | refine thenQ_exit ?_ | refine blockQ_ret ?_ | refine blockQ_normal ?_ | refine blockQ_exit_same ?_ | refine blockQ_exit_ne rfl ?_
            refine ⟨(p + 1, decide (0 ≤ i.b ∧ i.b < 16), ra, 0, rc, rimm), _, ?_, ?_, (by repeat (first | exact EnvLe.nil _ | refine EnvLe.cons rfl ?_)), (by repeat (first | exact Split.nil | (apply Split.cons; · repeat (first | exact Pick.here | apply Pick.there))))⟩
            · refine ⟨?_, hlt⟩
              rw [rstate_succ i hc, hx]
              unfold rstep
              repeat first | rw [if_pos (by omega)] | rw [if_neg (by omega)]
              try simp_all
            · simp only; omega
          · refine ow_skip rfl rfl rfl ?_
            refine ow_skip rfl rfl rfl ?_
            refine ow_skip rfl rfl rfl ?_
            refine ow_y (y_pick_f rfl rfl) rfl rfl rfl ?_
            refine ow_y (y_assign rfl) rfl rfl rfl ?_
            refine ow_y (y_fieldAddr 2 rfl ft_33_2 rfl) rfl rfl rfl ?_
            refine ow_store rfl rfl rfl sz_3 rfl (by repeat (first | exact Upd.here | apply Upd.there)) (by repeat (first | exact SetL.here | apply SetL.there)) ?_
            refine ow_nil ?_
            repeat with_reducible first | refine thenQ_ret ?_ | refine thenQ_normal ?_ | refine thenQ_exit ?_ | refine blockQ_ret ?_ | refine blockQ_normal ?_ | refine blockQ_exit_same ?_ | refine blockQ_exit_ne rfl ?_
            refine ⟨(p + 1, false, ra, 0, rc, rimm), _, ?_, ?_, (by repeat (first | exact EnvLe.nil _ | refine EnvLe.cons rfl ?_)), (by repeat (first | exact Split.nil | (apply Split.cons; · repeat (first | exact Pick.here | apply Pick.there))))⟩
            · refine ⟨?_, hlt⟩
              rw [rstate_succ i hc, hx]
              unfold rstep
              repeat first | rw [if_pos (by omega)] | rw [if_neg (by omega)]
              try simp_all
            · simp only; omega
        · simp only [cmpP] at h31
          refine ow_y (y_assign rfl) rfl rfl rfl ?_
          refine ow_nil ?_
          refine cw_if_f rfl ?_
          refine cw_regseq ?_
          refine ow_cmp rfl rfl rfl rfl rfl (fun h40 => ?_) (fun h40 => ?_)
          · simp only [cmpP] at h40
            refine ow_y (y_assign rfl) rfl rfl rfl ?_
            refine ow_nil ?_
            refine cw_if_t rfl ?_
            refine cw_region ?_
            refine ow_y (y_move rfl) rfl rfl rfl ?_
            refine ow_y (y_move rfl) rfl rfl rfl ?_
            refine ow_split (t := 42) rfl (fun hq3 => ?_) (fun hq3 => ?_)
            · refine ow_y (y_fieldAddr 3 rfl ft_33_3 rfl) rfl rfl rfl ?_
              refine ow_y (y_load rfl pt_3 (by first | (apply In.own; (repeat (first | exact List.Mem.head _ | apply List.Mem.tail)); done) | (apply In.ro; (repeat (first | exact List.Mem.head _ | apply List.Mem.tail)); done)) rfl) rfl rfl rfl ?_
              refine ow_call rfl rfl (by rfl) ct_39 (within_c R _ _ _) ?_
              rintro _ _ ⟨rfl, rfl⟩
              refine ow_y (y_pick_t rfl rfl) rfl rfl rfl ?_
              refine ow_y (y_assign rfl) rfl rfl rfl ?_
              refine ow_y (y_fieldAddr 3 rfl ft_33_3 rfl) rfl rfl rfl ?_
              refine ow_store rfl rfl rfl sz_3 rfl (by repeat (first | exact Upd.here | apply Upd.there)) (by repeat (first | exact SetL.here | apply SetL.there)) ?_
              refine ow_nil ?_
              repeat with_reducible first | refine thenQ_ret ?_ | refine thenQ_normal ?_ | refine thenQ_exit ?_ | refine blockQ_ret ?_ | refine blockQ_normal ?_ | refine blockQ_exit_same ?_ | refine blockQ_exit_ne rfl ?_
              refine ⟨(p + 1, decide (0 ≤ i.c ∧ i.c < 16), ra, rb, 0, rimm), _, ?_, ?_, (by repeat (first | exact EnvLe.nil _ | refine EnvLe.cons rfl ?_)), (by repeat (first | exact Split.nil | (apply Split.cons; · repeat (first | exact Pick.here | apply Pick.there))))⟩
              · refine ⟨?_, hlt⟩
                rw [rstate_succ i hc, hx]
                unfold rstep
                repeat first | rw [if_pos (by omega)] | rw [if_neg (by omega)]
                try simp_all
              · simp only; omega
            · refine ow_skip rfl rfl rfl ?_
              refine ow_skip rfl rfl rfl ?_
              refine ow_skip rfl rfl rfl ?_
              refine ow_y (y_pick_f rfl rfl) rfl rfl rfl ?_
              refine ow_y (y_assign rfl) rfl rfl rfl ?_
              refine ow_y (y_fieldAddr 3 rfl ft_33_3 rfl) rfl rfl rfl ?_
              refine ow_store rfl rfl rfl sz_3 rfl (by repeat (first | exact Upd.here | apply Upd.there)) (by repeat (first | exact SetL.here | apply SetL.there)) ?_
              refine ow_nil ?_
              repeat with_reducible first | refine thenQ_ret ?_ | refine thenQ_normal ?_ | refine thenQ_exit ?_ | refine blockQ_ret ?_ | refine blockQ_normal ?_ | refine blockQ_exit_same ?_ | refine blockQ_exit_ne rfl ?_
              refine ⟨(p + 1, false, ra, rb, 0, rimm), _, ?_, ?_, (by repeat (first | exact EnvLe.nil _ | refine EnvLe.cons rfl ?_)), (by repeat (first | exact Split.nil | (apply Split.cons; · repeat (first | exact Pick.here | apply Pick.there))))⟩
              · refine ⟨?_, hlt⟩
                rw [rstate_succ i hc, hx]
                unfold rstep
                repeat first | rw [if_pos (by omega)] | rw [if_neg (by omega)]
                try simp_all
              · simp only; omega
          · simp only [cmpP] at h40
            refine ow_y (y_assign rfl) rfl rfl rfl ?_
            refine ow_nil ?_
            refine cw_if_f rfl ?_
            refine cw_regseq ?_
            refine ow_cmp rfl rfl rfl rfl rfl (fun h49 => ?_) (fun h49 => ?_)
            · simp only [cmpP] at h49
              refine ow_y (y_assign rfl) rfl rfl rfl ?_
              refine ow_nil ?_
              refine cw_if_t rfl ?_
              refine cw_region ?_
              refine ow_y (y_move rfl) rfl rfl rfl ?_
              refine ow_y (y_move rfl) rfl rfl rfl ?_
              refine ow_split (t := 51) rfl (fun hq4 => ?_) (fun hq4 => ?_)
              · refine ow_y (y_fieldAddr 4 rfl ft_33_4 rfl) rfl rfl rfl ?_
                refine ow_y (y_load rfl pt_3 (by first | (apply In.own; (repeat (first | exact List.Mem.head _ | apply List.Mem.tail)); done) | (apply In.ro; (repeat (first | exact List.Mem.head _ | apply List.Mem.tail)); done)) rfl) rfl rfl rfl ?_
                refine ow_call rfl rfl (by rfl) ct_39 (within_c R _ _ _) ?_
                rintro _ _ ⟨rfl, rfl⟩
                refine ow_y (y_pick_t rfl rfl) rfl rfl rfl ?_
                refine ow_y (y_assign rfl) rfl rfl rfl ?_
                refine ow_y (y_fieldAddr 4 rfl ft_33_4 rfl) rfl rfl rfl ?_
                refine ow_store rfl rfl rfl sz_3 rfl (by repeat (first | exact Upd.here | apply Upd.there)) (by repeat (first | exact SetL.here | apply SetL.there)) ?_
                refine ow_nil ?_
                repeat with_reducible first | refine thenQ_ret ?_ | refine thenQ_normal ?_ | refine thenQ_exit ?_ | refine blockQ_ret ?_ | refine blockQ_normal ?_ | refine blockQ_exit_same ?_ | refine blockQ_exit_ne rfl ?_
                refine ⟨(p + 1, decide (0 ≤ i.imm ∧ i.imm < 65536), ra, rb, rc, 0), _, ?_, ?_, (by repeat (first | exact EnvLe.nil _ | refine EnvLe.cons rfl ?_)), (by repeat (first | exact Split.nil | (apply Split.cons; · repeat (first | exact Pick.here | apply Pick.there))))⟩
                · refine ⟨?_, hlt⟩
                  rw [rstate_succ i hc, hx]
                  unfold rstep
                  repeat first | rw [if_pos (by omega)] | rw [if_neg (by omega)]
                  try simp_all
                · simp only; omega
              · refine ow_skip rfl rfl rfl ?_
                refine ow_skip rfl rfl rfl ?_
                refine ow_skip rfl rfl rfl ?_
                refine ow_y (y_pick_f rfl rfl) rfl rfl rfl ?_
                refine ow_y (y_assign rfl) rfl rfl rfl ?_
                refine ow_y (y_fieldAddr 4 rfl ft_33_4 rfl) rfl rfl rfl ?_
                refine ow_store rfl rfl rfl sz_3 rfl (by repeat (first | exact Upd.here | apply Upd.there)) (by repeat (first | exact SetL.here | apply SetL.there)) ?_
                refine ow_nil ?_
                repeat with_reducible first | refine thenQ_ret ?_ | refine thenQ_normal ?_ | refine thenQ_exit ?_ | refine blockQ_ret ?_ | refine blockQ_normal ?_ | refine blockQ_exit_same ?_ | refine blockQ_exit_ne rfl ?_
                refine ⟨(p + 1, false, ra, rb, rc, 0), _, ?_, ?_, (by repeat (first | exact EnvLe.nil _ | refine EnvLe.cons rfl ?_)), (by repeat (first | exact Split.nil | (apply Split.cons; · repeat (first | exact Pick.here | apply Pick.there))))⟩
                · refine ⟨?_, hlt⟩
                  rw [rstate_succ i hc, hx]
                  unfold rstep
                  repeat first | rw [if_pos (by omega)] | rw [if_neg (by omega)]
                  try simp_all
                · simp only; omega
            · simp only [cmpP] at h49
              refine ow_y (y_assign rfl) rfl rfl rfl ?_
              refine ow_nil ?_
              refine cw_if_f rfl ?_
              refine cw_skip ?_
              repeat with_reducible first | refine thenQ_ret ?_ | refine thenQ_normal ?_ | refine thenQ_exit ?_ | refine blockQ_ret ?_ | refine blockQ_normal ?_ | refine blockQ_exit_same ?_ | refine blockQ_exit_ne rfl ?_
              refine ⟨(p + 1, fine, ra, rb, rc, rimm), _, ?_, ?_, (by repeat (first | exact EnvLe.nil _ | refine EnvLe.cons rfl ?_)), (by repeat (first | exact Split.nil | (apply Split.cons; · repeat (first | exact Pick.here | apply Pick.there))))⟩
              · refine ⟨?_, hlt⟩
                rw [rstate_succ i hc, hx]
                unfold rstep
                repeat first | rw [if_pos (by omega)] | rw [if_neg (by omega)]
                try simp_all
              · simp only; omega
    · refine ow_next_over rfl rfl rfl (by repeat (first | exact List.Mem.head _ | apply List.Mem.tail)) hge ?_
      refine ow_y (y_extract rfl rfl) rfl rfl rfl ?_
      refine ow_nil ?_
      refine cw_seq ?_
      refine cw_if_f rfl ?_
      refine cw_exit ?_
      repeat with_reducible first | refine thenQ_ret ?_ | refine thenQ_normal ?_ | refine thenQ_exit ?_ | refine blockQ_ret ?_ | refine blockQ_normal ?_ | refine blockQ_exit_same ?_ | refine blockQ_exit_ne rfl ?_
      refine cw_regseq ?_
      refine ow_y (y_move rfl) rfl rfl rfl ?_
      refine ow_y (y_move rfl) rfl rfl rfl ?_
      refine ow_split (t := 58) rfl (fun hq5 => ?_) (fun hq5 => ?_)
      · refine ow_y (y_loadAgg rfl at_33 sz_33 (by first | (apply In.own; (repeat (first | exact List.Mem.head _ | apply List.Mem.tail)); done) | (apply In.ro; (repeat (first | exact List.Mem.head _ | apply List.Mem.tail)); done)) (by repeat (first | exact Sub.nil | apply Sub.take | apply Sub.skip))) rfl rfl rfl ?_
        refine ow_y (y_build (zs := [.int .i64 0, .int .i64 0, .int .i64 0, .int .i64 0, .int .i64 0]) (fun i => [(0, 1), (1, 1), (2, 1), (3, 1), (4, 1)][i]?) (by repeat (first | exact EvPs.nil | apply EvPs.cons rfl)) (by repeat (first | exact FillL.nil | (apply FillL.cons rfl rfl rfl; · repeat (first | exact SetLs.nil | (apply SetLs.cons; · repeat (first | exact SetL.here | apply SetL.there)))))) (fun _ => by kernel_rfl)) rfl rfl rfl ?_
        refine ow_y (y_bin (v := .bool (decide (ra = 0 ∧ rb = 0 ∧ rc = 0 ∧ rimm = 0))) rfl rfl (fun w => run_eqGuard_agg w _ _ _ _ _ _ (by kernel_rfl)) (fun w => run_eqIns _ _ _ _ w)) rfl rfl rfl ?_
        refine ow_y (y_pick_t rfl rfl) rfl rfl rfl ?_
        refine ow_y (y_assign rfl) rfl rfl rfl ?_
        refine ow_nil ?_
        refine cw_ret ?_
        repeat with_reducible first | refine thenQ_ret ?_ | refine thenQ_normal ?_ | refine thenQ_exit ?_ | refine blockQ_ret ?_ | refine blockQ_normal ?_ | refine blockQ_exit_same ?_ | refine blockQ_exit_ne rfl ?_
        refine body_ret (.one (.tmp rfl)) ?_
        have hpl : p = (kind i.op).length := by omega
        subst hpl
        simp only [right, hx]
        simp_all
      · refine ow_skip rfl rfl rfl ?_
        refine ow_skip rfl rfl rfl ?_
        refine ow_skip rfl rfl rfl ?_
        refine ow_y (y_pick_f rfl rfl) rfl rfl rfl ?_
        refine ow_y (y_assign rfl) rfl rfl rfl ?_
        refine ow_nil ?_
        refine cw_ret ?_
        repeat with_reducible first | refine thenQ_ret ?_ | refine thenQ_normal ?_ | refine thenQ_exit ?_ | refine blockQ_ret ?_ | refine blockQ_normal ?_ | refine blockQ_exit_same ?_ | refine blockQ_exit_ne rfl ?_
        refine body_ret (.one (.tmp rfl)) ?_
        have hpl : p = (kind i.op).length := by omega
        subst hpl
        simp only [right, hx]
        simp_all

theorem Right_c (R L : Heap) (hR : Glob R) (i : Ins) : FnW Tryz.prog 25 [.agg (encI i).toArray] R L fun v L' => v = .bool (right i) ∧ L' = L := FnW.gen (Right_w R i hR) L

end Go.Proofs.YtgppllppddaodaaGreatDoor

/-
  The walks of Encode, Decode.
-/
namespace Go.Proofs.YtgppllppddaodaaGreatDoor
open Sl Am
open Go
theorem ct_23 : callT Tryz.prog 23 = true := by kernel_rfl
theorem ct_25 : callT Tryz.prog 25 = true := by kernel_rfl
theorem cv_36_3 : convT Tryz.prog 36 3 .i64 = true := by kernel_rfl
theorem cv_3_36 : convT Tryz.prog 3 36 .u32 = true := by kernel_rfl
theorem run_shl {P : Program} (t : TypeId) (x : Int) (n : Nat) (hn : n < 64) (w : World) : (binOp .shl t (.int .i64 x) (.int .u64 n)).run P w = .ok (.int .i64 (IntKind.i64.wrap (x * 2 ^ n))) w := by
  simp only [binOp, Op.shift]
  rw [if_neg (by omega)]
  have : min n 64 = n := by omega
  simp [IntKind.bits, this]
theorem run_or {P : Program} (t : TypeId) (x y : Int) (w : World) : (binOp .or t (.int .i64 x) (.int .i64 y)).run P w = .ok (.int .i64 (IntKind.i64.wrap (BitVec.ofInt 64 x ||| BitVec.ofInt 64 y).toNat)) w := by
  simp only [binOp, Op.intBits]; rfl
theorem run_and32 {P : Program} (t : TypeId) (x y : Int) (w : World) : (binOp .and t (.int .u32 x) (.int .u32 y)).run P w = .ok (.int .u32 (IntKind.u32.wrap (BitVec.ofInt 32 x &&& BitVec.ofInt 32 y).toNat)) w := by
  simp only [binOp, Op.intBits]; rfl
theorem run_shr32 {P : Program} (t : TypeId) (x : Int) (n : Nat) (hn : n < 32) (w : World) : (binOp .shr t (.int .u32 x) (.int .u64 n)).run P w = .ok (.int .u32 (x.fdiv (2 ^ n))) w := by
  simp only [binOp, Op.shift]
  rw [if_neg (by omega)]
  have : min n 32 = n := by omega
  simp [IntKind.bits, this]
theorem wordOf_or {i : Ins} (h : right i = true) : IntKind.u32.wrap (IntKind.i64.wrap (BitVec.ofInt 64 (IntKind.i64.wrap (BitVec.ofInt 64 (IntKind.i64.wrap (BitVec.ofInt 64 (IntKind.i64.wrap (BitVec.ofInt 64 (IntKind.i64.wrap (i.op * 2 ^ 24)) ||| BitVec.ofInt 64 (IntKind.i64.wrap (i.a * 2 ^ 20))).toNat) ||| BitVec.ofInt 64 (IntKind.i64.wrap (i.b * 2 ^ 16))).toNat) ||| BitVec.ofInt 64 i.c).toNat) ||| BitVec.ofInt 64 i.imm).toNat) = wordOf i := by
  obtain ⟨h1, h2, h3, h4, h5, h6, h7, h8, h9, h10, h11⟩ := right_bounds h
  rw [wrap64_id (n := i.op * 2 ^ 24) (by omega) (by omega), wrap64_id (n := i.a * 2 ^ 20) (by omega) (by omega), wrap64_id (n := i.b * 2 ^ 16) (by omega) (by omega)]
  rw [or_add (a := i.op * 2 ^ 24) (b := i.a * 2 ^ 20) 24 (by omega) (by omega) (by omega) (by omega) (by omega)]
  rw [or_add (a := i.op * 2 ^ 24 + i.a * 2 ^ 20) (b := i.b * 2 ^ 16) 20 (by omega) (by omega) (by omega) (by omega) (by omega)]
  rw [or_add (a := i.op * 2 ^ 24 + i.a * 2 ^ 20 + i.b * 2 ^ 16) (b := i.c) 16 (by omega) (by omega) (by omega) (by omega) (by omega)]
  have hw : wordOf i = i.op * 2 ^ 24 + i.a * 2 ^ 20 + i.b * 2 ^ 16 + i.c + i.imm := by simp only [wordOf]; omega
  rcases h11 with h11 | h11
  · rw [or_add 16 (by omega) (by omega) (by omega) (by omega) (by omega), hw]
    simp only [IntKind.wrap, IntKind.bits, IntKind.signed]; simp; omega
  · rw [h11, or_add 0 (by omega) (by omega) (by omega) (by omega) (by omega), hw]
    simp only [IntKind.wrap, IntKind.bits, IntKind.signed]; simp; omega

set_option maxRecDepth 100000 in
set_option maxHeartbeats 400000 in
theorem Encode_w : ∀ (R : Heap) (i : Ins), Glob R → FnW Tryz.prog 22 [.agg (encI i).toArray] R [] fun v _ => v = .tuple #[.int .u32 (encode i).1, .int .i64 (encode i).2] := by
  intro R i hR
  refine fn_of_body Tryz.func22 rfl Tryz.ntmps22 Tryz.results22 (by rfl) ?_
  refine cw_regseq ?_
  refine ow_box rfl rfl rfl rfl (fun b1 => ?_)
  refine ow_y (y_assign rfl) rfl rfl rfl ?_
  refine ow_y (y_assign rfl) rfl rfl rfl ?_
  refine ow_nil ?_
  refine cw_seq ?_
  refine cw_regseq ?_
  refine ow_y (y_loadAgg rfl at_33 sz_33 (by first | (apply In.own; (repeat (first | exact List.Mem.head _ | apply List.Mem.tail)); done) | (apply In.ro; (repeat (first | exact List.Mem.head _ | apply List.Mem.tail)); done)) (by repeat (first | exact Sub.nil | apply Sub.take | apply Sub.skip))) rfl rfl rfl ?_
  refine ow_call rfl rfl (by rfl) ct_25 (Right_c R _ hR i) ?_
  rintro _ _ ⟨rfl, rfl⟩
  refine ow_y (y_not rfl) rfl rfl rfl ?_
  refine ow_nil ?_
  refine cw_if rfl (fun hc1 => ?_) (fun hc1 => ?_)
  · skip
    refine cw_regseq ?_
    refine ow_y (y_assign rfl) rfl rfl rfl ?_
    refine ow_y (y_assign rfl) rfl rfl rfl ?_
    refine ow_nil ?_
    refine cw_ret ?_
    repeat with_reducible first | refine thenQ_ret ?_ | refine thenQ_normal ?_ | refine thenQ_exit ?_ | refine blockQ_ret ?_ | refine blockQ_normal ?_ | refine blockQ_exit_same ?_ | refine blockQ_exit_ne rfl ?_
    refine body_ret (.two (.tmp rfl) (.tmp rfl)) ?_
    simp only [encode]
    rw [if_neg (by simpa using hc1)]
  · skip
    refine cw_skip ?_
    repeat with_reducible first | refine thenQ_ret ?_ | refine thenQ_normal ?_ | refine thenQ_exit ?_ | refine blockQ_ret ?_ | refine blockQ_normal ?_ | refine blockQ_exit_same ?_ | refine blockQ_exit_ne rfl ?_
    refine cw_regseq ?_
    refine ow_y (y_fieldAddr 0 rfl ft_33_0 rfl) rfl rfl rfl ?_
    refine ow_y (y_load rfl pt_3 (by first | (apply In.own; (repeat (first | exact List.Mem.head _ | apply List.Mem.tail)); done) | (apply In.ro; (repeat (first | exact List.Mem.head _ | apply List.Mem.tail)); done)) rfl) rfl rfl rfl ?_
    refine ow_y (y_bin rfl rfl (fun w => run_guard_int _ _ _ _ _ _ w) (fun w => run_shl _ _ 24 (by omega) w)) rfl rfl rfl ?_
    refine ow_y (y_fieldAddr 1 rfl ft_33_1 rfl) rfl rfl rfl ?_
    refine ow_y (y_load rfl pt_3 (by first | (apply In.own; (repeat (first | exact List.Mem.head _ | apply List.Mem.tail)); done) | (apply In.ro; (repeat (first | exact List.Mem.head _ | apply List.Mem.tail)); done)) rfl) rfl rfl rfl ?_
    refine ow_y (y_bin rfl rfl (fun w => run_guard_int _ _ _ _ _ _ w) (fun w => run_shl _ _ 20 (by omega) w)) rfl rfl rfl ?_
    refine ow_y (y_bin rfl rfl (fun w => run_guard_int _ _ _ _ _ _ w) (fun w => run_or _ _ _ w)) rfl rfl rfl ?_
    refine ow_y (y_fieldAddr 2 rfl ft_33_2 rfl) rfl rfl rfl ?_
    refine ow_y (y_load rfl pt_3 (by first | (apply In.own; (repeat (first | exact List.Mem.head _ | apply List.Mem.tail)); done) | (apply In.ro; (repeat (first | exact List.Mem.head _ | apply List.Mem.tail)); done)) rfl) rfl rfl rfl ?_
    refine ow_y (y_bin rfl rfl (fun w => run_guard_int _ _ _ _ _ _ w) (fun w => run_shl _ _ 16 (by omega) w)) rfl rfl rfl ?_
    refine ow_y (y_bin rfl rfl (fun w => run_guard_int _ _ _ _ _ _ w) (fun w => run_or _ _ _ w)) rfl rfl rfl ?_
    refine ow_y (y_fieldAddr 3 rfl ft_33_3 rfl) rfl rfl rfl ?_
    refine ow_y (y_load rfl pt_3 (by first | (apply In.own; (repeat (first | exact List.Mem.head _ | apply List.Mem.tail)); done) | (apply In.ro; (repeat (first | exact List.Mem.head _ | apply List.Mem.tail)); done)) rfl) rfl rfl rfl ?_
    refine ow_y (y_bin rfl rfl (fun w => run_guard_int _ _ _ _ _ _ w) (fun w => run_or _ _ _ w)) rfl rfl rfl ?_
    refine ow_y (y_fieldAddr 4 rfl ft_33_4 rfl) rfl rfl rfl ?_
    refine ow_y (y_load rfl pt_3 (by first | (apply In.own; (repeat (first | exact List.Mem.head _ | apply List.Mem.tail)); done) | (apply In.ro; (repeat (first | exact List.Mem.head _ | apply List.Mem.tail)); done)) rfl) rfl rfl rfl ?_
    refine ow_y (y_bin rfl rfl (fun w => run_guard_int _ _ _ _ _ _ w) (fun w => run_or _ _ _ w)) rfl rfl rfl ?_
    refine ow_y (y_convInt rfl cv_3_36) rfl rfl rfl ?_
    refine ow_y (y_assign rfl) rfl rfl rfl ?_
    refine ow_y (y_assign rfl) rfl rfl rfl ?_
    refine ow_nil ?_
    refine cw_ret ?_
    repeat with_reducible first | refine thenQ_ret ?_ | refine thenQ_normal ?_ | refine thenQ_exit ?_ | refine blockQ_ret ?_ | refine blockQ_normal ?_ | refine blockQ_exit_same ?_ | refine blockQ_exit_ne rfl ?_
    refine body_ret (.two (.tmp rfl) (.tmp rfl)) ?_
    have hr : right i = true := by simpa using hc1
    simp only [encode]
    rw [if_pos hr, wordOf_or hr]

theorem Encode_c (R L : Heap) (hR : Glob R) (i : Ins) : FnW Tryz.prog 22 [.agg (encI i).toArray] R L fun v L' => v = .tuple #[.int .u32 (encode i).1, .int .i64 (encode i).2] ∧ L' = L := FnW.gen (Encode_w R i hR) L

theorem run_shr {P : Program} (t : TypeId) {x : Int} (n : Nat) (m : Int) (hn : n < 32) (hm : (2 : Int) ^ n = m) (w : World) : (binOp .shr t (.int .u32 x) (.int .u64 n)).run P w = .ok (.int .u32 (x / m)) w := by
  rw [run_shr32 t x n hn w, hm, Int.fdiv_eq_ediv_of_nonneg]
  rw [← hm]; exact Int.le_of_lt (Int.pow_pos (by decide))
theorem run_mask {P : Program} (t : TypeId) {x : Int} (k : Nat) (a m : Int) (hx : 0 ≤ x) (hx2 : x < 4294967296) (hk : k ≤ 32) (ha : ((2 ^ k - 1 : Nat) : Int) = a) (hm : ((2 ^ k : Nat) : Int) = m) (w : World) : (binOp .and t (.int .u32 x) (.int .u32 a)).run P w = .ok (.int .u32 (x % m)) w := by
  rw [run_and32, ← ha, and_mask k hx hx2 hk, hm]
theorem y_conv_id {P : Program} {N : Nat} {R : Heap} {e : Env} {L : Heap} {d : Nat} {x : Operand} {s t : TypeId} {ty pos af g} {k' : IntKind} {n : Int} (hx : ev e x = some (.int k' n)) (ht : convT P s t .i64 = true) (h0 : 0 ≤ n) (h1 : n < 9223372036854775808) : Yld P N R ⟨some d, .convert s t x, ty, pos, af, g⟩ e L (.int .i64 n) := by
  have h := y_convInt (P := P) (N := N) (R := R) (d := d) (ty := ty) (pos := pos) (af := af) (g := g) (L := L) hx ht
  rwa [wrap64_id (by omega) h1] at h

set_option maxRecDepth 100000 in
set_option maxHeartbeats 400000 in
theorem Decode_w : ∀ (R : Heap) (w : Int), Glob R → 0 ≤ w → w < 4294967296 → FnW Tryz.prog 14 [.int .u32 w] R [] fun v _ => v = .tuple #[.agg (encI (Am.decode w).1).toArray, .int .i64 (Am.decode w).2] := by
  intro R w hR hw0 hw1
  refine fn_of_body Tryz.func14 rfl Tryz.ntmps14 Tryz.results14 (by rfl) ?_
  refine cw_regseq ?_
  refine ow_alloc rfl rfl zt_33 rfl (fun b2 => ?_)
  refine ow_y (y_assign rfl) rfl rfl rfl ?_
  refine ow_nil ?_
  refine cw_regseq ?_
  refine ow_y (y_move rfl) rfl rfl rfl ?_
  refine ow_y (y_bin rfl rfl (fun w => run_guard_int _ _ _ _ _ _ w) (fun w => run_shr _ 24 16777216 (by omega) (by rfl) w)) rfl rfl rfl ?_
  refine ow_y (y_conv_id rfl cv_36_3 (by omega) (by omega)) rfl rfl rfl ?_
  refine ow_y (y_move rfl) rfl rfl rfl ?_
  refine ow_y (y_bin rfl rfl (fun w => run_guard_int _ _ _ _ _ _ w) (fun w => run_shr _ 20 1048576 (by omega) (by rfl) w)) rfl rfl rfl ?_
  refine ow_y (y_bin rfl rfl (fun w => run_guard_int _ _ _ _ _ _ w) (fun w => run_mask _ 4 15 16 (by omega) (by omega) (by omega) (by rfl) (by rfl) w)) rfl rfl rfl ?_
  refine ow_y (y_conv_id rfl cv_36_3 (by omega) (by omega)) rfl rfl rfl ?_
  refine ow_y (y_move rfl) rfl rfl rfl ?_
  refine ow_y (y_bin rfl rfl (fun w => run_guard_int _ _ _ _ _ _ w) (fun w => run_shr _ 16 65536 (by omega) (by rfl) w)) rfl rfl rfl ?_
  refine ow_y (y_bin rfl rfl (fun w => run_guard_int _ _ _ _ _ _ w) (fun w => run_mask _ 4 15 16 (by omega) (by omega) (by omega) (by rfl) (by rfl) w)) rfl rfl rfl ?_
  refine ow_y (y_conv_id rfl cv_36_3 (by omega) (by omega)) rfl rfl rfl ?_
  refine ow_y (y_build (zs := [.int .i64 0, .int .i64 0, .int .i64 0, .int .i64 0, .int .i64 0]) (fun i => [(0, 1), (1, 1), (2, 1), (3, 1), (4, 1)][i]?) (by repeat (first | exact EvPs.nil | apply EvPs.cons rfl)) (by repeat (first | exact FillL.nil | (apply FillL.cons rfl rfl rfl; · repeat (first | exact SetLs.nil | (apply SetLs.cons; · repeat (first | exact SetL.here | apply SetL.there)))))) (fun _ => by kernel_rfl)) rfl rfl rfl ?_
  refine ow_alloc rfl rfl zt_33 rfl (fun b4 => ?_)
  refine ow_storeAgg rfl rfl rfl sz_33 rfl rfl (by repeat (first | exact Upd.here | apply Upd.there)) (by repeat (first | exact SetLs.nil | (apply SetLs.cons; · repeat (first | exact SetL.here | apply SetL.there)))) ?_
  refine ow_nil ?_
  refine cw_seq ?_
  refine cw_regseq ?_
  refine ow_y (y_fieldAddr 0 rfl ft_33_0 rfl) rfl rfl rfl ?_
  refine ow_y (y_load rfl pt_3 (by first | (apply In.own; (repeat (first | exact List.Mem.head _ | apply List.Mem.tail)); done) | (apply In.ro; (repeat (first | exact List.Mem.head _ | apply List.Mem.tail)); done)) rfl) rfl rfl rfl ?_
  refine ow_call rfl rfl (by rfl) ct_24 (Kind_c R _ hR _) ?_
  rintro _ _ ⟨rfl, rfl⟩
  refine ow_call rfl rfl (by rfl) ct_23 (indexByte_c R _ _ 99) ?_
  rintro _ _ ⟨rfl, rfl⟩
  refine ow_y (y_cmpB rfl rfl rfl) rfl rfl rfl ?_
  refine ow_nil ?_
  refine cw_if rfl (fun hc1 => ?_) (fun hc1 => ?_)
  · have hd : decodeW w = ⟨w / 16777216, w / 1048576 % 16, w / 65536 % 16, w % 65536, 0⟩ := by simp only [decodeW]; rw [if_pos (by simp only [hasC, decide_eq_true_eq]; exact of_decide_eq_true hc1)]
    refine cw_region ?_
    refine ow_y (y_move rfl) rfl rfl rfl ?_
    refine ow_y (y_bin rfl rfl (fun w => run_guard_int _ _ _ _ _ _ w) (fun w => run_mask _ 16 65535 65536 (by omega) (by omega) (by omega) (by rfl) (by rfl) w)) rfl rfl rfl ?_
    refine ow_y (y_conv_id rfl cv_36_3 (by omega) (by omega)) rfl rfl rfl ?_
    refine ow_y (y_fieldAddr 3 rfl ft_33_3 rfl) rfl rfl rfl ?_
    refine ow_store rfl rfl rfl sz_3 rfl (by repeat (first | exact Upd.here | apply Upd.there)) (by repeat (first | exact SetL.here | apply SetL.there)) ?_
    refine ow_nil ?_
    repeat with_reducible first | refine thenQ_ret ?_ | refine thenQ_normal ?_ | refine thenQ_exit ?_ | refine blockQ_ret ?_ | refine blockQ_normal ?_ | refine blockQ_exit_same ?_ | refine blockQ_exit_ne rfl ?_
    refine cw_seq ?_
    refine cw_regseq ?_
    refine ow_y (y_loadAgg rfl at_33 sz_33 (by first | (apply In.own; (repeat (first | exact List.Mem.head _ | apply List.Mem.tail)); done) | (apply In.ro; (repeat (first | exact List.Mem.head _ | apply List.Mem.tail)); done)) (by repeat (first | exact Sub.nil | apply Sub.take | apply Sub.skip))) rfl rfl rfl ?_
    refine ow_call rfl rfl (by rfl) ct_25 (Right_c R _ hR ⟨_, _, _, _, _⟩) ?_
    rintro _ _ ⟨rfl, rfl⟩
    refine ow_y (y_not rfl) rfl rfl rfl ?_
    refine ow_nil ?_
    refine cw_if rfl (fun hc2 => ?_) (fun hc2 => ?_)
    · skip
      refine cw_regseq ?_
      refine ow_y (y_build (zs := [.int .i64 0, .int .i64 0, .int .i64 0, .int .i64 0, .int .i64 0]) (fun i => [(0, 1), (1, 1), (2, 1), (3, 1), (4, 1)][i]?) (by repeat (first | exact EvPs.nil | apply EvPs.cons rfl)) (by repeat (first | exact FillL.nil | (apply FillL.cons rfl rfl rfl; · repeat (first | exact SetLs.nil | (apply SetLs.cons; · repeat (first | exact SetL.here | apply SetL.there)))))) (fun _ => by kernel_rfl)) rfl rfl rfl ?_
      refine ow_storeAgg rfl rfl rfl sz_33 rfl rfl (by repeat (first | exact Upd.here | apply Upd.there)) (by repeat (first | exact SetLs.nil | (apply SetLs.cons; · repeat (first | exact SetL.here | apply SetL.there)))) ?_
      refine ow_y (y_assign rfl) rfl rfl rfl ?_
      refine ow_nil ?_
      refine cw_ret ?_
      repeat with_reducible first | refine thenQ_ret ?_ | refine thenQ_normal ?_ | refine thenQ_exit ?_ | refine blockQ_ret ?_ | refine blockQ_normal ?_ | refine blockQ_exit_same ?_ | refine blockQ_exit_ne rfl ?_
      refine body_ret (.two (.agg rfl at_33 sz_33 (by first | (apply In.own; (repeat (first | exact List.Mem.head _ | apply List.Mem.tail)); done) | (apply In.ro; (repeat (first | exact List.Mem.head _ | apply List.Mem.tail)); done)) (by repeat (first | exact Sub.nil | apply Sub.take | apply Sub.skip))) (.tmp rfl)) ?_
      have hr := hc2
      rw [← hd] at hr
      simp only [Am.decode]
      rw [if_neg (by simpa using hr)]; rfl
    · skip
      refine cw_skip ?_
      repeat with_reducible first | refine thenQ_ret ?_ | refine thenQ_normal ?_ | refine thenQ_exit ?_ | refine blockQ_ret ?_ | refine blockQ_normal ?_ | refine blockQ_exit_same ?_ | refine blockQ_exit_ne rfl ?_
      refine cw_regseq ?_
      refine ow_y (y_loadAgg rfl at_33 sz_33 (by first | (apply In.own; (repeat (first | exact List.Mem.head _ | apply List.Mem.tail)); done) | (apply In.ro; (repeat (first | exact List.Mem.head _ | apply List.Mem.tail)); done)) (by repeat (first | exact Sub.nil | apply Sub.take | apply Sub.skip))) rfl rfl rfl ?_
      refine ow_storeAgg rfl rfl rfl sz_33 rfl rfl (by repeat (first | exact Upd.here | apply Upd.there)) (by repeat (first | exact SetLs.nil | (apply SetLs.cons; · repeat (first | exact SetL.here | apply SetL.there)))) ?_
      refine ow_y (y_assign rfl) rfl rfl rfl ?_
      refine ow_nil ?_
      refine cw_ret ?_
      repeat with_reducible first | refine thenQ_ret ?_ | refine thenQ_normal ?_ | refine thenQ_exit ?_ | refine blockQ_ret ?_ | refine blockQ_normal ?_ | refine blockQ_exit_same ?_ | refine blockQ_exit_ne rfl ?_
      refine body_ret (.two (.agg rfl at_33 sz_33 (by first | (apply In.own; (repeat (first | exact List.Mem.head _ | apply List.Mem.tail)); done) | (apply In.ro; (repeat (first | exact List.Mem.head _ | apply List.Mem.tail)); done)) (by repeat (first | exact Sub.nil | apply Sub.take | apply Sub.skip))) (.tmp rfl)) ?_
      have hr := hc2
      rw [← hd] at hr
      simp only [Am.decode]
      rw [if_pos (by simpa using hr), hd]; rfl
  · have hd : decodeW w = ⟨w / 16777216, w / 1048576 % 16, w / 65536 % 16, 0, w % 65536⟩ := by simp only [decodeW]; rw [if_neg (by simp only [hasC, decide_eq_true_eq]; exact of_decide_eq_false hc1)]
    refine cw_region ?_
    refine ow_y (y_move rfl) rfl rfl rfl ?_
    refine ow_y (y_bin rfl rfl (fun w => run_guard_int _ _ _ _ _ _ w) (fun w => run_mask _ 16 65535 65536 (by omega) (by omega) (by omega) (by rfl) (by rfl) w)) rfl rfl rfl ?_
    refine ow_y (y_conv_id rfl cv_36_3 (by omega) (by omega)) rfl rfl rfl ?_
    refine ow_y (y_fieldAddr 4 rfl ft_33_4 rfl) rfl rfl rfl ?_
    refine ow_store rfl rfl rfl sz_3 rfl (by repeat (first | exact Upd.here | apply Upd.there)) (by repeat (first | exact SetL.here | apply SetL.there)) ?_
    refine ow_nil ?_
    repeat with_reducible first | refine thenQ_ret ?_ | refine thenQ_normal ?_ | refine thenQ_exit ?_ | refine blockQ_ret ?_ | refine blockQ_normal ?_ | refine blockQ_exit_same ?_ | refine blockQ_exit_ne rfl ?_
    refine cw_seq ?_
    refine cw_regseq ?_
    refine ow_y (y_loadAgg rfl at_33 sz_33 (by first | (apply In.own; (repeat (first | exact List.Mem.head _ | apply List.Mem.tail)); done) | (apply In.ro; (repeat (first | exact List.Mem.head _ | apply List.Mem.tail)); done)) (by repeat (first | exact Sub.nil | apply Sub.take | apply Sub.skip))) rfl rfl rfl ?_
    refine ow_call rfl rfl (by rfl) ct_25 (Right_c R _ hR ⟨_, _, _, _, _⟩) ?_
    rintro _ _ ⟨rfl, rfl⟩
    refine ow_y (y_not rfl) rfl rfl rfl ?_
    refine ow_nil ?_
    refine cw_if rfl (fun hc3 => ?_) (fun hc3 => ?_)
    · skip
      refine cw_regseq ?_
      refine ow_y (y_build (zs := [.int .i64 0, .int .i64 0, .int .i64 0, .int .i64 0, .int .i64 0]) (fun i => [(0, 1), (1, 1), (2, 1), (3, 1), (4, 1)][i]?) (by repeat (first | exact EvPs.nil | apply EvPs.cons rfl)) (by repeat (first | exact FillL.nil | (apply FillL.cons rfl rfl rfl; · repeat (first | exact SetLs.nil | (apply SetLs.cons; · repeat (first | exact SetL.here | apply SetL.there)))))) (fun _ => by kernel_rfl)) rfl rfl rfl ?_
      refine ow_storeAgg rfl rfl rfl sz_33 rfl rfl (by repeat (first | exact Upd.here | apply Upd.there)) (by repeat (first | exact SetLs.nil | (apply SetLs.cons; · repeat (first | exact SetL.here | apply SetL.there)))) ?_
      refine ow_y (y_assign rfl) rfl rfl rfl ?_
      refine ow_nil ?_
      refine cw_ret ?_
      repeat with_reducible first | refine thenQ_ret ?_ | refine thenQ_normal ?_ | refine thenQ_exit ?_ | refine blockQ_ret ?_ | refine blockQ_normal ?_ | refine blockQ_exit_same ?_ | refine blockQ_exit_ne rfl ?_
      refine body_ret (.two (.agg rfl at_33 sz_33 (by first | (apply In.own; (repeat (first | exact List.Mem.head _ | apply List.Mem.tail)); done) | (apply In.ro; (repeat (first | exact List.Mem.head _ | apply List.Mem.tail)); done)) (by repeat (first | exact Sub.nil | apply Sub.take | apply Sub.skip))) (.tmp rfl)) ?_
      have hr := hc3
      rw [← hd] at hr
      simp only [Am.decode]
      rw [if_neg (by simpa using hr)]; rfl
    · skip
      refine cw_skip ?_
      repeat with_reducible first | refine thenQ_ret ?_ | refine thenQ_normal ?_ | refine thenQ_exit ?_ | refine blockQ_ret ?_ | refine blockQ_normal ?_ | refine blockQ_exit_same ?_ | refine blockQ_exit_ne rfl ?_
      refine cw_regseq ?_
      refine ow_y (y_loadAgg rfl at_33 sz_33 (by first | (apply In.own; (repeat (first | exact List.Mem.head _ | apply List.Mem.tail)); done) | (apply In.ro; (repeat (first | exact List.Mem.head _ | apply List.Mem.tail)); done)) (by repeat (first | exact Sub.nil | apply Sub.take | apply Sub.skip))) rfl rfl rfl ?_
      refine ow_storeAgg rfl rfl rfl sz_33 rfl rfl (by repeat (first | exact Upd.here | apply Upd.there)) (by repeat (first | exact SetLs.nil | (apply SetLs.cons; · repeat (first | exact SetL.here | apply SetL.there)))) ?_
      refine ow_y (y_assign rfl) rfl rfl rfl ?_
      refine ow_nil ?_
      refine cw_ret ?_
      repeat with_reducible first | refine thenQ_ret ?_ | refine thenQ_normal ?_ | refine thenQ_exit ?_ | refine blockQ_ret ?_ | refine blockQ_normal ?_ | refine blockQ_exit_same ?_ | refine blockQ_exit_ne rfl ?_
      refine body_ret (.two (.agg rfl at_33 sz_33 (by first | (apply In.own; (repeat (first | exact List.Mem.head _ | apply List.Mem.tail)); done) | (apply In.ro; (repeat (first | exact List.Mem.head _ | apply List.Mem.tail)); done)) (by repeat (first | exact Sub.nil | apply Sub.take | apply Sub.skip))) (.tmp rfl)) ?_
      have hr := hc3
      rw [← hd] at hr
      simp only [Am.decode]
      rw [if_pos (by simpa using hr), hd]; rfl

theorem Decode_c (R L : Heap) (hR : Glob R) (w : Int) (h0 : 0 ≤ w) (h1 : w < 4294967296) : FnW Tryz.prog 14 [.int .u32 w] R L fun v L' => v = .tuple #[.agg (encI (Am.decode w).1).toArray, .int .i64 (Am.decode w).2] ∧ L' = L := FnW.gen (Decode_w R w hR h0 h1) L

end Go.Proofs.YtgppllppddaodaaGreatDoor

/-
  The walks of the reader: value, operands.
-/
namespace Go.Proofs.YtgppllppddaodaaGreatDoor
open Sl Am

theorem at_62 : aggT Tryz.prog 62 = true := by kernel_rfl
theorem cc_109 : concreteT Tryz.prog 109 = true := by kernel_rfl
theorem cc_114 : concreteT Tryz.prog 114 = true := by kernel_rfl
theorem ct_54 : callT Tryz.prog 54 = true := by kernel_rfl
theorem cv_114_3 : convT Tryz.prog 114 3 .i64 = true := by kernel_rfl
theorem sz_62 : sizeT Tryz.prog 62 = some 2 := by kernel_rfl
theorem zt_109 : zeroT Tryz.prog 109 = some (.string ⟨#[]⟩) := by kernel_rfl
theorem zt_114 : zeroT Tryz.prog 114 = some (.int .u64 0) := by kernel_rfl
theorem zt_62 : zeroT Tryz.prog 62 = some (.agg #[.int .i64 0, .string ⟨#[]⟩]) := by kernel_rfl
/-- A reader's method, beside what else is owned. -/
def RdF (R : Heap) (rb : Nat) (V : Value) (r' : Rd) (F : Heap) : Value → Heap → Prop := fun v L' => ∃ sl', v = V ∧ L' = rdC rb sl' r' :: F ∧ TokS R sl' r'.ts
def RdD (R : Heap) (rb : Nat) (V : Value) (r' : Rd) : Value → Heap → Prop := fun v L' => ∃ sl' F, v = V ∧ Split L' [rdC rb sl' r'] F ∧ TokS R sl' r'.ts
theorem rd_frame {P : Program} {f : FuncId} {args : List Value} {R L F : Heap} {rb : Nat} {sl V : Value} {r r' : Rd} (h : FnW P f args R [rdC rb sl r] (RdPost R rb V r')) (hs : Split L [rdC rb sl r] F) : FnW P f args R L (RdF R rb V r' F) :=
  (h.frame hs (fun _ hp => .inl hp)).mono fun _ _ ⟨_, ⟨sl', hv, hA, ht⟩, hL⟩ => ⟨sl', hv, by rw [hL, hA]; rfl, ht⟩
theorem rd_drop {P : Program} {f : FuncId} {args : List Value} {R L : Heap} {rb : Nat} {V : Value} {r' : Rd} (h : FnW P f args R L (RdD R rb V r')) : FnW P f args R L (RdPost R rb V r') :=
  h.drop fun _ _ ⟨sl', F, hv, hs, ht⟩ => ⟨_, F, hs, sl', hv, rfl, ht⟩

set_option maxRecDepth 100000 in
set_option maxHeartbeats 400000 in
theorem value_nil : ∀ (R : Heap) (rb : Nat) (sl : Value) (syn rng : Bool) , Glob R → TokS R sl ([]) → FnW Tryz.prog 74 [.pointer (some ⟨rb, 0, none⟩)] R [rdC rb sl ⟨[], syn, rng⟩] (RdD R rb (.agg #[.int .i64 (Rd.value ⟨[], syn, rng⟩).1.1, str (Rd.value ⟨[], syn, rng⟩).1.2]) (Rd.value ⟨[], syn, rng⟩).2) := by
  intro R rb sl syn rng  hR hs
  refine fn_of_body Tryz.func74 rfl Tryz.ntmps74 Tryz.results74 (by rfl) ?_
  refine cw_regseq ?_
  refine ow_alloc rfl rfl zt_62 rfl (fun b2 => ?_)
  refine ow_nil ?_
  refine cw_seq ?_
  refine cw_regseq ?_
  refine ow_y (y_move rfl) rfl rfl rfl ?_
  refine ow_call rfl rfl (by rfl) ct_55 (rd_frame (next_nil R rb sl ⟨[], syn, rng⟩ rfl hs) (by repeat (first | exact Split.nil | (apply Split.cons; · repeat (first | exact Pick.here | apply Pick.there))))) ?_
  rintro _ _ ⟨sl1, rfl, rfl, hs1⟩
  refine ow_nil ?_
  refine cw_block ?_
  refine cw_regseq ?_
  refine ow_y (y_assert_nil rfl cc_114 zt_114) rfl rfl rfl ?_
  refine ow_y (y_extract rfl rfl) rfl rfl rfl ?_
  refine ow_y (y_extract rfl rfl) rfl rfl rfl ?_
  refine ow_nil ?_
  refine cw_if_f rfl ?_
  refine cw_regseq ?_
  refine ow_y (y_assert_nil rfl cc_109 zt_109) rfl rfl rfl ?_
  refine ow_y (y_extract rfl rfl) rfl rfl rfl ?_
  refine ow_y (y_extract rfl rfl) rfl rfl rfl ?_
  refine ow_nil ?_
  refine cw_if_f rfl ?_
  refine cw_skip ?_
  repeat with_reducible first | refine thenQ_ret ?_ | refine thenQ_normal ?_ | refine thenQ_exit ?_ | refine blockQ_ret ?_ | refine blockQ_normal ?_ | refine blockQ_exit_same ?_ | refine blockQ_exit_ne rfl ?_
  refine cw_regseq ?_
  refine ow_y (y_move rfl) rfl rfl rfl ?_
  refine ow_y (y_nilCheck rfl) rfl rfl rfl ?_
  refine ow_y (y_fieldAddr 1 rfl ft_84_1 rfl) rfl rfl rfl ?_
  refine ow_store rfl rfl rfl sz_4 rfl (by repeat (first | exact Upd.here | apply Upd.there)) (by repeat (first | exact SetL.here | apply SetL.there)) ?_
  refine ow_nil ?_
  refine cw_regseq ?_
  refine ow_y (y_build (zs := [.int .i64 0, .string ⟨#[]⟩]) (fun i => [(0, 1), (1, 1)][i]?) (by repeat (first | exact EvPs.nil | apply EvPs.cons rfl)) (by repeat (first | exact FillL.nil | (apply FillL.cons rfl rfl rfl; · repeat (first | exact SetLs.nil | (apply SetLs.cons; · repeat (first | exact SetL.here | apply SetL.there)))))) (fun _ => by kernel_rfl)) rfl rfl rfl ?_
  refine ow_storeAgg rfl rfl rfl sz_62 rfl rfl (by repeat (first | exact Upd.here | apply Upd.there)) (by repeat (first | exact SetLs.nil | (apply SetLs.cons; · repeat (first | exact SetL.here | apply SetL.there)))) ?_
  refine ow_nil ?_
  refine cw_ret ?_
  repeat with_reducible first | refine thenQ_ret ?_ | refine thenQ_normal ?_ | refine thenQ_exit ?_ | refine blockQ_ret ?_ | refine blockQ_normal ?_ | refine blockQ_exit_same ?_ | refine blockQ_exit_ne rfl ?_
  refine body_ret (.one (.agg rfl at_62 sz_62 (by first | (apply In.own; (repeat (first | exact List.Mem.head _ | apply List.Mem.tail)); done) | (apply In.ro; (repeat (first | exact List.Mem.head _ | apply List.Mem.tail)); done)) (by repeat (first | exact Sub.nil | apply Sub.take | apply Sub.skip)))) ?_
  exact ⟨sl1, _, by simp [Rd.value], (by repeat (first | exact Split.nil | (apply Split.cons; · repeat (first | exact Pick.here | apply Pick.there)))), hs1⟩

set_option maxRecDepth 100000 in
set_option maxHeartbeats 400000 in
theorem value_sign : ∀ (R : Heap) (rb : Nat) (sl : Value) (syn rng : Bool) (d : Int) (ts : List Tok) , Glob R → TokS R sl (.sign d :: ts) → FnW Tryz.prog 74 [.pointer (some ⟨rb, 0, none⟩)] R [rdC rb sl ⟨.sign d :: ts, syn, rng⟩] (RdD R rb (.agg #[.int .i64 (Rd.value ⟨.sign d :: ts, syn, rng⟩).1.1, str (Rd.value ⟨.sign d :: ts, syn, rng⟩).1.2]) (Rd.value ⟨.sign d :: ts, syn, rng⟩).2) := by
  intro R rb sl syn rng d ts hR hs
  refine fn_of_body Tryz.func74 rfl Tryz.ntmps74 Tryz.results74 (by rfl) ?_
  refine cw_regseq ?_
  refine ow_alloc rfl rfl zt_62 rfl (fun b2 => ?_)
  refine ow_nil ?_
  refine cw_seq ?_
  refine cw_regseq ?_
  refine ow_y (y_move rfl) rfl rfl rfl ?_
  refine ow_call rfl rfl (by rfl) ct_55 (rd_frame (next_cons R rb sl (.sign d) ts syn rng hs) (by repeat (first | exact Split.nil | (apply Split.cons; · repeat (first | exact Pick.here | apply Pick.there))))) ?_
  rintro _ _ ⟨sl1, rfl, rfl, hs1⟩
  refine ow_nil ?_
  refine cw_block ?_
  refine cw_regseq ?_
  refine ow_y (y_assert_no rfl rfl cc_114 zt_114) rfl rfl rfl ?_
  refine ow_y (y_extract rfl rfl) rfl rfl rfl ?_
  refine ow_y (y_extract rfl rfl) rfl rfl rfl ?_
  refine ow_nil ?_
  refine cw_if_f rfl ?_
  refine cw_regseq ?_
  refine ow_y (y_assert_no rfl rfl cc_109 zt_109) rfl rfl rfl ?_
  refine ow_y (y_extract rfl rfl) rfl rfl rfl ?_
  refine ow_y (y_extract rfl rfl) rfl rfl rfl ?_
  refine ow_nil ?_
  refine cw_if_f rfl ?_
  refine cw_skip ?_
  repeat with_reducible first | refine thenQ_ret ?_ | refine thenQ_normal ?_ | refine thenQ_exit ?_ | refine blockQ_ret ?_ | refine blockQ_normal ?_ | refine blockQ_exit_same ?_ | refine blockQ_exit_ne rfl ?_
  refine cw_regseq ?_
  refine ow_y (y_move rfl) rfl rfl rfl ?_
  refine ow_y (y_nilCheck rfl) rfl rfl rfl ?_
  refine ow_y (y_fieldAddr 1 rfl ft_84_1 rfl) rfl rfl rfl ?_
  refine ow_store rfl rfl rfl sz_4 rfl (by repeat (first | exact Upd.here | apply Upd.there)) (by repeat (first | exact SetL.here | apply SetL.there)) ?_
  refine ow_nil ?_
  refine cw_regseq ?_
  refine ow_y (y_build (zs := [.int .i64 0, .string ⟨#[]⟩]) (fun i => [(0, 1), (1, 1)][i]?) (by repeat (first | exact EvPs.nil | apply EvPs.cons rfl)) (by repeat (first | exact FillL.nil | (apply FillL.cons rfl rfl rfl; · repeat (first | exact SetLs.nil | (apply SetLs.cons; · repeat (first | exact SetL.here | apply SetL.there)))))) (fun _ => by kernel_rfl)) rfl rfl rfl ?_
  refine ow_storeAgg rfl rfl rfl sz_62 rfl rfl (by repeat (first | exact Upd.here | apply Upd.there)) (by repeat (first | exact SetLs.nil | (apply SetLs.cons; · repeat (first | exact SetL.here | apply SetL.there)))) ?_
  refine ow_nil ?_
  refine cw_ret ?_
  repeat with_reducible first | refine thenQ_ret ?_ | refine thenQ_normal ?_ | refine thenQ_exit ?_ | refine blockQ_ret ?_ | refine blockQ_normal ?_ | refine blockQ_exit_same ?_ | refine blockQ_exit_ne rfl ?_
  refine body_ret (.one (.agg rfl at_62 sz_62 (by first | (apply In.own; (repeat (first | exact List.Mem.head _ | apply List.Mem.tail)); done) | (apply In.ro; (repeat (first | exact List.Mem.head _ | apply List.Mem.tail)); done)) (by repeat (first | exact Sub.nil | apply Sub.take | apply Sub.skip)))) ?_
  exact ⟨sl1, _, by simp [Rd.value], (by repeat (first | exact Split.nil | (apply Split.cons; · repeat (first | exact Pick.here | apply Pick.there)))), hs1⟩

set_option maxRecDepth 100000 in
set_option maxHeartbeats 400000 in
theorem value_num : ∀ (R : Heap) (rb : Nat) (sl : Value) (syn rng : Bool) (n : Nat) (ts : List Tok) , Glob R → n < 18446744073709551616 → TokS R sl (.num n :: ts) → FnW Tryz.prog 74 [.pointer (some ⟨rb, 0, none⟩)] R [rdC rb sl ⟨.num n :: ts, syn, rng⟩] (RdD R rb (.agg #[.int .i64 (Rd.value ⟨.num n :: ts, syn, rng⟩).1.1, str (Rd.value ⟨.num n :: ts, syn, rng⟩).1.2]) (Rd.value ⟨.num n :: ts, syn, rng⟩).2) := by
  intro R rb sl syn rng n ts hR hn hs
  refine fn_of_body Tryz.func74 rfl Tryz.ntmps74 Tryz.results74 (by rfl) ?_
  refine cw_regseq ?_
  refine ow_alloc rfl rfl zt_62 rfl (fun b2 => ?_)
  refine ow_nil ?_
  refine cw_seq ?_
  refine cw_regseq ?_
  refine ow_y (y_move rfl) rfl rfl rfl ?_
  refine ow_call rfl rfl (by rfl) ct_55 (rd_frame (next_cons R rb sl (.num n) ts syn rng hs) (by repeat (first | exact Split.nil | (apply Split.cons; · repeat (first | exact Pick.here | apply Pick.there))))) ?_
  rintro _ _ ⟨sl1, rfl, rfl, hs1⟩
  refine ow_nil ?_
  refine cw_block ?_
  refine cw_regseq ?_
  refine ow_y (y_assert_yes rfl cc_114) rfl rfl rfl ?_
  refine ow_y (y_extract rfl rfl) rfl rfl rfl ?_
  refine ow_y (y_extract rfl rfl) rfl rfl rfl ?_
  refine ow_nil ?_
  refine cw_if_t rfl ?_
  refine cw_regseq ?_
  refine ow_y (y_assign rfl) rfl rfl rfl ?_
  refine ow_nil ?_
  refine cw_seq ?_
  refine cw_regseq ?_
  refine ow_y (y_move rfl) rfl rfl rfl ?_
  refine ow_cmp rfl rfl rfl rfl rfl (fun h11 => ?_) (fun h11 => ?_)
  · simp only [cmpP] at h11
    refine ow_nil ?_
    refine cw_if_t rfl ?_
    refine cw_regseq ?_
    refine ow_y (y_move rfl) rfl rfl rfl ?_
    refine ow_y (y_nilCheck rfl) rfl rfl rfl ?_
    refine ow_y (y_fieldAddr 2 rfl ft_84_2 rfl) rfl rfl rfl ?_
    refine ow_store rfl rfl rfl sz_4 rfl (by repeat (first | exact Upd.here | apply Upd.there)) (by repeat (first | exact SetL.here | apply SetL.there)) ?_
    refine ow_nil ?_
    refine cw_regseq ?_
    refine ow_y (y_build (zs := [.int .i64 0, .string ⟨#[]⟩]) (fun i => [(0, 1), (1, 1)][i]?) (by repeat (first | exact EvPs.nil | apply EvPs.cons rfl)) (by repeat (first | exact FillL.nil | (apply FillL.cons rfl rfl rfl; · repeat (first | exact SetLs.nil | (apply SetLs.cons; · repeat (first | exact SetL.here | apply SetL.there)))))) (fun _ => by kernel_rfl)) rfl rfl rfl ?_
    refine ow_storeAgg rfl rfl rfl sz_62 rfl rfl (by repeat (first | exact Upd.here | apply Upd.there)) (by repeat (first | exact SetLs.nil | (apply SetLs.cons; · repeat (first | exact SetL.here | apply SetL.there)))) ?_
    refine ow_nil ?_
    refine cw_ret ?_
    repeat with_reducible first | refine thenQ_ret ?_ | refine thenQ_normal ?_ | refine thenQ_exit ?_ | refine blockQ_ret ?_ | refine blockQ_normal ?_ | refine blockQ_exit_same ?_ | refine blockQ_exit_ne rfl ?_
    refine body_ret (.one (.agg rfl at_62 sz_62 (by first | (apply In.own; (repeat (first | exact List.Mem.head _ | apply List.Mem.tail)); done) | (apply In.ro; (repeat (first | exact List.Mem.head _ | apply List.Mem.tail)); done)) (by repeat (first | exact Sub.nil | apply Sub.take | apply Sub.skip)))) ?_
    have er : Rd.value ⟨.num n :: ts, syn, rng⟩ = ((0, []), ⟨ts, syn, true⟩) := by simp only [Rd.value]; rw [if_pos (by omega)]
    rw [er]
    exact ⟨sl1, _, rfl, (by repeat (first | exact Split.nil | (apply Split.cons; · repeat (first | exact Pick.here | apply Pick.there)))), hs1⟩
  · simp only [cmpP] at h11
    refine ow_nil ?_
    refine cw_if_f rfl ?_
    refine cw_skip ?_
    repeat with_reducible first | refine thenQ_ret ?_ | refine thenQ_normal ?_ | refine thenQ_exit ?_ | refine blockQ_ret ?_ | refine blockQ_normal ?_ | refine blockQ_exit_same ?_ | refine blockQ_exit_ne rfl ?_
    refine cw_regseq ?_
    refine ow_y (y_move rfl) rfl rfl rfl ?_
    refine ow_y (y_convInt rfl cv_114_3) rfl rfl rfl ?_
    refine ow_y (y_build (zs := [.int .i64 0, .string ⟨#[]⟩]) (fun i => [(0, 1), (1, 1)][i]?) (by repeat (first | exact EvPs.nil | apply EvPs.cons rfl)) (by repeat (first | exact FillL.nil | (apply FillL.cons rfl rfl rfl; · repeat (first | exact SetLs.nil | (apply SetLs.cons; · repeat (first | exact SetL.here | apply SetL.there)))))) (fun _ => by kernel_rfl)) rfl rfl rfl ?_
    refine ow_storeAgg rfl rfl rfl sz_62 rfl rfl (by repeat (first | exact Upd.here | apply Upd.there)) (by repeat (first | exact SetLs.nil | (apply SetLs.cons; · repeat (first | exact SetL.here | apply SetL.there)))) ?_
    refine ow_nil ?_
    refine cw_ret ?_
    repeat with_reducible first | refine thenQ_ret ?_ | refine thenQ_normal ?_ | refine thenQ_exit ?_ | refine blockQ_ret ?_ | refine blockQ_normal ?_ | refine blockQ_exit_same ?_ | refine blockQ_exit_ne rfl ?_
    refine body_ret (.one (.agg rfl at_62 sz_62 (by first | (apply In.own; (repeat (first | exact List.Mem.head _ | apply List.Mem.tail)); done) | (apply In.ro; (repeat (first | exact List.Mem.head _ | apply List.Mem.tail)); done)) (by repeat (first | exact Sub.nil | apply Sub.take | apply Sub.skip)))) ?_
    have er : Rd.value ⟨.num n :: ts, syn, rng⟩ = ((↑n, []), ⟨ts, syn, rng⟩) := by simp only [Rd.value]; rw [if_neg (by omega)]
    rw [er]
    rw [wrap64_id (by omega) (by omega)]
    exact ⟨sl1, _, rfl, (by repeat (first | exact Split.nil | (apply Split.cons; · repeat (first | exact Pick.here | apply Pick.there)))), hs1⟩

set_option maxRecDepth 100000 in
set_option maxHeartbeats 400000 in
theorem value_reg : ∀ (R : Heap) (rb : Nat) (sl : Value) (syn rng : Bool) (n : Nat) (ts : List Tok) , Glob R → TokS R sl (.reg n :: ts) → FnW Tryz.prog 74 [.pointer (some ⟨rb, 0, none⟩)] R [rdC rb sl ⟨.reg n :: ts, syn, rng⟩] (RdD R rb (.agg #[.int .i64 (Rd.value ⟨.reg n :: ts, syn, rng⟩).1.1, str (Rd.value ⟨.reg n :: ts, syn, rng⟩).1.2]) (Rd.value ⟨.reg n :: ts, syn, rng⟩).2) := by
  intro R rb sl syn rng n ts hR hs
  refine fn_of_body Tryz.func74 rfl Tryz.ntmps74 Tryz.results74 (by rfl) ?_
  refine cw_regseq ?_
  refine ow_alloc rfl rfl zt_62 rfl (fun b2 => ?_)
  refine ow_nil ?_
  refine cw_seq ?_
  refine cw_regseq ?_
  refine ow_y (y_move rfl) rfl rfl rfl ?_
  refine ow_call rfl rfl (by rfl) ct_55 (rd_frame (next_cons R rb sl (.reg n) ts syn rng hs) (by repeat (first | exact Split.nil | (apply Split.cons; · repeat (first | exact Pick.here | apply Pick.there))))) ?_
  rintro _ _ ⟨sl1, rfl, rfl, hs1⟩
  refine ow_nil ?_
  refine cw_block ?_
  refine cw_regseq ?_
  refine ow_y (y_assert_no rfl rfl cc_114 zt_114) rfl rfl rfl ?_
  refine ow_y (y_extract rfl rfl) rfl rfl rfl ?_
  refine ow_y (y_extract rfl rfl) rfl rfl rfl ?_
  refine ow_nil ?_
  refine cw_if_f rfl ?_
  refine cw_regseq ?_
  refine ow_y (y_assert_no rfl rfl cc_109 zt_109) rfl rfl rfl ?_
  refine ow_y (y_extract rfl rfl) rfl rfl rfl ?_
  refine ow_y (y_extract rfl rfl) rfl rfl rfl ?_
  refine ow_nil ?_
  refine cw_if_f rfl ?_
  refine cw_skip ?_
  repeat with_reducible first | refine thenQ_ret ?_ | refine thenQ_normal ?_ | refine thenQ_exit ?_ | refine blockQ_ret ?_ | refine blockQ_normal ?_ | refine blockQ_exit_same ?_ | refine blockQ_exit_ne rfl ?_
  refine cw_regseq ?_
  refine ow_y (y_move rfl) rfl rfl rfl ?_
  refine ow_y (y_nilCheck rfl) rfl rfl rfl ?_
  refine ow_y (y_fieldAddr 1 rfl ft_84_1 rfl) rfl rfl rfl ?_
  refine ow_store rfl rfl rfl sz_4 rfl (by repeat (first | exact Upd.here | apply Upd.there)) (by repeat (first | exact SetL.here | apply SetL.there)) ?_
  refine ow_nil ?_
  refine cw_regseq ?_
  refine ow_y (y_build (zs := [.int .i64 0, .string ⟨#[]⟩]) (fun i => [(0, 1), (1, 1)][i]?) (by repeat (first | exact EvPs.nil | apply EvPs.cons rfl)) (by repeat (first | exact FillL.nil | (apply FillL.cons rfl rfl rfl; · repeat (first | exact SetLs.nil | (apply SetLs.cons; · repeat (first | exact SetL.here | apply SetL.there)))))) (fun _ => by kernel_rfl)) rfl rfl rfl ?_
  refine ow_storeAgg rfl rfl rfl sz_62 rfl rfl (by repeat (first | exact Upd.here | apply Upd.there)) (by repeat (first | exact SetLs.nil | (apply SetLs.cons; · repeat (first | exact SetL.here | apply SetL.there)))) ?_
  refine ow_nil ?_
  refine cw_ret ?_
  repeat with_reducible first | refine thenQ_ret ?_ | refine thenQ_normal ?_ | refine thenQ_exit ?_ | refine blockQ_ret ?_ | refine blockQ_normal ?_ | refine blockQ_exit_same ?_ | refine blockQ_exit_ne rfl ?_
  refine body_ret (.one (.agg rfl at_62 sz_62 (by first | (apply In.own; (repeat (first | exact List.Mem.head _ | apply List.Mem.tail)); done) | (apply In.ro; (repeat (first | exact List.Mem.head _ | apply List.Mem.tail)); done)) (by repeat (first | exact Sub.nil | apply Sub.take | apply Sub.skip)))) ?_
  exact ⟨sl1, _, by simp [Rd.value], (by repeat (first | exact Split.nil | (apply Split.cons; · repeat (first | exact Pick.here | apply Pick.there)))), hs1⟩

set_option maxRecDepth 100000 in
set_option maxHeartbeats 400000 in
theorem value_name : ∀ (R : Heap) (rb : Nat) (sl : Value) (syn rng : Bool) (l : List UInt8) (ts : List Tok) , Glob R → TokS R sl (.name l :: ts) → FnW Tryz.prog 74 [.pointer (some ⟨rb, 0, none⟩)] R [rdC rb sl ⟨.name l :: ts, syn, rng⟩] (RdD R rb (.agg #[.int .i64 (Rd.value ⟨.name l :: ts, syn, rng⟩).1.1, str (Rd.value ⟨.name l :: ts, syn, rng⟩).1.2]) (Rd.value ⟨.name l :: ts, syn, rng⟩).2) := by
  intro R rb sl syn rng l ts hR hs
  refine fn_of_body Tryz.func74 rfl Tryz.ntmps74 Tryz.results74 (by rfl) ?_
  refine cw_regseq ?_
  refine ow_alloc rfl rfl zt_62 rfl (fun b2 => ?_)
  refine ow_nil ?_
  refine cw_seq ?_
  refine cw_regseq ?_
  refine ow_y (y_move rfl) rfl rfl rfl ?_
  refine ow_call rfl rfl (by rfl) ct_55 (rd_frame (next_cons R rb sl (.name l) ts syn rng hs) (by repeat (first | exact Split.nil | (apply Split.cons; · repeat (first | exact Pick.here | apply Pick.there))))) ?_
  rintro _ _ ⟨sl1, rfl, rfl, hs1⟩
  refine ow_nil ?_
  refine cw_block ?_
  refine cw_regseq ?_
  refine ow_y (y_assert_no rfl rfl cc_114 zt_114) rfl rfl rfl ?_
  refine ow_y (y_extract rfl rfl) rfl rfl rfl ?_
  refine ow_y (y_extract rfl rfl) rfl rfl rfl ?_
  refine ow_nil ?_
  refine cw_if_f rfl ?_
  refine cw_regseq ?_
  refine ow_y (y_assert_yes rfl cc_109) rfl rfl rfl ?_
  refine ow_y (y_extract rfl rfl) rfl rfl rfl ?_
  refine ow_y (y_extract rfl rfl) rfl rfl rfl ?_
  refine ow_nil ?_
  refine cw_if_t rfl ?_
  refine cw_regseq ?_
  refine ow_y (y_assign rfl) rfl rfl rfl ?_
  refine ow_nil ?_
  refine cw_regseq ?_
  refine ow_y (y_move rfl) rfl rfl rfl ?_
  refine ow_y (y_move rfl) rfl rfl rfl ?_
  refine ow_y (y_nilCheck rfl) rfl rfl rfl ?_
  refine ow_y (y_fieldAddr 1 rfl ft_84_1 rfl) rfl rfl rfl ?_
  refine ow_y (y_load rfl pt_4 (by first | (apply In.own; (repeat (first | exact List.Mem.head _ | apply List.Mem.tail)); done) | (apply In.ro; (repeat (first | exact List.Mem.head _ | apply List.Mem.tail)); done)) rfl) rfl rfl rfl ?_
  refine ow_y (y_move rfl) rfl rfl rfl ?_
  refine ow_split (t := 27) rfl (fun hq1 => ?_) (fun hq1 => ?_)
  · refine ow_skip rfl rfl rfl ?_
    refine ow_skip rfl rfl rfl ?_
    refine ow_skip rfl rfl rfl ?_
    refine ow_y (y_pick_t rfl rfl) rfl rfl rfl ?_
    refine ow_y (y_move rfl) rfl rfl rfl ?_
    refine ow_skip rfl rfl rfl ?_
    refine ow_skip rfl rfl rfl ?_
    refine ow_y (y_pick_t rfl rfl) rfl rfl rfl ?_
    refine ow_y (y_nilCheck rfl) rfl rfl rfl ?_
    refine ow_y (y_fieldAddr 1 rfl ft_84_1 rfl) rfl rfl rfl ?_
    refine ow_store rfl rfl rfl sz_4 rfl (by repeat (first | exact Upd.here | apply Upd.there)) (by repeat (first | exact SetL.here | apply SetL.there)) ?_
    refine ow_nil ?_
    refine cw_regseq ?_
    refine ow_y (y_move rfl) rfl rfl rfl ?_
    refine ow_y (y_build (zs := [.int .i64 0, .string ⟨#[]⟩]) (fun i => [(0, 1), (1, 1)][i]?) (by repeat (first | exact EvPs.nil | apply EvPs.cons rfl)) (by repeat (first | exact FillL.nil | (apply FillL.cons rfl rfl rfl; · repeat (first | exact SetLs.nil | (apply SetLs.cons; · repeat (first | exact SetL.here | apply SetL.there)))))) (fun _ => by kernel_rfl)) rfl rfl rfl ?_
    refine ow_storeAgg rfl rfl rfl sz_62 rfl rfl (by repeat (first | exact Upd.here | apply Upd.there)) (by repeat (first | exact SetLs.nil | (apply SetLs.cons; · repeat (first | exact SetL.here | apply SetL.there)))) ?_
    refine ow_nil ?_
    refine cw_ret ?_
    repeat with_reducible first | refine thenQ_ret ?_ | refine thenQ_normal ?_ | refine thenQ_exit ?_ | refine blockQ_ret ?_ | refine blockQ_normal ?_ | refine blockQ_exit_same ?_ | refine blockQ_exit_ne rfl ?_
    refine body_ret (.one (.agg rfl at_62 sz_62 (by first | (apply In.own; (repeat (first | exact List.Mem.head _ | apply List.Mem.tail)); done) | (apply In.ro; (repeat (first | exact List.Mem.head _ | apply List.Mem.tail)); done)) (by repeat (first | exact Sub.nil | apply Sub.take | apply Sub.skip)))) ?_
    have er : Rd.value ⟨.name l :: ts, syn, rng⟩ = ((0, l), ⟨ts, true, rng⟩) := by simp_all [Rd.value, isMn, wordL]
    rw [er]
    exact ⟨sl1, _, rfl, (by repeat (first | exact Split.nil | (apply Split.cons; · repeat (first | exact Pick.here | apply Pick.there)))), hs1⟩
  · refine ow_y (y_move rfl) rfl rfl rfl ?_
    refine ow_call rfl rfl (by rfl) ct_54 (operation_c R _ hR l) ?_
    rintro _ _ ⟨rfl, rfl⟩
    refine ow_cmp rfl rfl rfl rfl rfl (fun h30 => ?_) (fun h30 => ?_)
    · simp only [cmpP] at h30
      refine ow_y (y_pick_f rfl rfl) rfl rfl rfl ?_
      refine ow_y (y_move rfl) rfl rfl rfl ?_
      refine ow_skip rfl rfl rfl ?_
      refine ow_skip rfl rfl rfl ?_
      refine ow_y (y_pick_t rfl rfl) rfl rfl rfl ?_
      refine ow_y (y_nilCheck rfl) rfl rfl rfl ?_
      refine ow_y (y_fieldAddr 1 rfl ft_84_1 rfl) rfl rfl rfl ?_
      refine ow_store rfl rfl rfl sz_4 rfl (by repeat (first | exact Upd.here | apply Upd.there)) (by repeat (first | exact SetL.here | apply SetL.there)) ?_
      refine ow_nil ?_
      refine cw_regseq ?_
      refine ow_y (y_move rfl) rfl rfl rfl ?_
      refine ow_y (y_build (zs := [.int .i64 0, .string ⟨#[]⟩]) (fun i => [(0, 1), (1, 1)][i]?) (by repeat (first | exact EvPs.nil | apply EvPs.cons rfl)) (by repeat (first | exact FillL.nil | (apply FillL.cons rfl rfl rfl; · repeat (first | exact SetLs.nil | (apply SetLs.cons; · repeat (first | exact SetL.here | apply SetL.there)))))) (fun _ => by kernel_rfl)) rfl rfl rfl ?_
      refine ow_storeAgg rfl rfl rfl sz_62 rfl rfl (by repeat (first | exact Upd.here | apply Upd.there)) (by repeat (first | exact SetLs.nil | (apply SetLs.cons; · repeat (first | exact SetL.here | apply SetL.there)))) ?_
      refine ow_nil ?_
      refine cw_ret ?_
      repeat with_reducible first | refine thenQ_ret ?_ | refine thenQ_normal ?_ | refine thenQ_exit ?_ | refine blockQ_ret ?_ | refine blockQ_normal ?_ | refine blockQ_exit_same ?_ | refine blockQ_exit_ne rfl ?_
      refine body_ret (.one (.agg rfl at_62 sz_62 (by first | (apply In.own; (repeat (first | exact List.Mem.head _ | apply List.Mem.tail)); done) | (apply In.ro; (repeat (first | exact List.Mem.head _ | apply List.Mem.tail)); done)) (by repeat (first | exact Sub.nil | apply Sub.take | apply Sub.skip)))) ?_
      have er : Rd.value ⟨.name l :: ts, syn, rng⟩ = ((0, l), ⟨ts, true, rng⟩) := by simp_all [Rd.value, isMn, wordL]
      rw [er]
      exact ⟨sl1, _, rfl, (by repeat (first | exact Split.nil | (apply Split.cons; · repeat (first | exact Pick.here | apply Pick.there)))), hs1⟩
    · simp only [cmpP] at h30
      refine ow_y (y_pick_f rfl rfl) rfl rfl rfl ?_
      refine ow_y (y_move rfl) rfl rfl rfl ?_
      refine ow_y (y_move rfl) rfl rfl rfl ?_
      refine ow_streq rfl rfl rfl rfl (fun h34 => ?_) (fun h34 => ?_)
      · refine ow_y (y_pick_f rfl rfl) rfl rfl rfl ?_
        refine ow_y (y_nilCheck rfl) rfl rfl rfl ?_
        refine ow_y (y_fieldAddr 1 rfl ft_84_1 rfl) rfl rfl rfl ?_
        refine ow_store rfl rfl rfl sz_4 rfl (by repeat (first | exact Upd.here | apply Upd.there)) (by repeat (first | exact SetL.here | apply SetL.there)) ?_
        refine ow_nil ?_
        refine cw_regseq ?_
        refine ow_y (y_move rfl) rfl rfl rfl ?_
        refine ow_y (y_build (zs := [.int .i64 0, .string ⟨#[]⟩]) (fun i => [(0, 1), (1, 1)][i]?) (by repeat (first | exact EvPs.nil | apply EvPs.cons rfl)) (by repeat (first | exact FillL.nil | (apply FillL.cons rfl rfl rfl; · repeat (first | exact SetLs.nil | (apply SetLs.cons; · repeat (first | exact SetL.here | apply SetL.there)))))) (fun _ => by kernel_rfl)) rfl rfl rfl ?_
        refine ow_storeAgg rfl rfl rfl sz_62 rfl rfl (by repeat (first | exact Upd.here | apply Upd.there)) (by repeat (first | exact SetLs.nil | (apply SetLs.cons; · repeat (first | exact SetL.here | apply SetL.there)))) ?_
        refine ow_nil ?_
        refine cw_ret ?_
        repeat with_reducible first | refine thenQ_ret ?_ | refine thenQ_normal ?_ | refine thenQ_exit ?_ | refine blockQ_ret ?_ | refine blockQ_normal ?_ | refine blockQ_exit_same ?_ | refine blockQ_exit_ne rfl ?_
        refine body_ret (.one (.agg rfl at_62 sz_62 (by first | (apply In.own; (repeat (first | exact List.Mem.head _ | apply List.Mem.tail)); done) | (apply In.ro; (repeat (first | exact List.Mem.head _ | apply List.Mem.tail)); done)) (by repeat (first | exact Sub.nil | apply Sub.take | apply Sub.skip)))) ?_
        have er : Rd.value ⟨.name l :: ts, syn, rng⟩ = ((0, l), ⟨ts, true, rng⟩) := by simp_all [Rd.value, isMn, wordL]
        rw [er]
        exact ⟨sl1, _, rfl, (by repeat (first | exact Split.nil | (apply Split.cons; · repeat (first | exact Pick.here | apply Pick.there)))), hs1⟩
      · refine ow_y (y_pick_f rfl rfl) rfl rfl rfl ?_
        refine ow_y (y_nilCheck rfl) rfl rfl rfl ?_
        refine ow_y (y_fieldAddr 1 rfl ft_84_1 rfl) rfl rfl rfl ?_
        refine ow_store rfl rfl rfl sz_4 rfl (by repeat (first | exact Upd.here | apply Upd.there)) (by repeat (first | exact SetL.here | apply SetL.there)) ?_
        refine ow_nil ?_
        refine cw_regseq ?_
        refine ow_y (y_move rfl) rfl rfl rfl ?_
        refine ow_y (y_build (zs := [.int .i64 0, .string ⟨#[]⟩]) (fun i => [(0, 1), (1, 1)][i]?) (by repeat (first | exact EvPs.nil | apply EvPs.cons rfl)) (by repeat (first | exact FillL.nil | (apply FillL.cons rfl rfl rfl; · repeat (first | exact SetLs.nil | (apply SetLs.cons; · repeat (first | exact SetL.here | apply SetL.there)))))) (fun _ => by kernel_rfl)) rfl rfl rfl ?_
        refine ow_storeAgg rfl rfl rfl sz_62 rfl rfl (by repeat (first | exact Upd.here | apply Upd.there)) (by repeat (first | exact SetLs.nil | (apply SetLs.cons; · repeat (first | exact SetL.here | apply SetL.there)))) ?_
        refine ow_nil ?_
        refine cw_ret ?_
        repeat with_reducible first | refine thenQ_ret ?_ | refine thenQ_normal ?_ | refine thenQ_exit ?_ | refine blockQ_ret ?_ | refine blockQ_normal ?_ | refine blockQ_exit_same ?_ | refine blockQ_exit_ne rfl ?_
        refine body_ret (.one (.agg rfl at_62 sz_62 (by first | (apply In.own; (repeat (first | exact List.Mem.head _ | apply List.Mem.tail)); done) | (apply In.ro; (repeat (first | exact List.Mem.head _ | apply List.Mem.tail)); done)) (by repeat (first | exact Sub.nil | apply Sub.take | apply Sub.skip)))) ?_
        have er : Rd.value ⟨.name l :: ts, syn, rng⟩ = ((0, l), ⟨ts, false, rng⟩) := by simp_all [Rd.value, isMn, wordL]
        rw [er]
        exact ⟨sl1, _, rfl, (by repeat (first | exact Split.nil | (apply Split.cons; · repeat (first | exact Pick.here | apply Pick.there)))), hs1⟩

/-- Numbers of 64 bits. -/
def Fit (ts : List Tok) : Prop := ∀ n, (.num n ∈ ts ∨ .reg n ∈ ts) → n < 18446744073709551616
theorem Fit.sub {ts ts' : List Tok} (h : Fit ts) (hs : ∀ t ∈ ts', t ∈ ts) : Fit ts' := fun n hn => h n (hn.imp (hs _) (hs _))
theorem sign_sub (r : Rd) (c : Int) : ∀ t ∈ (r.sign c).ts, t ∈ r.ts := by
  obtain ⟨ts, syn, rng⟩ := r
  cases ts with
  | nil => intro t h; exact h
  | cons u l => cases u <;> exact fun t h => .tail _ h
theorem next_sub (r : Rd) : ∀ t ∈ r.next.2.ts, t ∈ r.ts := by
  obtain ⟨ts, syn, rng⟩ := r
  cases ts with
  | nil => intro t h; exact h
  | cons u l => exact fun t h => .tail _ h
theorem reg_sub (r : Rd) : ∀ t ∈ r.reg.2.ts, t ∈ r.ts := by
  obtain ⟨ts, syn, rng⟩ := r
  cases ts with
  | nil => intro t h; exact h
  | cons u l =>
    cases u with
    | reg n => simp only [Rd.reg]; split <;> exact fun t h => .tail _ h
    | _ => exact fun t h => .tail _ h
theorem value_sub (r : Rd) : ∀ t ∈ r.value.2.ts, t ∈ r.ts := by
  obtain ⟨ts, syn, rng⟩ := r
  cases ts with
  | nil => intro t h; exact h
  | cons u l =>
    cases u with
    | num n => simp only [Rd.value]; split <;> exact fun t h => .tail _ h
    | _ => exact fun t h => .tail _ h
theorem Fit.sign {r : Rd} (h : Fit r.ts) (c : Int) : Fit (r.sign c).ts := h.sub (sign_sub r c)
theorem Fit.next {r : Rd} (h : Fit r.ts) : Fit r.next.2.ts := h.sub (next_sub r)
theorem Fit.reg {r : Rd} (h : Fit r.ts) : Fit r.reg.2.ts := h.sub (reg_sub r)
theorem Fit.value {r : Rd} (h : Fit r.ts) : Fit r.value.2.ts := h.sub (value_sub r)
theorem value_c (R : Heap) (rb : Nat) (sl : Value) (r : Rd) (hR : Glob R) (hs : TokS R sl r.ts) (hb : Fit r.ts) : FnW Tryz.prog 74 [.pointer (some ⟨rb, 0, none⟩)] R [rdC rb sl r] (RdPost R rb (.agg #[.int .i64 r.value.1.1, str r.value.1.2]) r.value.2) := by
  obtain ⟨ts, syn, rng⟩ := r
  cases ts with
  | nil => exact rd_drop (value_nil R rb sl syn rng hR hs)
  | cons t ts =>
    cases t with
    | sign d => exact rd_drop (value_sign R rb sl syn rng d ts hR hs)
    | num n => exact rd_drop (value_num R rb sl syn rng n ts hR (hb n (.inl (.head _))) hs)
    | reg n => exact rd_drop (value_reg R rb sl syn rng n ts hR hs)
    | name l => exact rd_drop (value_name R rb sl syn rng l ts hR hs)

end Go.Proofs.YtgppllppddaodaaGreatDoor

/-
  The walk of the reader: operands.
-/
namespace Go.Proofs.YtgppllppddaodaaGreatDoor
open Sl Am

theorem ct_72 : callT Tryz.prog 72 = true := by kernel_rfl
theorem ct_73 : callT Tryz.prog 73 = true := by kernel_rfl
theorem ct_74 : callT Tryz.prog 74 = true := by kernel_rfl
theorem drop_at {l : List UInt8} {p : Nat} {c : UInt8} (h : l[p]? = some c) : l.drop p = c :: l.drop (p + 1) := by
  have hlt : p < l.length := by
    rcases Nat.lt_or_ge p l.length with h' | h'
    · exact h'
    · simp [List.getElem?_eq_none h'] at h
  rw [List.getElem?_eq_getElem hlt] at h
  rw [List.drop_eq_getElem_cons hlt, Option.some.inj h]

set_option maxRecDepth 100000 in
set_option maxHeartbeats 400000 in
theorem operands_w : ∀ (R : Heap) (rb : Nat) (sl : Value) (r : Rd) (op : Int), Glob R → TokS R sl r.ts → Fit r.ts → FnW Tryz.prog 56 [.pointer (some ⟨rb, 0, none⟩), .int .i64 op] R [rdC rb sl r] (RdD R rb (.tuple #[.agg (encI (operands r op).i).toArray, .agg #[.int .i64 (operands r op).v.1, str (operands r op).v.2]]) (operands r op).r) := by
  intro R rb sl r op hR hs hfit0
  refine fn_of_body Tryz.func56 rfl Tryz.ntmps56 Tryz.results56 (by rfl) ?_
  refine cw_regseq ?_
  refine ow_alloc rfl rfl zt_33 rfl (fun b4 => ?_)
  refine ow_alloc rfl rfl zt_62 rfl (fun b5 => ?_)
  refine ow_nil ?_
  refine cw_regseq ?_
  refine ow_y (y_move rfl) rfl rfl rfl ?_
  refine ow_y (y_build (zs := [.int .i64 0, .int .i64 0, .int .i64 0, .int .i64 0, .int .i64 0]) (fun i => [(0, 1), (1, 1), (2, 1), (3, 1), (4, 1)][i]?) (by repeat (first | exact EvPs.nil | apply EvPs.cons rfl)) (by repeat (first | exact FillL.nil | (apply FillL.cons rfl rfl rfl; · repeat (first | exact SetLs.nil | (apply SetLs.cons; · repeat (first | exact SetL.here | apply SetL.there)))))) (fun _ => by kernel_rfl)) rfl rfl rfl ?_
  refine ow_y (y_build (zs := [.int .i64 0, .string ⟨#[]⟩]) (fun i => [(0, 1), (1, 1)][i]?) (by repeat (first | exact EvPs.nil | apply EvPs.cons rfl)) (by repeat (first | exact FillL.nil | (apply FillL.cons rfl rfl rfl; · repeat (first | exact SetLs.nil | (apply SetLs.cons; · repeat (first | exact SetL.here | apply SetL.there)))))) (fun _ => by kernel_rfl)) rfl rfl rfl ?_
  refine ow_alloc rfl rfl zt_33 rfl (fun b6 => ?_)
  refine ow_alloc rfl rfl zt_62 rfl (fun b7 => ?_)
  refine ow_storeAgg rfl rfl rfl sz_33 rfl rfl (by repeat (first | exact Upd.here | apply Upd.there)) (by repeat (first | exact SetLs.nil | (apply SetLs.cons; · repeat (first | exact SetL.here | apply SetL.there)))) ?_
  refine ow_storeAgg rfl rfl rfl sz_62 rfl rfl (by repeat (first | exact Upd.here | apply Upd.there)) (by repeat (first | exact SetLs.nil | (apply SetLs.cons; · repeat (first | exact SetL.here | apply SetL.there)))) ?_
  refine ow_nil ?_
  refine cw_regseq ?_
  refine ow_y (y_move rfl) rfl rfl rfl ?_
  refine ow_call rfl rfl (by rfl) ct_24 (Kind_c R _ hR op) ?_
  rintro _ _ ⟨rfl, rfl⟩
  refine ow_y (y_assign rfl) rfl rfl rfl ?_
  refine ow_nil ?_
  refine cw_seq_cut (α := Bool) (fun x => [(0, .pointer (some ⟨rb, 0, none⟩)), (1, .int .i64 op), (4, .pointer (some ⟨b4, 0, none⟩)), (5, .pointer (some ⟨b5, 0, none⟩)), (6, .pointer (some ⟨b6, 0, none⟩)), (7, .pointer (some ⟨b7, 0, none⟩)), (8, str (kind op)), (9, .bool x)]) (fun x => [rdC rb sl r, (b6, cb [.int .i64 op, .int .i64 0, .int .i64 0, .int .i64 0, .int .i64 0] 33), (b7, cb [.int .i64 0, str []] 62), (b4, cb [.int .i64 0, .int .i64 0, .int .i64 0, .int .i64 0, .int .i64 0] 33), (b5, cb [.int .i64 0, str []] 62)]) (fun x => x = isMem op) ?_ ?_
  · refine cw_region ?_
    refine ow_y (y_move rfl) rfl rfl rfl ?_
    refine ow_cmp rfl rfl rfl rfl rfl (fun h18 => ?_) (fun h18 => ?_)
    · simp only [cmpP] at h18
      refine ow_y (y_move rfl) rfl rfl rfl ?_
      refine ow_y (y_move rfl) rfl rfl rfl ?_
      refine ow_cmp rfl rfl rfl rfl rfl (fun h21 => ?_) (fun h21 => ?_)
      · simp only [cmpP] at h21
        refine ow_y (y_pick_t rfl rfl) rfl rfl rfl ?_
        refine ow_y (y_assign rfl) rfl rfl rfl ?_
        refine ow_nil ?_
        repeat with_reducible first | refine thenQ_ret ?_ | refine thenQ_normal ?_ | refine thenQ_exit ?_ | refine blockQ_ret ?_ | refine blockQ_normal ?_ | refine blockQ_exit_same ?_ | refine blockQ_exit_ne rfl ?_
        refine ⟨true, _, ?_, (by repeat (first | exact EnvLe.nil _ | refine EnvLe.cons rfl ?_)), (by repeat (first | exact Split.nil | (apply Split.cons; · repeat (first | exact Pick.here | apply Pick.there))))⟩
        simp only [isMem]; simp; omega
      · simp only [cmpP] at h21
        refine ow_y (y_pick_t rfl rfl) rfl rfl rfl ?_
        refine ow_y (y_assign rfl) rfl rfl rfl ?_
        refine ow_nil ?_
        repeat with_reducible first | refine thenQ_ret ?_ | refine thenQ_normal ?_ | refine thenQ_exit ?_ | refine blockQ_ret ?_ | refine blockQ_normal ?_ | refine blockQ_exit_same ?_ | refine blockQ_exit_ne rfl ?_
        refine ⟨false, _, ?_, (by repeat (first | exact EnvLe.nil _ | refine EnvLe.cons rfl ?_)), (by repeat (first | exact Split.nil | (apply Split.cons; · repeat (first | exact Pick.here | apply Pick.there))))⟩
        simp only [isMem]; simp; omega
    · simp only [cmpP] at h18
      refine ow_y (y_move rfl) rfl rfl rfl ?_
      refine ow_skip rfl rfl rfl ?_
      refine ow_skip rfl rfl rfl ?_
      refine ow_y (y_pick_f rfl rfl) rfl rfl rfl ?_
      refine ow_y (y_assign rfl) rfl rfl rfl ?_
      refine ow_nil ?_
      repeat with_reducible first | refine thenQ_ret ?_ | refine thenQ_normal ?_ | refine thenQ_exit ?_ | refine blockQ_ret ?_ | refine blockQ_normal ?_ | refine blockQ_exit_same ?_ | refine blockQ_exit_ne rfl ?_
      refine ⟨false, _, ?_, (by repeat (first | exact EnvLe.nil _ | refine EnvLe.cons rfl ?_)), (by repeat (first | exact Split.nil | (apply Split.cons; · repeat (first | exact Pick.here | apply Pick.there))))⟩
      simp only [isMem]; simp; omega
  · rintro _ rfl
    refine cw_seq ?_
    refine cw_regseq ?_
    refine ow_y (y_move rfl) rfl rfl rfl ?_
    refine ow_rangeStr rfl rfl rfl st_9 (fun b24 => ?_)
    refine ow_nil ?_
    refine cw_block ?_
    refine cw_loop (α := Nat × Opn × Value) (fun x => [(0, .pointer (some ⟨rb, 0, none⟩)), (1, .int .i64 op), (4, .pointer (some ⟨b4, 0, none⟩)), (5, .pointer (some ⟨b5, 0, none⟩)), (6, .pointer (some ⟨b6, 0, none⟩)), (7, .pointer (some ⟨b7, 0, none⟩)), (9, .bool (isMem op)), (24, .pointer (some ⟨b24, 0, none⟩))]) (fun x => [(b24, .stringIter (bs (kind op)) x.1), rdC rb x.2.2 x.2.1.r, (b6, cb [.int .i64 x.2.1.i.op, .int .i64 x.2.1.i.a, .int .i64 x.2.1.i.b, .int .i64 x.2.1.i.c, .int .i64 x.2.1.i.imm] 33), (b7, cb [.int .i64 x.2.1.v.1, str x.2.1.v.2] 62), (b4, cb [.int .i64 0, .int .i64 0, .int .i64 0, .int .i64 0, .int .i64 0] 33), (b5, cb [.int .i64 0, str []] 62)]) (fun x => x.1 ≤ (kind op).length ∧ TokS R x.2.2 x.2.1.r.ts ∧ Fit x.2.1.r.ts ∧ opGo op x.1 ((kind op).drop x.1) x.2.1 = opGo op 0 (kind op) ⟨r, ⟨op, 0, 0, 0, 0⟩, (0, [])⟩) (fun x => (kind op).length - x.1) (0, ⟨r, ⟨op, 0, 0, 0, 0⟩, (0, [])⟩, sl) ?_ (by repeat (first | exact EnvLe.nil _ | refine EnvLe.cons rfl ?_)) (by repeat (first | exact Split.nil | (apply Split.cons; · repeat (first | exact Pick.here | apply Pick.there)))) ?_
    · exact ⟨Nat.zero_le _, hs, hfit0, by rw [List.drop_zero]⟩
    · rintro ⟨p, ⟨rr, ⟨io, ia, ib, ic, im⟩, ⟨vn, vl⟩⟩, sl1⟩ ⟨hp, hs1, hfit, hgo⟩
      simp only at hp hs1 hfit hgo
      refine cw_regseq ?_
      rcases Nat.lt_or_ge p (kind op).length with hlt | hge
      · obtain ⟨c, hc⟩ : ∃ c, (kind op)[p]? = some c := ⟨_, List.getElem?_eq_getElem hlt⟩
        refine ow_next_step (c := c.toNat) (wd := 1) rfl rfl rfl hlt (Sl.decode_ascii hc (kind_asc hc)) (by repeat (first | exact Upd.here | apply Upd.there)) ?_
        refine ow_y (y_extract rfl rfl) rfl rfl rfl ?_
        refine ow_nil ?_
        refine cw_seq ?_
        refine cw_if_t rfl ?_
        refine cw_skip ?_
        repeat with_reducible first | refine thenQ_ret ?_ | refine thenQ_normal ?_ | refine thenQ_exit ?_ | refine blockQ_ret ?_ | refine blockQ_normal ?_ | refine blockQ_exit_same ?_ | refine blockQ_exit_ne rfl ?_
        refine cw_block ?_
        refine cw_regseq ?_
        refine ow_y (y_extract rfl rfl) rfl rfl rfl ?_
        refine ow_y (y_extract rfl rfl) rfl rfl rfl ?_
        refine ow_y (y_assign rfl) rfl rfl rfl ?_
        refine ow_y (y_assign rfl) rfl rfl rfl ?_
        refine ow_nil ?_
        refine cw_seq_cut (α := Rd × Value) (fun x => [(0, .pointer (some ⟨rb, 0, none⟩)), (1, .int .i64 op), (4, .pointer (some ⟨b4, 0, none⟩)), (5, .pointer (some ⟨b5, 0, none⟩)), (6, .pointer (some ⟨b6, 0, none⟩)), (7, .pointer (some ⟨b7, 0, none⟩)), (9, .bool (isMem op)), (24, .pointer (some ⟨b24, 0, none⟩)), (10, .int .i64 (p : Int)), (11, .int .i32 (c.toNat : Int))]) (fun x => [(b24, .stringIter (bs (kind op)) (p + 1)), rdC rb x.2 x.1, (b6, cb [.int .i64 io, .int .i64 ia, .int .i64 ib, .int .i64 ic, .int .i64 im] 33), (b7, cb [.int .i64 vn, str vl] 62), (b4, cb [.int .i64 0, .int .i64 0, .int .i64 0, .int .i64 0, .int .i64 0] 33), (b5, cb [.int .i64 0, str []] 62)]) (fun x => TokS R x.2 x.1.ts ∧ Fit x.1.ts ∧ x.1 = (if p > 0 then rr.sign (if isMem op && decide (c.toNat = 105) then 43 else 44) else rr)) ?_ ?_
        · refine cw_regseq ?_
          refine ow_y (y_move rfl) rfl rfl rfl ?_
          refine ow_cmp rfl rfl rfl rfl rfl (fun h30 => ?_) (fun h30 => ?_)
          · simp only [cmpP] at h30
            refine ow_nil ?_
            refine cw_if_t rfl ?_
            refine cw_regseq ?_
            refine ow_y (y_move rfl) rfl rfl rfl ?_
            refine ow_y (y_move rfl) rfl rfl rfl ?_
            refine ow_split (t := 32) rfl (fun hq1 => ?_) (fun hq1 => ?_)
            · refine ow_y (y_move rfl) rfl rfl rfl ?_
              refine ow_cmp rfl rfl rfl rfl rfl (fun h34 => ?_) (fun h34 => ?_)
              · simp only [cmpP] at h34
                refine ow_y (y_pick_t rfl rfl) rfl rfl rfl ?_
                refine ow_nil ?_
                refine cw_if_t rfl ?_
                refine cw_region ?_
                refine ow_y (y_move rfl) rfl rfl rfl ?_
                refine ow_call rfl rfl (by rfl) ct_72 (rd_frame (sign_c R rb sl1 43 rr hs1) (by repeat (first | exact Split.nil | (apply Split.cons; · repeat (first | exact Pick.here | apply Pick.there))))) ?_
                rintro _ _ ⟨sl2, rfl, rfl, hs2⟩
                refine ow_nil ?_
                repeat with_reducible first | refine thenQ_ret ?_ | refine thenQ_normal ?_ | refine thenQ_exit ?_ | refine blockQ_ret ?_ | refine blockQ_normal ?_ | refine blockQ_exit_same ?_ | refine blockQ_exit_ne rfl ?_
                refine ⟨(rr.sign 43, sl2), _, ?_, (by repeat (first | exact EnvLe.nil _ | refine EnvLe.cons rfl ?_)), (by repeat (first | exact Split.nil | (apply Split.cons; · repeat (first | exact Pick.here | apply Pick.there))))⟩
                exact ⟨hs2, hfit.sign _, by rw [if_pos (by omega), if_pos (by rw [‹isMem op = true›]; simp; omega)]⟩
              · simp only [cmpP] at h34
                refine ow_y (y_pick_t rfl rfl) rfl rfl rfl ?_
                refine ow_nil ?_
                refine cw_if_f rfl ?_
                refine cw_region ?_
                refine ow_y (y_move rfl) rfl rfl rfl ?_
                refine ow_call rfl rfl (by rfl) ct_72 (rd_frame (sign_c R rb sl1 44 rr hs1) (by repeat (first | exact Split.nil | (apply Split.cons; · repeat (first | exact Pick.here | apply Pick.there))))) ?_
                rintro _ _ ⟨sl2, rfl, rfl, hs2⟩
                refine ow_nil ?_
                repeat with_reducible first | refine thenQ_ret ?_ | refine thenQ_normal ?_ | refine thenQ_exit ?_ | refine blockQ_ret ?_ | refine blockQ_normal ?_ | refine blockQ_exit_same ?_ | refine blockQ_exit_ne rfl ?_
                refine ⟨(rr.sign 44, sl2), _, ?_, (by repeat (first | exact EnvLe.nil _ | refine EnvLe.cons rfl ?_)), (by repeat (first | exact Split.nil | (apply Split.cons; · repeat (first | exact Pick.here | apply Pick.there))))⟩
                exact ⟨hs2, hfit.sign _, by rw [if_pos (by omega), if_neg (by rw [‹isMem op = true›]; simp; omega)]⟩
            · refine ow_skip rfl rfl rfl ?_
              refine ow_skip rfl rfl rfl ?_
              refine ow_y (y_pick_f rfl rfl) rfl rfl rfl ?_
              refine ow_nil ?_
              refine cw_if_f rfl ?_
              refine cw_region ?_
              refine ow_y (y_move rfl) rfl rfl rfl ?_
              refine ow_call rfl rfl (by rfl) ct_72 (rd_frame (sign_c R rb sl1 44 rr hs1) (by repeat (first | exact Split.nil | (apply Split.cons; · repeat (first | exact Pick.here | apply Pick.there))))) ?_
              rintro _ _ ⟨sl2, rfl, rfl, hs2⟩
              refine ow_nil ?_
              repeat with_reducible first | refine thenQ_ret ?_ | refine thenQ_normal ?_ | refine thenQ_exit ?_ | refine blockQ_ret ?_ | refine blockQ_normal ?_ | refine blockQ_exit_same ?_ | refine blockQ_exit_ne rfl ?_
              refine ⟨(rr.sign 44, sl2), _, ?_, (by repeat (first | exact EnvLe.nil _ | refine EnvLe.cons rfl ?_)), (by repeat (first | exact Split.nil | (apply Split.cons; · repeat (first | exact Pick.here | apply Pick.there))))⟩
              exact ⟨hs2, hfit.sign _, by rw [if_pos (by omega), if_neg (by rw [‹isMem op = false›]; simp)]⟩
          · simp only [cmpP] at h30
            refine ow_nil ?_
            refine cw_if_f rfl ?_
            refine cw_skip ?_
            repeat with_reducible first | refine thenQ_ret ?_ | refine thenQ_normal ?_ | refine thenQ_exit ?_ | refine blockQ_ret ?_ | refine blockQ_normal ?_ | refine blockQ_exit_same ?_ | refine blockQ_exit_ne rfl ?_
            refine ⟨(rr, sl1), _, ?_, (by repeat (first | exact EnvLe.nil _ | refine EnvLe.cons rfl ?_)), (by repeat (first | exact Split.nil | (apply Split.cons; · repeat (first | exact Pick.here | apply Pick.there))))⟩
            exact ⟨hs1, hfit, by rw [if_neg (by omega)]⟩
        · clear hs1
          rintro ⟨r1, sl1⟩ ⟨hs1, hfit1, hr1⟩
          simp only at hs1 hfit1 hr1
          refine cw_seq_cut (α := Rd × Value) (fun x => [(0, .pointer (some ⟨rb, 0, none⟩)), (1, .int .i64 op), (4, .pointer (some ⟨b4, 0, none⟩)), (5, .pointer (some ⟨b5, 0, none⟩)), (6, .pointer (some ⟨b6, 0, none⟩)), (7, .pointer (some ⟨b7, 0, none⟩)), (9, .bool (isMem op)), (24, .pointer (some ⟨b24, 0, none⟩)), (10, .int .i64 (p : Int)), (11, .int .i32 (c.toNat : Int))]) (fun x => [(b24, .stringIter (bs (kind op)) (p + 1)), rdC rb x.2 x.1, (b6, cb [.int .i64 io, .int .i64 ia, .int .i64 ib, .int .i64 ic, .int .i64 im] 33), (b7, cb [.int .i64 vn, str vl] 62), (b4, cb [.int .i64 0, .int .i64 0, .int .i64 0, .int .i64 0, .int .i64 0] 33), (b5, cb [.int .i64 0, str []] 62)]) (fun x => TokS R x.2 x.1.ts ∧ Fit x.1.ts ∧ x.1 = sepOf op p c rr) ?_ ?_
          · refine cw_regseq ?_
            refine ow_y (y_move rfl) rfl rfl rfl ?_
            refine ow_y (y_move rfl) rfl rfl rfl ?_
            refine ow_split (t := 41) rfl (fun hq2 => ?_) (fun hq2 => ?_)
            · refine ow_y (y_move rfl) rfl rfl rfl ?_
              refine ow_cmp rfl rfl rfl rfl rfl (fun h43 => ?_) (fun h43 => ?_)
              · simp only [cmpP] at h43
                refine ow_y (y_pick_t rfl rfl) rfl rfl rfl ?_
                refine ow_nil ?_
                refine cw_if_t rfl ?_
                refine cw_region ?_
                refine ow_y (y_move rfl) rfl rfl rfl ?_
                refine ow_call rfl rfl (by rfl) ct_72 (rd_frame (sign_c R rb sl1 91 r1 hs1) (by repeat (first | exact Split.nil | (apply Split.cons; · repeat (first | exact Pick.here | apply Pick.there))))) ?_
                rintro _ _ ⟨sl2, rfl, rfl, hs2⟩
                refine ow_nil ?_
                repeat with_reducible first | refine thenQ_ret ?_ | refine thenQ_normal ?_ | refine thenQ_exit ?_ | refine blockQ_ret ?_ | refine blockQ_normal ?_ | refine blockQ_exit_same ?_ | refine blockQ_exit_ne rfl ?_
                refine ⟨(r1.sign 91, sl2), _, ?_, (by repeat (first | exact EnvLe.nil _ | refine EnvLe.cons rfl ?_)), (by repeat (first | exact Split.nil | (apply Split.cons; · repeat (first | exact Pick.here | apply Pick.there))))⟩
                exact ⟨hs2, hfit1.sign _, by simp only [sepOf]; rw [← hr1, if_pos (by rw [‹isMem op = true›]; simp; omega)]⟩
              · simp only [cmpP] at h43
                refine ow_y (y_pick_t rfl rfl) rfl rfl rfl ?_
                refine ow_nil ?_
                refine cw_if_f rfl ?_
                refine cw_skip ?_
                repeat with_reducible first | refine thenQ_ret ?_ | refine thenQ_normal ?_ | refine thenQ_exit ?_ | refine blockQ_ret ?_ | refine blockQ_normal ?_ | refine blockQ_exit_same ?_ | refine blockQ_exit_ne rfl ?_
                refine ⟨(r1, sl1), _, ?_, (by repeat (first | exact EnvLe.nil _ | refine EnvLe.cons rfl ?_)), (by repeat (first | exact Split.nil | (apply Split.cons; · repeat (first | exact Pick.here | apply Pick.there))))⟩
                exact ⟨hs1, hfit1, by simp only [sepOf]; rw [← hr1, if_neg (by rw [‹isMem op = true›]; simp; omega)]⟩
            · refine ow_skip rfl rfl rfl ?_
              refine ow_skip rfl rfl rfl ?_
              refine ow_y (y_pick_f rfl rfl) rfl rfl rfl ?_
              refine ow_nil ?_
              refine cw_if_f rfl ?_
              refine cw_skip ?_
              repeat with_reducible first | refine thenQ_ret ?_ | refine thenQ_normal ?_ | refine thenQ_exit ?_ | refine blockQ_ret ?_ | refine blockQ_normal ?_ | refine blockQ_exit_same ?_ | refine blockQ_exit_ne rfl ?_
              refine ⟨(r1, sl1), _, ?_, (by repeat (first | exact EnvLe.nil _ | refine EnvLe.cons rfl ?_)), (by repeat (first | exact Split.nil | (apply Split.cons; · repeat (first | exact Pick.here | apply Pick.there))))⟩
              exact ⟨hs1, hfit1, by simp only [sepOf]; rw [← hr1, if_neg (by rw [‹isMem op = false›]; simp)]⟩
          · clear hs1
            rintro ⟨r2, sl1⟩ ⟨hs1, hfit2, hr2⟩
            simp only at hs1 hfit2 hr2
            refine cw_regseq ?_
            refine ow_y (y_move rfl) rfl rfl rfl ?_
            refine ow_nil ?_
            refine cw_block ?_
            refine cw_regseq ?_
            refine ow_cmp rfl rfl rfl rfl rfl (fun h49 => ?_) (fun h49 => ?_)
            · simp only [cmpP] at h49
              refine ow_y (y_assign rfl) rfl rfl rfl ?_
              refine ow_nil ?_
              refine cw_if_t rfl ?_
              refine cw_region ?_
              refine ow_y (y_move rfl) rfl rfl rfl ?_
              refine ow_call rfl rfl (by rfl) ct_73 (rd_frame (register_c R rb sl1 r2 hs1 (fun n hn => hfit2 n (.inr hn))) (by repeat (first | exact Split.nil | (apply Split.cons; · repeat (first | exact Pick.here | apply Pick.there))))) ?_
              rintro _ _ ⟨sl2, rfl, rfl, hs2⟩
              refine ow_y (y_fieldAddr 1 rfl ft_33_1 rfl) rfl rfl rfl ?_
              refine ow_store rfl rfl rfl sz_3 rfl (by repeat (first | exact Upd.here | apply Upd.there)) (by repeat (first | exact SetL.here | apply SetL.there)) ?_
              refine ow_nil ?_
              repeat with_reducible first | refine thenQ_ret ?_ | refine thenQ_normal ?_ | refine thenQ_exit ?_ | refine blockQ_ret ?_ | refine blockQ_normal ?_ | refine blockQ_exit_same ?_ | refine blockQ_exit_ne rfl ?_
              refine ⟨(p + 1, ⟨r2.reg.2, ⟨io, r2.reg.1, ib, ic, im⟩, (vn, vl)⟩, sl2), _, ?_, ?_, (by repeat (first | exact EnvLe.nil _ | refine EnvLe.cons rfl ?_)), (by repeat (first | exact Split.nil | (apply Split.cons; · repeat (first | exact Pick.here | apply Pick.there))))⟩
              · refine ⟨hlt, hs2, hfit2.reg, ?_⟩
                rw [← hgo, drop_at hc, opGo]
                congr 1
                simp only [opStep, ← hr2, letter]
                repeat first | rw [if_pos (by omega)] | rw [if_neg (by omega)]
              · simp only; omega
            · simp only [cmpP] at h49
              refine ow_y (y_assign rfl) rfl rfl rfl ?_
              refine ow_nil ?_
              refine cw_if_f rfl ?_
              refine cw_regseq ?_
              refine ow_cmp rfl rfl rfl rfl rfl (fun h54 => ?_) (fun h54 => ?_)
              · simp only [cmpP] at h54
                refine ow_y (y_assign rfl) rfl rfl rfl ?_
                refine ow_nil ?_
                refine cw_if_t rfl ?_
                refine cw_region ?_
                refine ow_y (y_move rfl) rfl rfl rfl ?_
                refine ow_call rfl rfl (by rfl) ct_73 (rd_frame (register_c R rb sl1 r2 hs1 (fun n hn => hfit2 n (.inr hn))) (by repeat (first | exact Split.nil | (apply Split.cons; · repeat (first | exact Pick.here | apply Pick.there))))) ?_
                rintro _ _ ⟨sl2, rfl, rfl, hs2⟩
                refine ow_y (y_fieldAddr 2 rfl ft_33_2 rfl) rfl rfl rfl ?_
                refine ow_store rfl rfl rfl sz_3 rfl (by repeat (first | exact Upd.here | apply Upd.there)) (by repeat (first | exact SetL.here | apply SetL.there)) ?_
                refine ow_nil ?_
                repeat with_reducible first | refine thenQ_ret ?_ | refine thenQ_normal ?_ | refine thenQ_exit ?_ | refine blockQ_ret ?_ | refine blockQ_normal ?_ | refine blockQ_exit_same ?_ | refine blockQ_exit_ne rfl ?_
                refine ⟨(p + 1, ⟨r2.reg.2, ⟨io, ia, r2.reg.1, ic, im⟩, (vn, vl)⟩, sl2), _, ?_, ?_, (by repeat (first | exact EnvLe.nil _ | refine EnvLe.cons rfl ?_)), (by repeat (first | exact Split.nil | (apply Split.cons; · repeat (first | exact Pick.here | apply Pick.there))))⟩
                · refine ⟨hlt, hs2, hfit2.reg, ?_⟩
                  rw [← hgo, drop_at hc, opGo]
                  congr 1
                  simp only [opStep, ← hr2, letter]
                  repeat first | rw [if_pos (by omega)] | rw [if_neg (by omega)]
                · simp only; omega
              · simp only [cmpP] at h54
                refine ow_y (y_assign rfl) rfl rfl rfl ?_
                refine ow_nil ?_
                refine cw_if_f rfl ?_
                refine cw_regseq ?_
                refine ow_cmp rfl rfl rfl rfl rfl (fun h59 => ?_) (fun h59 => ?_)
                · simp only [cmpP] at h59
                  refine ow_y (y_assign rfl) rfl rfl rfl ?_
                  refine ow_nil ?_
                  refine cw_if_t rfl ?_
                  refine cw_region ?_
                  refine ow_y (y_move rfl) rfl rfl rfl ?_
                  refine ow_call rfl rfl (by rfl) ct_73 (rd_frame (register_c R rb sl1 r2 hs1 (fun n hn => hfit2 n (.inr hn))) (by repeat (first | exact Split.nil | (apply Split.cons; · repeat (first | exact Pick.here | apply Pick.there))))) ?_
                  rintro _ _ ⟨sl2, rfl, rfl, hs2⟩
                  refine ow_y (y_fieldAddr 3 rfl ft_33_3 rfl) rfl rfl rfl ?_
                  refine ow_store rfl rfl rfl sz_3 rfl (by repeat (first | exact Upd.here | apply Upd.there)) (by repeat (first | exact SetL.here | apply SetL.there)) ?_
                  refine ow_nil ?_
                  repeat with_reducible first | refine thenQ_ret ?_ | refine thenQ_normal ?_ | refine thenQ_exit ?_ | refine blockQ_ret ?_ | refine blockQ_normal ?_ | refine blockQ_exit_same ?_ | refine blockQ_exit_ne rfl ?_
                  refine ⟨(p + 1, ⟨r2.reg.2, ⟨io, ia, ib, r2.reg.1, im⟩, (vn, vl)⟩, sl2), _, ?_, ?_, (by repeat (first | exact EnvLe.nil _ | refine EnvLe.cons rfl ?_)), (by repeat (first | exact Split.nil | (apply Split.cons; · repeat (first | exact Pick.here | apply Pick.there))))⟩
                  · refine ⟨hlt, hs2, hfit2.reg, ?_⟩
                    rw [← hgo, drop_at hc, opGo]
                    congr 1
                    simp only [opStep, ← hr2, letter]
                    repeat first | rw [if_pos (by omega)] | rw [if_neg (by omega)]
                  · simp only; omega
                · simp only [cmpP] at h59
                  refine ow_y (y_assign rfl) rfl rfl rfl ?_
                  refine ow_nil ?_
                  refine cw_if_f rfl ?_
                  refine cw_regseq ?_
                  refine ow_cmp rfl rfl rfl rfl rfl (fun h64 => ?_) (fun h64 => ?_)
                  · simp only [cmpP] at h64
                    refine ow_y (y_assign rfl) rfl rfl rfl ?_
                    refine ow_nil ?_
                    refine cw_if_t rfl ?_
                    refine cw_region ?_
                    refine ow_y (y_move rfl) rfl rfl rfl ?_
                    refine ow_call rfl rfl (by rfl) ct_74 (rd_frame (value_c R rb sl1 r2 hR hs1 hfit2) (by repeat (first | exact Split.nil | (apply Split.cons; · repeat (first | exact Pick.here | apply Pick.there))))) ?_
                    rintro _ _ ⟨sl2, rfl, rfl, hs2⟩
                    refine ow_storeAgg rfl rfl rfl sz_62 rfl rfl (by repeat (first | exact Upd.here | apply Upd.there)) (by repeat (first | exact SetLs.nil | (apply SetLs.cons; · repeat (first | exact SetL.here | apply SetL.there)))) ?_
                    refine ow_nil ?_
                    repeat with_reducible first | refine thenQ_ret ?_ | refine thenQ_normal ?_ | refine thenQ_exit ?_ | refine blockQ_ret ?_ | refine blockQ_normal ?_ | refine blockQ_exit_same ?_ | refine blockQ_exit_ne rfl ?_
                    refine ⟨(p + 1, ⟨r2.value.2, ⟨io, ia, ib, ic, im⟩, (r2.value.1.1, r2.value.1.2)⟩, sl2), _, ?_, ?_, (by repeat (first | exact EnvLe.nil _ | refine EnvLe.cons rfl ?_)), (by repeat (first | exact Split.nil | (apply Split.cons; · repeat (first | exact Pick.here | apply Pick.there))))⟩
                    · refine ⟨hlt, hs2, hfit2.value, ?_⟩
                      rw [← hgo, drop_at hc, opGo]
                      congr 1
                      simp only [opStep, ← hr2, letter]
                      repeat first | rw [if_pos (by omega)] | rw [if_neg (by omega)]
                    · simp only; omega
                  · simp only [cmpP] at h64
                    refine ow_y (y_assign rfl) rfl rfl rfl ?_
                    refine ow_nil ?_
                    refine cw_if_f rfl ?_
                    refine cw_skip ?_
                    repeat with_reducible first | refine thenQ_ret ?_ | refine thenQ_normal ?_ | refine thenQ_exit ?_ | refine blockQ_ret ?_ | refine blockQ_normal ?_ | refine blockQ_exit_same ?_ | refine blockQ_exit_ne rfl ?_
                    refine ⟨(p + 1, ⟨r2, ⟨io, ia, ib, ic, im⟩, (vn, vl)⟩, sl1), _, ?_, ?_, (by repeat (first | exact EnvLe.nil _ | refine EnvLe.cons rfl ?_)), (by repeat (first | exact Split.nil | (apply Split.cons; · repeat (first | exact Pick.here | apply Pick.there))))⟩
                    · refine ⟨hlt, hs1, hfit2, ?_⟩
                      rw [← hgo, drop_at hc, opGo]
                      congr 1
                      simp only [opStep, ← hr2, letter]
                      repeat first | rw [if_pos (by omega)] | rw [if_neg (by omega)]
                    · simp only; omega
      · refine ow_next_over rfl rfl rfl (by repeat (first | exact List.Mem.head _ | apply List.Mem.tail)) hge ?_
        refine ow_y (y_extract rfl rfl) rfl rfl rfl ?_
        refine ow_nil ?_
        refine cw_seq ?_
        refine cw_if_f rfl ?_
        refine cw_exit ?_
        repeat with_reducible first | refine thenQ_ret ?_ | refine thenQ_normal ?_ | refine thenQ_exit ?_ | refine blockQ_ret ?_ | refine blockQ_normal ?_ | refine blockQ_exit_same ?_ | refine blockQ_exit_ne rfl ?_
        refine cw_seq ?_
        refine cw_regseq ?_
        refine ow_y (y_move rfl) rfl rfl rfl ?_
        refine ow_nil ?_
        refine cw_if rfl (fun hc3 => ?_) (fun hc3 => ?_)
        · refine cw_region ?_
          refine ow_y (y_move rfl) rfl rfl rfl ?_
          refine ow_call rfl rfl (by rfl) ct_72 (rd_frame (sign_c R rb sl1 93 rr hs1) (by repeat (first | exact Split.nil | (apply Split.cons; · repeat (first | exact Pick.here | apply Pick.there))))) ?_
          rintro _ _ ⟨sl2, rfl, rfl, hs2⟩
          refine ow_nil ?_
          repeat with_reducible first | refine thenQ_ret ?_ | refine thenQ_normal ?_ | refine thenQ_exit ?_ | refine blockQ_ret ?_ | refine blockQ_normal ?_ | refine blockQ_exit_same ?_ | refine blockQ_exit_ne rfl ?_
          refine cw_drawseq [(b6, cb [.int .i64 io, .int .i64 ia, .int .i64 ib, .int .i64 ic, .int .i64 im] 33), (b7, cb [.int .i64 vn, str vl] 62)] (by kernel_rfl) rfl ?_
          refine any_take 0 rfl (by kernel_rfl) (by kernel_rfl) (by kernel_rfl) rfl rfl rfl (by repeat (first | exact Split.nil | (apply Split.cons; · repeat (first | exact Pick.here | apply Pick.there)))) (y_loadAgg rfl at_33 sz_33 (by first | (apply In.own; (repeat (first | exact List.Mem.head _ | apply List.Mem.tail)); done) | (apply In.ro; (repeat (first | exact List.Mem.head _ | apply List.Mem.tail)); done)) (by repeat (first | exact Sub.nil | apply Sub.take | apply Sub.skip))) ?_
          refine any_take 1 rfl (by kernel_rfl) (by kernel_rfl) (by kernel_rfl) rfl rfl rfl (by repeat (first | exact Split.nil | (apply Split.cons; · repeat (first | exact Pick.here | apply Pick.there)))) (y_loadAgg rfl at_62 sz_62 (by first | (apply In.own; (repeat (first | exact List.Mem.head _ | apply List.Mem.tail)); done) | (apply In.ro; (repeat (first | exact List.Mem.head _ | apply List.Mem.tail)); done)) (by repeat (first | exact Sub.nil | apply Sub.take | apply Sub.skip))) ?_
          refine any_one 2 rfl (by kernel_rfl) ?_
          refine ow_storeAgg rfl rfl rfl sz_33 rfl rfl (by repeat (first | exact Upd.here | apply Upd.there)) (by repeat (first | exact SetLs.nil | (apply SetLs.cons; · repeat (first | exact SetL.here | apply SetL.there)))) ?_
          refine ow_nil ?_
          refine nextW (by repeat (first | exact Split.nil | (apply Split.cons; · repeat (first | exact Pick.here | apply Pick.there)))) ?_
          refine any_one 3 rfl (by kernel_rfl) ?_
          refine ow_storeAgg rfl rfl rfl sz_62 rfl rfl (by repeat (first | exact Upd.here | apply Upd.there)) (by repeat (first | exact SetLs.nil | (apply SetLs.cons; · repeat (first | exact SetL.here | apply SetL.there)))) ?_
          refine ow_nil ?_
          refine nextW (by repeat (first | exact Split.nil | (apply Split.cons; · repeat (first | exact Pick.here | apply Pick.there)))) ?_
          refine any_done (by kernel_rfl) ?_
          refine cw_ret ?_
          repeat with_reducible first | refine thenQ_ret ?_ | refine thenQ_normal ?_ | refine thenQ_exit ?_ | refine blockQ_ret ?_ | refine blockQ_normal ?_ | refine blockQ_exit_same ?_ | refine blockQ_exit_ne rfl ?_
          refine body_ret (.two (.agg rfl at_33 sz_33 (by first | (apply In.own; (repeat (first | exact List.Mem.head _ | apply List.Mem.tail)); done) | (apply In.ro; (repeat (first | exact List.Mem.head _ | apply List.Mem.tail)); done)) (by repeat (first | exact Sub.nil | apply Sub.take | apply Sub.skip))) (.agg rfl at_62 sz_62 (by first | (apply In.own; (repeat (first | exact List.Mem.head _ | apply List.Mem.tail)); done) | (apply In.ro; (repeat (first | exact List.Mem.head _ | apply List.Mem.tail)); done)) (by repeat (first | exact Sub.nil | apply Sub.take | apply Sub.skip)))) ?_
          have hpl : p = (kind op).length := by omega
          subst hpl
          rw [List.drop_length, opGo] at hgo
          have ho : operands r op = ⟨rr.sign 93, ⟨io, ia, ib, ic, im⟩, (vn, vl)⟩ := by simp only [operands]; rw [← hgo]; exact if_pos ‹isMem op = true›
          rw [ho]
          first | exact ⟨sl2, _, rfl, (by repeat (first | exact Split.nil | (apply Split.cons; · repeat (first | exact Pick.here | apply Pick.there)))), hs2⟩ | exact ⟨sl1, _, rfl, (by repeat (first | exact Split.nil | (apply Split.cons; · repeat (first | exact Pick.here | apply Pick.there)))), hs1⟩
        · refine cw_skip ?_
          repeat with_reducible first | refine thenQ_ret ?_ | refine thenQ_normal ?_ | refine thenQ_exit ?_ | refine blockQ_ret ?_ | refine blockQ_normal ?_ | refine blockQ_exit_same ?_ | refine blockQ_exit_ne rfl ?_
          refine cw_drawseq [(b6, cb [.int .i64 io, .int .i64 ia, .int .i64 ib, .int .i64 ic, .int .i64 im] 33), (b7, cb [.int .i64 vn, str vl] 62)] (by kernel_rfl) rfl ?_
          refine any_take 0 rfl (by kernel_rfl) (by kernel_rfl) (by kernel_rfl) rfl rfl rfl (by repeat (first | exact Split.nil | (apply Split.cons; · repeat (first | exact Pick.here | apply Pick.there)))) (y_loadAgg rfl at_33 sz_33 (by first | (apply In.own; (repeat (first | exact List.Mem.head _ | apply List.Mem.tail)); done) | (apply In.ro; (repeat (first | exact List.Mem.head _ | apply List.Mem.tail)); done)) (by repeat (first | exact Sub.nil | apply Sub.take | apply Sub.skip))) ?_
          refine any_take 1 rfl (by kernel_rfl) (by kernel_rfl) (by kernel_rfl) rfl rfl rfl (by repeat (first | exact Split.nil | (apply Split.cons; · repeat (first | exact Pick.here | apply Pick.there)))) (y_loadAgg rfl at_62 sz_62 (by first | (apply In.own; (repeat (first | exact List.Mem.head _ | apply List.Mem.tail)); done) | (apply In.ro; (repeat (first | exact List.Mem.head _ | apply List.Mem.tail)); done)) (by repeat (first | exact Sub.nil | apply Sub.take | apply Sub.skip))) ?_
          refine any_one 2 rfl (by kernel_rfl) ?_
          refine ow_storeAgg rfl rfl rfl sz_33 rfl rfl (by repeat (first | exact Upd.here | apply Upd.there)) (by repeat (first | exact SetLs.nil | (apply SetLs.cons; · repeat (first | exact SetL.here | apply SetL.there)))) ?_
          refine ow_nil ?_
          refine nextW (by repeat (first | exact Split.nil | (apply Split.cons; · repeat (first | exact Pick.here | apply Pick.there)))) ?_
          refine any_one 3 rfl (by kernel_rfl) ?_
          refine ow_storeAgg rfl rfl rfl sz_62 rfl rfl (by repeat (first | exact Upd.here | apply Upd.there)) (by repeat (first | exact SetLs.nil | (apply SetLs.cons; · repeat (first | exact SetL.here | apply SetL.there)))) ?_
          refine ow_nil ?_
          refine nextW (by repeat (first | exact Split.nil | (apply Split.cons; · repeat (first | exact Pick.here | apply Pick.there)))) ?_
          refine any_done (by kernel_rfl) ?_
          refine cw_ret ?_
          repeat with_reducible first | refine thenQ_ret ?_ | refine thenQ_normal ?_ | refine thenQ_exit ?_ | refine blockQ_ret ?_ | refine blockQ_normal ?_ | refine blockQ_exit_same ?_ | refine blockQ_exit_ne rfl ?_
          refine body_ret (.two (.agg rfl at_33 sz_33 (by first | (apply In.own; (repeat (first | exact List.Mem.head _ | apply List.Mem.tail)); done) | (apply In.ro; (repeat (first | exact List.Mem.head _ | apply List.Mem.tail)); done)) (by repeat (first | exact Sub.nil | apply Sub.take | apply Sub.skip))) (.agg rfl at_62 sz_62 (by first | (apply In.own; (repeat (first | exact List.Mem.head _ | apply List.Mem.tail)); done) | (apply In.ro; (repeat (first | exact List.Mem.head _ | apply List.Mem.tail)); done)) (by repeat (first | exact Sub.nil | apply Sub.take | apply Sub.skip)))) ?_
          have hpl : p = (kind op).length := by omega
          subst hpl
          rw [List.drop_length, opGo] at hgo
          have ho : operands r op = ⟨rr, ⟨io, ia, ib, ic, im⟩, (vn, vl)⟩ := by simp only [operands]; rw [← hgo]; exact if_neg (by rw [‹isMem op = false›]; simp)
          rw [ho]
          first | exact ⟨sl2, _, rfl, (by repeat (first | exact Split.nil | (apply Split.cons; · repeat (first | exact Pick.here | apply Pick.there)))), hs2⟩ | exact ⟨sl1, _, rfl, (by repeat (first | exact Split.nil | (apply Split.cons; · repeat (first | exact Pick.here | apply Pick.there)))), hs1⟩

theorem operands_c (R : Heap) (rb : Nat) (sl : Value) (r : Rd) (op : Int) (hR : Glob R) (hs : TokS R sl r.ts) (hb : Fit r.ts) : FnW Tryz.prog 56 [.pointer (some ⟨rb, 0, none⟩), .int .i64 op] R [rdC rb sl r] (RdPost R rb (.tuple #[.agg (encI (operands r op).i).toArray, .agg #[.int .i64 (operands r op).v.1, str (operands r op).v.2]]) (operands r op).r) := rd_drop (operands_w R rb sl r op hR hs hb)

end Go.Proofs.YtgppllppddaodaaGreatDoor
