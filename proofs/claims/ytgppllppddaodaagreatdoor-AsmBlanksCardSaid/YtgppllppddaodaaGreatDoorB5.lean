/-
  Lemmas and walks that the seat's cards rest on, merged: W12, W13, W14. No statement of the set is proved here.
-/
import Derived.Test.YtgppllppddaodaaGreatDoorB4
import Derived.Test.YtgppllppddaodaaGreatDoorB2
/-
  The walk of what ends a word in a line.
-/
namespace Go.Proofs.YtgppllppddaodaaGreatDoor
open Sl Am
open Go
theorem ct_52 : callT Tryz.prog 52 = true := by kernel_rfl
theorem rw_79 : rowT Tryz.prog 79 = some (104, 1, 16) := by kernel_rfl
theorem encT_one (t : Tok) : (encT t).oneCell' = true := by cases t <;> rfl
theorem encT_cells (t : Tok) : (encT t).cells = [encT t].toArray := by cases t <;> rfl
theorem OwnS_one {T : TypeId} {sz n : Nat} {v : Value} {A : Heap} {xs : List Value} (h : OwnS T sz v A n xs) : v.oneCell' = true := by cases h <;> rfl
theorem bs_tok (t : Tok) : ∀ w : World, (Instr.buildSlice 79 1 [(0, encT t)].toArray).run Tryz.prog w = .ok (.slice (some ⟨w.heap.size, 0, none⟩) 1 1) { w with heap := w.heap.push (cb [encT t] 104) } := by
  intro w
  cases t <;> kernel_rfl
theorem cut_ne {s : List UInt8} {f p : Nat} (h1 : f < p) (h2 : p ≤ s.length) : (s.drop f).take (p - f) ≠ [] := by
  intro h
  have := congrArg List.length h
  simp only [List.length_take, List.length_drop, List.length_nil] at this
  omega
theorem cut_len {s : List UInt8} {f p : Nat} : ((s.drop f).take (p - f)).length ≤ s.length := by
  simp only [List.length_take, List.length_drop]; omega
def endL (bf bs bl bx : Nat) (frm : Int) (s : List UInt8) (sv : Value) (fine : Bool) : Heap := [(bf, cb [.int .i64 frm] 3), (bs, cb [str s] 9), (bl, cb [sv] 79), (bx, cb [.bool fine] 4)]

set_option maxRecDepth 100000 in
set_option maxHeartbeats 400000 in
theorem scanEnd_no : ∀ (R A : Heap) (bf bs bl bx : Nat) (p frm : Int) (s : List UInt8) (sv : Value) (fine : Bool), frm < 0 → FnW Tryz.prog 51 [.int .i64 p, .pointer (some ⟨bf, 0, none⟩), .pointer (some ⟨bs, 0, none⟩), .pointer (some ⟨bl, 0, none⟩), .pointer (some ⟨bx, 0, none⟩)] R ((bf, cb [.int .i64 frm] 3) :: (bs, cb [str s] 9) :: (bl, cb [sv] 79) :: (bx, cb [.bool fine] 4) :: A) fun v L' => v = .tuple #[] ∧ L' = ((bf, cb [.int .i64 frm] 3) :: (bs, cb [str s] 9) :: (bl, cb [sv] 79) :: (bx, cb [.bool fine] 4) :: A) := by
  intro R A bf bs bl bx p frm s sv fine hf
  refine fn_of_body Tryz.func51 rfl Tryz.ntmps51 Tryz.results51 (by rfl) ?_
  refine cw_regseq ?_
  refine ow_y (y_load rfl pt_3 (by first | (apply In.own; (repeat (first | exact List.Mem.head _ | apply List.Mem.tail)); done) | (apply In.ro; (repeat (first | exact List.Mem.head _ | apply List.Mem.tail)); done)) rfl) rfl rfl rfl ?_
  refine ow_cmp_f rfl rfl rfl rfl rfl (by simp only [cmpP]; try omega) ?_
  refine ow_nil ?_
  refine cw_if_f rfl ?_
  refine cw_skip ?_
  repeat with_reducible first | refine thenQ_ret ?_ | refine thenQ_normal ?_ | refine thenQ_exit ?_ | refine blockQ_ret ?_ | refine blockQ_normal ?_ | refine blockQ_exit_same ?_ | refine blockQ_exit_ne rfl ?_
  refine body_end (.none) ?_
  exact ⟨rfl, rfl⟩

set_option maxRecDepth 100000 in
set_option maxHeartbeats 400000 in
theorem scanEnd_true : ∀ (R A : Heap) (bf bs bl bx f p : Nat) (s : List UInt8) (sv : Value) (ts : List Tok), Glob R → f < p → p ≤ s.length → s.length ≤ 1099511627776 → ts.length ≤ 1099511627776 → OwnS 104 1 sv A ts.length (ts.map encT) → FnW Tryz.prog 51 [.int .i64 p, .pointer (some ⟨bf, 0, none⟩), .pointer (some ⟨bs, 0, none⟩), .pointer (some ⟨bl, 0, none⟩), .pointer (some ⟨bx, 0, none⟩)] R ((bf, cb [.int .i64 (f : Int)] 3) :: (bs, cb [str s] 9) :: (bl, cb [sv] 79) :: (bx, cb [.bool true] 4) :: A) fun v L' => v = .tuple #[] ∧ ∃ sv' A' t, L' = ((bf, cb [.int .i64 (-1)] 3) :: (bs, cb [str s] 9) :: (bl, cb [sv'] 79) :: (bx, cb [.bool (true && wordOk ((s.drop f).take (p - f)))] 4) :: A') ∧ OwnS 104 1 sv' A' (ts.length + 1) (ts.map encT ++ [encT t]) ∧ Fit [t] ∧ (wordOk ((s.drop f).take (p - f)) = true → t = wordTok ((s.drop f).take (p - f))) := by
  intro R A bf bs bl bx f p s sv ts hR hfp hp hs hts hown
  refine fn_of_body Tryz.func51 rfl Tryz.ntmps51 Tryz.results51 (by rfl) ?_
  refine cw_regseq ?_
  refine ow_y (y_load rfl pt_3 (by first | (apply In.own; (repeat (first | exact List.Mem.head _ | apply List.Mem.tail)); done) | (apply In.ro; (repeat (first | exact List.Mem.head _ | apply List.Mem.tail)); done)) rfl) rfl rfl rfl ?_
  refine ow_cmp_t rfl rfl rfl rfl rfl (by simp only [cmpP]; try omega) ?_
  refine ow_nil ?_
  refine cw_if_t rfl ?_
  refine cw_regseq ?_
  refine ow_y (y_load rfl pt_9 (by first | (apply In.own; (repeat (first | exact List.Mem.head _ | apply List.Mem.tail)); done) | (apply In.ro; (repeat (first | exact List.Mem.head _ | apply List.Mem.tail)); done)) rfl) rfl rfl rfl ?_
  refine ow_y (y_load rfl pt_3 (by first | (apply In.own; (repeat (first | exact List.Mem.head _ | apply List.Mem.tail)); done) | (apply In.ro; (repeat (first | exact List.Mem.head _ | apply List.Mem.tail)); done)) rfl) rfl rfl rfl ?_
  refine ow_y (y_move rfl) rfl rfl rfl ?_
  refine ow_y (y_sliceStr (vlo := some (.int .i64 (f : Int))) (vhi := some (.int .i64 (p : Int))) (i := f) (j := p) rfl st_9 rfl rfl (.inr rfl) (.inr rfl) (by omega) (by omega)) rfl rfl rfl ?_
  refine ow_call rfl rfl (by rfl) ct_52 (wordToken_c R _ hR _ (cut_ne hfp hp) (Nat.le_trans cut_len (by omega))) ?_
  rintro _ _ ⟨⟨t, rfl, ht, hfit⟩, rfl⟩
  refine ow_y (y_move rfl) rfl rfl rfl ?_
  refine ow_y (y_extract rfl rfl) rfl rfl rfl ?_
  refine ow_y (y_extract rfl rfl) rfl rfl rfl ?_
  refine ow_y (y_assign rfl) rfl rfl rfl ?_
  refine ow_y (y_assign rfl) rfl rfl rfl ?_
  refine ow_nil ?_
  refine cw_draw [] (by kernel_rfl) rfl ?_
  refine any_take 1 rfl (by kernel_rfl) (by kernel_rfl) (by kernel_rfl) rfl rfl rfl (by repeat (first | exact Split.nil | (apply Split.cons; · repeat (first | exact Pick.here | apply Pick.there)) | exact Split.whole _ | exact Split.front _ _ rfl | exact Split.back _ _ rfl | exact Split.app_nil _ | apply Split.skip)) (y_move rfl) ?_
  refine any_share (α := Value × Heap) (fun x => [(1, .pointer (some ⟨bf, 0, none⟩)), (3, .pointer (some ⟨bl, 0, none⟩)), (4, .pointer (some ⟨bx, 0, none⟩)), (7, .bool (wordOk ((s.drop f).take (p - f)))), (21, x.1), (22, .bool true)]) (fun x => (bf, cb [.int .i64 (f : Int)] 3) :: (bs, cb [str s] 9) :: (bl, cb [sv] 79) :: (bx, cb [.bool true] 4) :: x.2) (fun x => OwnS 104 1 x.1 x.2 (ts.length + 1) (ts.map encT ++ [encT t])) 6 #[true, true, true, true, true, false, false, false, false, false, false] ?_ (fun hrest => ?_)
  · rintro ⟨sv2, A2⟩ hown2
    simp only at hown2
    refine any_take 5 rfl (by kernel_rfl) (by kernel_rfl) (by kernel_rfl) rfl rfl rfl (by repeat (first | exact Split.nil | (apply Split.cons; · repeat (first | exact Pick.here | apply Pick.there)) | exact Split.whole _ | exact Split.front _ _ rfl | exact Split.back _ _ rfl | exact Split.app_nil _ | apply Split.skip)) (y_move rfl) ?_
    refine any_take 6 rfl (by kernel_rfl) (by kernel_rfl) (by kernel_rfl) rfl rfl rfl (by repeat (first | exact Split.nil | (apply Split.cons; · repeat (first | exact Pick.here | apply Pick.there)) | exact Split.whole _ | exact Split.front _ _ rfl | exact Split.back _ _ rfl | exact Split.app_nil _ | apply Split.skip)) (y_move rfl) ?_
    refine any_take 7 rfl (by kernel_rfl) (by kernel_rfl) (by kernel_rfl) rfl rfl rfl (by repeat (first | exact Split.nil | (apply Split.cons; · repeat (first | exact Pick.here | apply Pick.there)) | exact Split.whole _ | exact Split.front _ _ rfl | exact Split.back _ _ rfl | exact Split.app_nil _ | apply Split.skip)) (y_pick_t rfl rfl) ?_
    refine any_one 8 rfl (by kernel_rfl) ?_
    refine ow_store rfl rfl rfl sz_79 (OwnS_one hown2) (by repeat (first | exact Upd.here | apply Upd.there)) (by repeat (first | exact SetL.here | apply SetL.there)) ?_
    refine ow_nil ?_
    refine nextW (by repeat (first | exact Split.nil | (apply Split.cons; · repeat (first | exact Pick.here | apply Pick.there)) | exact Split.whole _ | exact Split.front _ _ rfl | exact Split.back _ _ rfl | exact Split.app_nil _ | apply Split.skip)) ?_
    refine any_one 9 rfl (by kernel_rfl) ?_
    refine ow_store rfl rfl rfl sz_4 rfl (by repeat (first | exact Upd.here | apply Upd.there)) (by repeat (first | exact SetL.here | apply SetL.there)) ?_
    refine ow_nil ?_
    refine nextW (by repeat (first | exact Split.nil | (apply Split.cons; · repeat (first | exact Pick.here | apply Pick.there)) | exact Split.whole _ | exact Split.front _ _ rfl | exact Split.back _ _ rfl | exact Split.app_nil _ | apply Split.skip)) ?_
    refine any_one 10 rfl (by kernel_rfl) ?_
    refine ow_store rfl rfl rfl sz_3 rfl (by repeat (first | exact Upd.here | apply Upd.there)) (by repeat (first | exact SetL.here | apply SetL.there)) ?_
    refine ow_nil ?_
    refine nextW (by repeat (first | exact Split.nil | (apply Split.cons; · repeat (first | exact Pick.here | apply Pick.there)) | exact Split.whole _ | exact Split.front _ _ rfl | exact Split.back _ _ rfl | exact Split.app_nil _ | apply Split.skip)) ?_
    refine any_done (by kernel_rfl) ?_
    repeat with_reducible first | refine thenQ_ret ?_ | refine thenQ_normal ?_ | refine thenQ_exit ?_ | refine blockQ_ret ?_ | refine blockQ_normal ?_ | refine blockQ_exit_same ?_ | refine blockQ_exit_ne rfl ?_
    refine body_end (.none) ?_
    exact ⟨rfl, sv2, A2, t, rfl, hown2, hfit, ht⟩
  · refine any_three 0 2 4 rfl rfl rfl (by kernel_rfl) ?_ ?_ ?_
    · refine ow_y (y_load rfl pt_79 (by first | (apply In.own; (repeat (first | exact List.Mem.head _ | apply List.Mem.tail)); done) | (apply In.ro; (repeat (first | exact List.Mem.head _ | apply List.Mem.tail)); done)) rfl) rfl rfl rfl ?_
      refine ow_nil ?_
      refine nextW (by repeat (first | exact Split.nil | (apply Split.cons; · repeat (first | exact Pick.here | apply Pick.there)) | exact Split.whole _ | exact Split.front _ _ rfl | exact Split.back _ _ rfl | exact Split.app_nil _ | apply Split.skip)) ?_
      refine any_two 2 4 rfl rfl (by kernel_rfl) ?_ ?_
      · refine ow_buildSlice (el := 104) (zs := [.nilIface]) (fun i => some (i * 1, 1)) rfl rfl (by repeat (first | exact EvPs.nil | apply EvPs.cons rfl)) (FillL.cons rfl (encT_cells t) rfl (SetLs.cons SetL.here SetLs.nil) FillL.nil) (bs_tok t) (fun b20 => ?_)
        refine ow_nil ?_
        refine nextW (by repeat (first | exact Split.nil | (apply Split.cons; · repeat (first | exact Pick.here | apply Pick.there)) | exact Split.whole _ | exact Split.front _ _ rfl | exact Split.back _ _ rfl | exact Split.app_nil _ | apply Split.skip)) ?_
        refine any_two 3 4 rfl rfl (by kernel_rfl) ?_ ?_
        · refine ow_append' (xs := ts.map encT) (n := ts.length) (news := [encT t]) rfl rfl rfl rfl rw_79 hown (by repeat (first | exact Split.nil | (apply Split.cons; · repeat (first | exact Pick.here | apply Pick.there)) | exact Split.whole _ | exact Split.front _ _ rfl | exact Split.back _ _ rfl | exact Split.app_nil _ | apply Split.skip)) (by first | (apply In.own; (repeat (first | exact List.Mem.head _ | apply List.Mem.tail)); done) | (apply In.ro; (repeat (first | exact List.Mem.head _ | apply List.Mem.tail)); done)) rfl rfl (by intro u hu; simp only [List.mem_singleton] at hu; subst hu; exact encT_one t) (by omega) (by simp only [maxLen]; omega) (by omega) (fun sv2 A2 hown2 => ?_)
          refine ow_nil ?_
          refine nextW (by repeat (first | exact Split.nil | (apply Split.cons; · repeat (first | exact Pick.here | apply Pick.there)) | exact Split.whole _ | exact Split.front _ _ rfl | exact Split.back _ _ rfl | exact Split.app_nil _ | apply Split.skip)) ?_
          refine any_one 4 rfl (by kernel_rfl) ?_
          refine ow_y (y_load rfl pt_4 (by first | (apply In.own; (repeat (first | exact List.Mem.head _ | apply List.Mem.tail)); done) | (apply In.ro; (repeat (first | exact List.Mem.head _ | apply List.Mem.tail)); done)) rfl) rfl rfl rfl ?_
          refine ow_nil ?_
          refine nextW (by repeat (first | exact Split.nil | (apply Split.cons; · repeat (first | exact Pick.here | apply Pick.there)) | exact Split.whole _ | exact Split.front _ _ rfl | exact Split.back _ _ rfl | exact Split.app_nil _ | apply Split.skip)) ?_
          exact any_cut (by kernel_rfl) (by repeat (first | exact EnvLe.nil _ | refine EnvLe.cons rfl ?_)) (by repeat (first | exact Split.nil | (apply Split.cons; · repeat (first | exact Pick.here | apply Pick.there)) | exact Split.whole _ | exact Split.front _ _ rfl | exact Split.back _ _ rfl | exact Split.app_nil _ | apply Split.skip)) (hrest (sv2, A2) hown2)
        · refine ow_y (y_load rfl pt_4 (by first | (apply In.own; (repeat (first | exact List.Mem.head _ | apply List.Mem.tail)); done) | (apply In.ro; (repeat (first | exact List.Mem.head _ | apply List.Mem.tail)); done)) rfl) rfl rfl rfl ?_
          refine ow_nil ?_
          refine nextW (by repeat (first | exact Split.nil | (apply Split.cons; · repeat (first | exact Pick.here | apply Pick.there)) | exact Split.whole _ | exact Split.front _ _ rfl | exact Split.back _ _ rfl | exact Split.app_nil _ | apply Split.skip)) ?_
          refine any_one 3 rfl (by kernel_rfl) ?_
          refine ow_append' (xs := ts.map encT) (n := ts.length) (news := [encT t]) rfl rfl rfl rfl rw_79 hown (by repeat (first | exact Split.nil | (apply Split.cons; · repeat (first | exact Pick.here | apply Pick.there)) | exact Split.whole _ | exact Split.front _ _ rfl | exact Split.back _ _ rfl | exact Split.app_nil _ | apply Split.skip)) (by first | (apply In.own; (repeat (first | exact List.Mem.head _ | apply List.Mem.tail)); done) | (apply In.ro; (repeat (first | exact List.Mem.head _ | apply List.Mem.tail)); done)) rfl rfl (by intro u hu; simp only [List.mem_singleton] at hu; subst hu; exact encT_one t) (by omega) (by simp only [maxLen]; omega) (by omega) (fun sv2 A2 hown2 => ?_)
          refine ow_nil ?_
          refine nextW (by repeat (first | exact Split.nil | (apply Split.cons; · repeat (first | exact Pick.here | apply Pick.there)) | exact Split.whole _ | exact Split.front _ _ rfl | exact Split.back _ _ rfl | exact Split.app_nil _ | apply Split.skip)) ?_
          exact any_cut (by kernel_rfl) (by repeat (first | exact EnvLe.nil _ | refine EnvLe.cons rfl ?_)) (by repeat (first | exact Split.nil | (apply Split.cons; · repeat (first | exact Pick.here | apply Pick.there)) | exact Split.whole _ | exact Split.front _ _ rfl | exact Split.back _ _ rfl | exact Split.app_nil _ | apply Split.skip)) (hrest (sv2, A2) hown2)
      · refine ow_y (y_load rfl pt_4 (by first | (apply In.own; (repeat (first | exact List.Mem.head _ | apply List.Mem.tail)); done) | (apply In.ro; (repeat (first | exact List.Mem.head _ | apply List.Mem.tail)); done)) rfl) rfl rfl rfl ?_
        refine ow_nil ?_
        refine nextW (by repeat (first | exact Split.nil | (apply Split.cons; · repeat (first | exact Pick.here | apply Pick.there)) | exact Split.whole _ | exact Split.front _ _ rfl | exact Split.back _ _ rfl | exact Split.app_nil _ | apply Split.skip)) ?_
        refine any_one 2 rfl (by kernel_rfl) ?_
        refine ow_buildSlice (el := 104) (zs := [.nilIface]) (fun i => some (i * 1, 1)) rfl rfl (by repeat (first | exact EvPs.nil | apply EvPs.cons rfl)) (FillL.cons rfl (encT_cells t) rfl (SetLs.cons SetL.here SetLs.nil) FillL.nil) (bs_tok t) (fun b20 => ?_)
        refine ow_nil ?_
        refine nextW (by repeat (first | exact Split.nil | (apply Split.cons; · repeat (first | exact Pick.here | apply Pick.there)) | exact Split.whole _ | exact Split.front _ _ rfl | exact Split.back _ _ rfl | exact Split.app_nil _ | apply Split.skip)) ?_
        refine any_one 3 rfl (by kernel_rfl) ?_
        refine ow_append' (xs := ts.map encT) (n := ts.length) (news := [encT t]) rfl rfl rfl rfl rw_79 hown (by repeat (first | exact Split.nil | (apply Split.cons; · repeat (first | exact Pick.here | apply Pick.there)) | exact Split.whole _ | exact Split.front _ _ rfl | exact Split.back _ _ rfl | exact Split.app_nil _ | apply Split.skip)) (by first | (apply In.own; (repeat (first | exact List.Mem.head _ | apply List.Mem.tail)); done) | (apply In.ro; (repeat (first | exact List.Mem.head _ | apply List.Mem.tail)); done)) rfl rfl (by intro u hu; simp only [List.mem_singleton] at hu; subst hu; exact encT_one t) (by omega) (by simp only [maxLen]; omega) (by omega) (fun sv2 A2 hown2 => ?_)
        refine ow_nil ?_
        refine nextW (by repeat (first | exact Split.nil | (apply Split.cons; · repeat (first | exact Pick.here | apply Pick.there)) | exact Split.whole _ | exact Split.front _ _ rfl | exact Split.back _ _ rfl | exact Split.app_nil _ | apply Split.skip)) ?_
        exact any_cut (by kernel_rfl) (by repeat (first | exact EnvLe.nil _ | refine EnvLe.cons rfl ?_)) (by repeat (first | exact Split.nil | (apply Split.cons; · repeat (first | exact Pick.here | apply Pick.there)) | exact Split.whole _ | exact Split.front _ _ rfl | exact Split.back _ _ rfl | exact Split.app_nil _ | apply Split.skip)) (hrest (sv2, A2) hown2)
    · refine ow_buildSlice (el := 104) (zs := [.nilIface]) (fun i => some (i * 1, 1)) rfl rfl (by repeat (first | exact EvPs.nil | apply EvPs.cons rfl)) (FillL.cons rfl (encT_cells t) rfl (SetLs.cons SetL.here SetLs.nil) FillL.nil) (bs_tok t) (fun b20 => ?_)
      refine ow_nil ?_
      refine nextW (by repeat (first | exact Split.nil | (apply Split.cons; · repeat (first | exact Pick.here | apply Pick.there)) | exact Split.whole _ | exact Split.front _ _ rfl | exact Split.back _ _ rfl | exact Split.app_nil _ | apply Split.skip)) ?_
      refine any_two 0 4 rfl rfl (by kernel_rfl) ?_ ?_
      · refine ow_y (y_load rfl pt_79 (by first | (apply In.own; (repeat (first | exact List.Mem.head _ | apply List.Mem.tail)); done) | (apply In.ro; (repeat (first | exact List.Mem.head _ | apply List.Mem.tail)); done)) rfl) rfl rfl rfl ?_
        refine ow_nil ?_
        refine nextW (by repeat (first | exact Split.nil | (apply Split.cons; · repeat (first | exact Pick.here | apply Pick.there)) | exact Split.whole _ | exact Split.front _ _ rfl | exact Split.back _ _ rfl | exact Split.app_nil _ | apply Split.skip)) ?_
        refine any_two 3 4 rfl rfl (by kernel_rfl) ?_ ?_
        · refine ow_append' (xs := ts.map encT) (n := ts.length) (news := [encT t]) rfl rfl rfl rfl rw_79 hown (by repeat (first | exact Split.nil | (apply Split.cons; · repeat (first | exact Pick.here | apply Pick.there)) | exact Split.whole _ | exact Split.front _ _ rfl | exact Split.back _ _ rfl | exact Split.app_nil _ | apply Split.skip)) (by first | (apply In.own; (repeat (first | exact List.Mem.head _ | apply List.Mem.tail)); done) | (apply In.ro; (repeat (first | exact List.Mem.head _ | apply List.Mem.tail)); done)) rfl rfl (by intro u hu; simp only [List.mem_singleton] at hu; subst hu; exact encT_one t) (by omega) (by simp only [maxLen]; omega) (by omega) (fun sv2 A2 hown2 => ?_)
          refine ow_nil ?_
          refine nextW (by repeat (first | exact Split.nil | (apply Split.cons; · repeat (first | exact Pick.here | apply Pick.there)) | exact Split.whole _ | exact Split.front _ _ rfl | exact Split.back _ _ rfl | exact Split.app_nil _ | apply Split.skip)) ?_
          refine any_one 4 rfl (by kernel_rfl) ?_
          refine ow_y (y_load rfl pt_4 (by first | (apply In.own; (repeat (first | exact List.Mem.head _ | apply List.Mem.tail)); done) | (apply In.ro; (repeat (first | exact List.Mem.head _ | apply List.Mem.tail)); done)) rfl) rfl rfl rfl ?_
          refine ow_nil ?_
          refine nextW (by repeat (first | exact Split.nil | (apply Split.cons; · repeat (first | exact Pick.here | apply Pick.there)) | exact Split.whole _ | exact Split.front _ _ rfl | exact Split.back _ _ rfl | exact Split.app_nil _ | apply Split.skip)) ?_
          exact any_cut (by kernel_rfl) (by repeat (first | exact EnvLe.nil _ | refine EnvLe.cons rfl ?_)) (by repeat (first | exact Split.nil | (apply Split.cons; · repeat (first | exact Pick.here | apply Pick.there)) | exact Split.whole _ | exact Split.front _ _ rfl | exact Split.back _ _ rfl | exact Split.app_nil _ | apply Split.skip)) (hrest (sv2, A2) hown2)
        · refine ow_y (y_load rfl pt_4 (by first | (apply In.own; (repeat (first | exact List.Mem.head _ | apply List.Mem.tail)); done) | (apply In.ro; (repeat (first | exact List.Mem.head _ | apply List.Mem.tail)); done)) rfl) rfl rfl rfl ?_
          refine ow_nil ?_
          refine nextW (by repeat (first | exact Split.nil | (apply Split.cons; · repeat (first | exact Pick.here | apply Pick.there)) | exact Split.whole _ | exact Split.front _ _ rfl | exact Split.back _ _ rfl | exact Split.app_nil _ | apply Split.skip)) ?_
          refine any_one 3 rfl (by kernel_rfl) ?_
          refine ow_append' (xs := ts.map encT) (n := ts.length) (news := [encT t]) rfl rfl rfl rfl rw_79 hown (by repeat (first | exact Split.nil | (apply Split.cons; · repeat (first | exact Pick.here | apply Pick.there)) | exact Split.whole _ | exact Split.front _ _ rfl | exact Split.back _ _ rfl | exact Split.app_nil _ | apply Split.skip)) (by first | (apply In.own; (repeat (first | exact List.Mem.head _ | apply List.Mem.tail)); done) | (apply In.ro; (repeat (first | exact List.Mem.head _ | apply List.Mem.tail)); done)) rfl rfl (by intro u hu; simp only [List.mem_singleton] at hu; subst hu; exact encT_one t) (by omega) (by simp only [maxLen]; omega) (by omega) (fun sv2 A2 hown2 => ?_)
          refine ow_nil ?_
          refine nextW (by repeat (first | exact Split.nil | (apply Split.cons; · repeat (first | exact Pick.here | apply Pick.there)) | exact Split.whole _ | exact Split.front _ _ rfl | exact Split.back _ _ rfl | exact Split.app_nil _ | apply Split.skip)) ?_
          exact any_cut (by kernel_rfl) (by repeat (first | exact EnvLe.nil _ | refine EnvLe.cons rfl ?_)) (by repeat (first | exact Split.nil | (apply Split.cons; · repeat (first | exact Pick.here | apply Pick.there)) | exact Split.whole _ | exact Split.front _ _ rfl | exact Split.back _ _ rfl | exact Split.app_nil _ | apply Split.skip)) (hrest (sv2, A2) hown2)
      · refine ow_y (y_load rfl pt_4 (by first | (apply In.own; (repeat (first | exact List.Mem.head _ | apply List.Mem.tail)); done) | (apply In.ro; (repeat (first | exact List.Mem.head _ | apply List.Mem.tail)); done)) rfl) rfl rfl rfl ?_
        refine ow_nil ?_
        refine nextW (by repeat (first | exact Split.nil | (apply Split.cons; · repeat (first | exact Pick.here | apply Pick.there)) | exact Split.whole _ | exact Split.front _ _ rfl | exact Split.back _ _ rfl | exact Split.app_nil _ | apply Split.skip)) ?_
        refine any_one 0 rfl (by kernel_rfl) ?_
        refine ow_y (y_load rfl pt_79 (by first | (apply In.own; (repeat (first | exact List.Mem.head _ | apply List.Mem.tail)); done) | (apply In.ro; (repeat (first | exact List.Mem.head _ | apply List.Mem.tail)); done)) rfl) rfl rfl rfl ?_
        refine ow_nil ?_
        refine nextW (by repeat (first | exact Split.nil | (apply Split.cons; · repeat (first | exact Pick.here | apply Pick.there)) | exact Split.whole _ | exact Split.front _ _ rfl | exact Split.back _ _ rfl | exact Split.app_nil _ | apply Split.skip)) ?_
        refine any_one 3 rfl (by kernel_rfl) ?_
        refine ow_append' (xs := ts.map encT) (n := ts.length) (news := [encT t]) rfl rfl rfl rfl rw_79 hown (by repeat (first | exact Split.nil | (apply Split.cons; · repeat (first | exact Pick.here | apply Pick.there)) | exact Split.whole _ | exact Split.front _ _ rfl | exact Split.back _ _ rfl | exact Split.app_nil _ | apply Split.skip)) (by first | (apply In.own; (repeat (first | exact List.Mem.head _ | apply List.Mem.tail)); done) | (apply In.ro; (repeat (first | exact List.Mem.head _ | apply List.Mem.tail)); done)) rfl rfl (by intro u hu; simp only [List.mem_singleton] at hu; subst hu; exact encT_one t) (by omega) (by simp only [maxLen]; omega) (by omega) (fun sv2 A2 hown2 => ?_)
        refine ow_nil ?_
        refine nextW (by repeat (first | exact Split.nil | (apply Split.cons; · repeat (first | exact Pick.here | apply Pick.there)) | exact Split.whole _ | exact Split.front _ _ rfl | exact Split.back _ _ rfl | exact Split.app_nil _ | apply Split.skip)) ?_
        exact any_cut (by kernel_rfl) (by repeat (first | exact EnvLe.nil _ | refine EnvLe.cons rfl ?_)) (by repeat (first | exact Split.nil | (apply Split.cons; · repeat (first | exact Pick.here | apply Pick.there)) | exact Split.whole _ | exact Split.front _ _ rfl | exact Split.back _ _ rfl | exact Split.app_nil _ | apply Split.skip)) (hrest (sv2, A2) hown2)
    · refine ow_y (y_load rfl pt_4 (by first | (apply In.own; (repeat (first | exact List.Mem.head _ | apply List.Mem.tail)); done) | (apply In.ro; (repeat (first | exact List.Mem.head _ | apply List.Mem.tail)); done)) rfl) rfl rfl rfl ?_
      refine ow_nil ?_
      refine nextW (by repeat (first | exact Split.nil | (apply Split.cons; · repeat (first | exact Pick.here | apply Pick.there)) | exact Split.whole _ | exact Split.front _ _ rfl | exact Split.back _ _ rfl | exact Split.app_nil _ | apply Split.skip)) ?_
      refine any_two 0 2 rfl rfl (by kernel_rfl) ?_ ?_
      · refine ow_y (y_load rfl pt_79 (by first | (apply In.own; (repeat (first | exact List.Mem.head _ | apply List.Mem.tail)); done) | (apply In.ro; (repeat (first | exact List.Mem.head _ | apply List.Mem.tail)); done)) rfl) rfl rfl rfl ?_
        refine ow_nil ?_
        refine nextW (by repeat (first | exact Split.nil | (apply Split.cons; · repeat (first | exact Pick.here | apply Pick.there)) | exact Split.whole _ | exact Split.front _ _ rfl | exact Split.back _ _ rfl | exact Split.app_nil _ | apply Split.skip)) ?_
        refine any_one 2 rfl (by kernel_rfl) ?_
        refine ow_buildSlice (el := 104) (zs := [.nilIface]) (fun i => some (i * 1, 1)) rfl rfl (by repeat (first | exact EvPs.nil | apply EvPs.cons rfl)) (FillL.cons rfl (encT_cells t) rfl (SetLs.cons SetL.here SetLs.nil) FillL.nil) (bs_tok t) (fun b20 => ?_)
        refine ow_nil ?_
        refine nextW (by repeat (first | exact Split.nil | (apply Split.cons; · repeat (first | exact Pick.here | apply Pick.there)) | exact Split.whole _ | exact Split.front _ _ rfl | exact Split.back _ _ rfl | exact Split.app_nil _ | apply Split.skip)) ?_
        refine any_one 3 rfl (by kernel_rfl) ?_
        refine ow_append' (xs := ts.map encT) (n := ts.length) (news := [encT t]) rfl rfl rfl rfl rw_79 hown (by repeat (first | exact Split.nil | (apply Split.cons; · repeat (first | exact Pick.here | apply Pick.there)) | exact Split.whole _ | exact Split.front _ _ rfl | exact Split.back _ _ rfl | exact Split.app_nil _ | apply Split.skip)) (by first | (apply In.own; (repeat (first | exact List.Mem.head _ | apply List.Mem.tail)); done) | (apply In.ro; (repeat (first | exact List.Mem.head _ | apply List.Mem.tail)); done)) rfl rfl (by intro u hu; simp only [List.mem_singleton] at hu; subst hu; exact encT_one t) (by omega) (by simp only [maxLen]; omega) (by omega) (fun sv2 A2 hown2 => ?_)
        refine ow_nil ?_
        refine nextW (by repeat (first | exact Split.nil | (apply Split.cons; · repeat (first | exact Pick.here | apply Pick.there)) | exact Split.whole _ | exact Split.front _ _ rfl | exact Split.back _ _ rfl | exact Split.app_nil _ | apply Split.skip)) ?_
        exact any_cut (by kernel_rfl) (by repeat (first | exact EnvLe.nil _ | refine EnvLe.cons rfl ?_)) (by repeat (first | exact Split.nil | (apply Split.cons; · repeat (first | exact Pick.here | apply Pick.there)) | exact Split.whole _ | exact Split.front _ _ rfl | exact Split.back _ _ rfl | exact Split.app_nil _ | apply Split.skip)) (hrest (sv2, A2) hown2)
      · refine ow_buildSlice (el := 104) (zs := [.nilIface]) (fun i => some (i * 1, 1)) rfl rfl (by repeat (first | exact EvPs.nil | apply EvPs.cons rfl)) (FillL.cons rfl (encT_cells t) rfl (SetLs.cons SetL.here SetLs.nil) FillL.nil) (bs_tok t) (fun b20 => ?_)
        refine ow_nil ?_
        refine nextW (by repeat (first | exact Split.nil | (apply Split.cons; · repeat (first | exact Pick.here | apply Pick.there)) | exact Split.whole _ | exact Split.front _ _ rfl | exact Split.back _ _ rfl | exact Split.app_nil _ | apply Split.skip)) ?_
        refine any_one 0 rfl (by kernel_rfl) ?_
        refine ow_y (y_load rfl pt_79 (by first | (apply In.own; (repeat (first | exact List.Mem.head _ | apply List.Mem.tail)); done) | (apply In.ro; (repeat (first | exact List.Mem.head _ | apply List.Mem.tail)); done)) rfl) rfl rfl rfl ?_
        refine ow_nil ?_
        refine nextW (by repeat (first | exact Split.nil | (apply Split.cons; · repeat (first | exact Pick.here | apply Pick.there)) | exact Split.whole _ | exact Split.front _ _ rfl | exact Split.back _ _ rfl | exact Split.app_nil _ | apply Split.skip)) ?_
        refine any_one 3 rfl (by kernel_rfl) ?_
        refine ow_append' (xs := ts.map encT) (n := ts.length) (news := [encT t]) rfl rfl rfl rfl rw_79 hown (by repeat (first | exact Split.nil | (apply Split.cons; · repeat (first | exact Pick.here | apply Pick.there)) | exact Split.whole _ | exact Split.front _ _ rfl | exact Split.back _ _ rfl | exact Split.app_nil _ | apply Split.skip)) (by first | (apply In.own; (repeat (first | exact List.Mem.head _ | apply List.Mem.tail)); done) | (apply In.ro; (repeat (first | exact List.Mem.head _ | apply List.Mem.tail)); done)) rfl rfl (by intro u hu; simp only [List.mem_singleton] at hu; subst hu; exact encT_one t) (by omega) (by simp only [maxLen]; omega) (by omega) (fun sv2 A2 hown2 => ?_)
        refine ow_nil ?_
        refine nextW (by repeat (first | exact Split.nil | (apply Split.cons; · repeat (first | exact Pick.here | apply Pick.there)) | exact Split.whole _ | exact Split.front _ _ rfl | exact Split.back _ _ rfl | exact Split.app_nil _ | apply Split.skip)) ?_
        exact any_cut (by kernel_rfl) (by repeat (first | exact EnvLe.nil _ | refine EnvLe.cons rfl ?_)) (by repeat (first | exact Split.nil | (apply Split.cons; · repeat (first | exact Pick.here | apply Pick.there)) | exact Split.whole _ | exact Split.front _ _ rfl | exact Split.back _ _ rfl | exact Split.app_nil _ | apply Split.skip)) (hrest (sv2, A2) hown2)

set_option maxRecDepth 100000 in
set_option maxHeartbeats 400000 in
theorem scanEnd_false : ∀ (R A : Heap) (bf bs bl bx f p : Nat) (s : List UInt8) (sv : Value) (ts : List Tok), Glob R → f < p → p ≤ s.length → s.length ≤ 1099511627776 → ts.length ≤ 1099511627776 → OwnS 104 1 sv A ts.length (ts.map encT) → FnW Tryz.prog 51 [.int .i64 p, .pointer (some ⟨bf, 0, none⟩), .pointer (some ⟨bs, 0, none⟩), .pointer (some ⟨bl, 0, none⟩), .pointer (some ⟨bx, 0, none⟩)] R ((bf, cb [.int .i64 (f : Int)] 3) :: (bs, cb [str s] 9) :: (bl, cb [sv] 79) :: (bx, cb [.bool false] 4) :: A) fun v L' => v = .tuple #[] ∧ ∃ sv' A' t, L' = ((bf, cb [.int .i64 (-1)] 3) :: (bs, cb [str s] 9) :: (bl, cb [sv'] 79) :: (bx, cb [.bool (false && wordOk ((s.drop f).take (p - f)))] 4) :: A') ∧ OwnS 104 1 sv' A' (ts.length + 1) (ts.map encT ++ [encT t]) ∧ Fit [t] ∧ (wordOk ((s.drop f).take (p - f)) = true → t = wordTok ((s.drop f).take (p - f))) := by
  intro R A bf bs bl bx f p s sv ts hR hfp hp hs hts hown
  refine fn_of_body Tryz.func51 rfl Tryz.ntmps51 Tryz.results51 (by rfl) ?_
  refine cw_regseq ?_
  refine ow_y (y_load rfl pt_3 (by first | (apply In.own; (repeat (first | exact List.Mem.head _ | apply List.Mem.tail)); done) | (apply In.ro; (repeat (first | exact List.Mem.head _ | apply List.Mem.tail)); done)) rfl) rfl rfl rfl ?_
  refine ow_cmp_t rfl rfl rfl rfl rfl (by simp only [cmpP]; try omega) ?_
  refine ow_nil ?_
  refine cw_if_t rfl ?_
  refine cw_regseq ?_
  refine ow_y (y_load rfl pt_9 (by first | (apply In.own; (repeat (first | exact List.Mem.head _ | apply List.Mem.tail)); done) | (apply In.ro; (repeat (first | exact List.Mem.head _ | apply List.Mem.tail)); done)) rfl) rfl rfl rfl ?_
  refine ow_y (y_load rfl pt_3 (by first | (apply In.own; (repeat (first | exact List.Mem.head _ | apply List.Mem.tail)); done) | (apply In.ro; (repeat (first | exact List.Mem.head _ | apply List.Mem.tail)); done)) rfl) rfl rfl rfl ?_
  refine ow_y (y_move rfl) rfl rfl rfl ?_
  refine ow_y (y_sliceStr (vlo := some (.int .i64 (f : Int))) (vhi := some (.int .i64 (p : Int))) (i := f) (j := p) rfl st_9 rfl rfl (.inr rfl) (.inr rfl) (by omega) (by omega)) rfl rfl rfl ?_
  refine ow_call rfl rfl (by rfl) ct_52 (wordToken_c R _ hR _ (cut_ne hfp hp) (Nat.le_trans cut_len (by omega))) ?_
  rintro _ _ ⟨⟨t, rfl, ht, hfit⟩, rfl⟩
  refine ow_y (y_move rfl) rfl rfl rfl ?_
  refine ow_y (y_extract rfl rfl) rfl rfl rfl ?_
  refine ow_y (y_extract rfl rfl) rfl rfl rfl ?_
  refine ow_y (y_assign rfl) rfl rfl rfl ?_
  refine ow_y (y_assign rfl) rfl rfl rfl ?_
  refine ow_nil ?_
  refine cw_draw [] (by kernel_rfl) rfl ?_
  refine any_take 1 rfl (by kernel_rfl) (by kernel_rfl) (by kernel_rfl) rfl rfl rfl (by repeat (first | exact Split.nil | (apply Split.cons; · repeat (first | exact Pick.here | apply Pick.there)) | exact Split.whole _ | exact Split.front _ _ rfl | exact Split.back _ _ rfl | exact Split.app_nil _ | apply Split.skip)) (y_move rfl) ?_
  refine any_share (α := Value × Heap) (fun x => [(1, .pointer (some ⟨bf, 0, none⟩)), (3, .pointer (some ⟨bl, 0, none⟩)), (4, .pointer (some ⟨bx, 0, none⟩)), (7, .bool (wordOk ((s.drop f).take (p - f)))), (21, x.1), (22, .bool false)]) (fun x => (bf, cb [.int .i64 (f : Int)] 3) :: (bs, cb [str s] 9) :: (bl, cb [sv] 79) :: (bx, cb [.bool false] 4) :: x.2) (fun x => OwnS 104 1 x.1 x.2 (ts.length + 1) (ts.map encT ++ [encT t])) 6 #[true, true, true, true, true, false, false, false, false, false, false] ?_ (fun hrest => ?_)
  · rintro ⟨sv2, A2⟩ hown2
    simp only at hown2
    refine any_take 5 rfl (by kernel_rfl) (by kernel_rfl) (by kernel_rfl) rfl rfl rfl (by repeat (first | exact Split.nil | (apply Split.cons; · repeat (first | exact Pick.here | apply Pick.there)) | exact Split.whole _ | exact Split.front _ _ rfl | exact Split.back _ _ rfl | exact Split.app_nil _ | apply Split.skip)) (y_move rfl) ?_
    refine any_skip 6 rfl (by kernel_rfl) (by kernel_rfl) (by kernel_rfl) rfl rfl rfl (by repeat (first | exact Split.nil | (apply Split.cons; · repeat (first | exact Pick.here | apply Pick.there)) | exact Split.whole _ | exact Split.front _ _ rfl | exact Split.back _ _ rfl | exact Split.app_nil _ | apply Split.skip)) ?_
    refine any_take 7 rfl (by kernel_rfl) (by kernel_rfl) (by kernel_rfl) rfl rfl rfl (by repeat (first | exact Split.nil | (apply Split.cons; · repeat (first | exact Pick.here | apply Pick.there)) | exact Split.whole _ | exact Split.front _ _ rfl | exact Split.back _ _ rfl | exact Split.app_nil _ | apply Split.skip)) (y_pick_f rfl rfl) ?_
    refine any_one 8 rfl (by kernel_rfl) ?_
    refine ow_store rfl rfl rfl sz_79 (OwnS_one hown2) (by repeat (first | exact Upd.here | apply Upd.there)) (by repeat (first | exact SetL.here | apply SetL.there)) ?_
    refine ow_nil ?_
    refine nextW (by repeat (first | exact Split.nil | (apply Split.cons; · repeat (first | exact Pick.here | apply Pick.there)) | exact Split.whole _ | exact Split.front _ _ rfl | exact Split.back _ _ rfl | exact Split.app_nil _ | apply Split.skip)) ?_
    refine any_one 9 rfl (by kernel_rfl) ?_
    refine ow_store rfl rfl rfl sz_4 rfl (by repeat (first | exact Upd.here | apply Upd.there)) (by repeat (first | exact SetL.here | apply SetL.there)) ?_
    refine ow_nil ?_
    refine nextW (by repeat (first | exact Split.nil | (apply Split.cons; · repeat (first | exact Pick.here | apply Pick.there)) | exact Split.whole _ | exact Split.front _ _ rfl | exact Split.back _ _ rfl | exact Split.app_nil _ | apply Split.skip)) ?_
    refine any_one 10 rfl (by kernel_rfl) ?_
    refine ow_store rfl rfl rfl sz_3 rfl (by repeat (first | exact Upd.here | apply Upd.there)) (by repeat (first | exact SetL.here | apply SetL.there)) ?_
    refine ow_nil ?_
    refine nextW (by repeat (first | exact Split.nil | (apply Split.cons; · repeat (first | exact Pick.here | apply Pick.there)) | exact Split.whole _ | exact Split.front _ _ rfl | exact Split.back _ _ rfl | exact Split.app_nil _ | apply Split.skip)) ?_
    refine any_done (by kernel_rfl) ?_
    repeat with_reducible first | refine thenQ_ret ?_ | refine thenQ_normal ?_ | refine thenQ_exit ?_ | refine blockQ_ret ?_ | refine blockQ_normal ?_ | refine blockQ_exit_same ?_ | refine blockQ_exit_ne rfl ?_
    refine body_end (.none) ?_
    exact ⟨rfl, sv2, A2, t, rfl, hown2, hfit, ht⟩
  · refine any_three 0 2 4 rfl rfl rfl (by kernel_rfl) ?_ ?_ ?_
    · refine ow_y (y_load rfl pt_79 (by first | (apply In.own; (repeat (first | exact List.Mem.head _ | apply List.Mem.tail)); done) | (apply In.ro; (repeat (first | exact List.Mem.head _ | apply List.Mem.tail)); done)) rfl) rfl rfl rfl ?_
      refine ow_nil ?_
      refine nextW (by repeat (first | exact Split.nil | (apply Split.cons; · repeat (first | exact Pick.here | apply Pick.there)) | exact Split.whole _ | exact Split.front _ _ rfl | exact Split.back _ _ rfl | exact Split.app_nil _ | apply Split.skip)) ?_
      refine any_two 2 4 rfl rfl (by kernel_rfl) ?_ ?_
      · refine ow_buildSlice (el := 104) (zs := [.nilIface]) (fun i => some (i * 1, 1)) rfl rfl (by repeat (first | exact EvPs.nil | apply EvPs.cons rfl)) (FillL.cons rfl (encT_cells t) rfl (SetLs.cons SetL.here SetLs.nil) FillL.nil) (bs_tok t) (fun b20 => ?_)
        refine ow_nil ?_
        refine nextW (by repeat (first | exact Split.nil | (apply Split.cons; · repeat (first | exact Pick.here | apply Pick.there)) | exact Split.whole _ | exact Split.front _ _ rfl | exact Split.back _ _ rfl | exact Split.app_nil _ | apply Split.skip)) ?_
        refine any_two 3 4 rfl rfl (by kernel_rfl) ?_ ?_
        · refine ow_append' (xs := ts.map encT) (n := ts.length) (news := [encT t]) rfl rfl rfl rfl rw_79 hown (by repeat (first | exact Split.nil | (apply Split.cons; · repeat (first | exact Pick.here | apply Pick.there)) | exact Split.whole _ | exact Split.front _ _ rfl | exact Split.back _ _ rfl | exact Split.app_nil _ | apply Split.skip)) (by first | (apply In.own; (repeat (first | exact List.Mem.head _ | apply List.Mem.tail)); done) | (apply In.ro; (repeat (first | exact List.Mem.head _ | apply List.Mem.tail)); done)) rfl rfl (by intro u hu; simp only [List.mem_singleton] at hu; subst hu; exact encT_one t) (by omega) (by simp only [maxLen]; omega) (by omega) (fun sv2 A2 hown2 => ?_)
          refine ow_nil ?_
          refine nextW (by repeat (first | exact Split.nil | (apply Split.cons; · repeat (first | exact Pick.here | apply Pick.there)) | exact Split.whole _ | exact Split.front _ _ rfl | exact Split.back _ _ rfl | exact Split.app_nil _ | apply Split.skip)) ?_
          refine any_one 4 rfl (by kernel_rfl) ?_
          refine ow_y (y_load rfl pt_4 (by first | (apply In.own; (repeat (first | exact List.Mem.head _ | apply List.Mem.tail)); done) | (apply In.ro; (repeat (first | exact List.Mem.head _ | apply List.Mem.tail)); done)) rfl) rfl rfl rfl ?_
          refine ow_nil ?_
          refine nextW (by repeat (first | exact Split.nil | (apply Split.cons; · repeat (first | exact Pick.here | apply Pick.there)) | exact Split.whole _ | exact Split.front _ _ rfl | exact Split.back _ _ rfl | exact Split.app_nil _ | apply Split.skip)) ?_
          exact any_cut (by kernel_rfl) (by repeat (first | exact EnvLe.nil _ | refine EnvLe.cons rfl ?_)) (by repeat (first | exact Split.nil | (apply Split.cons; · repeat (first | exact Pick.here | apply Pick.there)) | exact Split.whole _ | exact Split.front _ _ rfl | exact Split.back _ _ rfl | exact Split.app_nil _ | apply Split.skip)) (hrest (sv2, A2) hown2)
        · refine ow_y (y_load rfl pt_4 (by first | (apply In.own; (repeat (first | exact List.Mem.head _ | apply List.Mem.tail)); done) | (apply In.ro; (repeat (first | exact List.Mem.head _ | apply List.Mem.tail)); done)) rfl) rfl rfl rfl ?_
          refine ow_nil ?_
          refine nextW (by repeat (first | exact Split.nil | (apply Split.cons; · repeat (first | exact Pick.here | apply Pick.there)) | exact Split.whole _ | exact Split.front _ _ rfl | exact Split.back _ _ rfl | exact Split.app_nil _ | apply Split.skip)) ?_
          refine any_one 3 rfl (by kernel_rfl) ?_
          refine ow_append' (xs := ts.map encT) (n := ts.length) (news := [encT t]) rfl rfl rfl rfl rw_79 hown (by repeat (first | exact Split.nil | (apply Split.cons; · repeat (first | exact Pick.here | apply Pick.there)) | exact Split.whole _ | exact Split.front _ _ rfl | exact Split.back _ _ rfl | exact Split.app_nil _ | apply Split.skip)) (by first | (apply In.own; (repeat (first | exact List.Mem.head _ | apply List.Mem.tail)); done) | (apply In.ro; (repeat (first | exact List.Mem.head _ | apply List.Mem.tail)); done)) rfl rfl (by intro u hu; simp only [List.mem_singleton] at hu; subst hu; exact encT_one t) (by omega) (by simp only [maxLen]; omega) (by omega) (fun sv2 A2 hown2 => ?_)
          refine ow_nil ?_
          refine nextW (by repeat (first | exact Split.nil | (apply Split.cons; · repeat (first | exact Pick.here | apply Pick.there)) | exact Split.whole _ | exact Split.front _ _ rfl | exact Split.back _ _ rfl | exact Split.app_nil _ | apply Split.skip)) ?_
          exact any_cut (by kernel_rfl) (by repeat (first | exact EnvLe.nil _ | refine EnvLe.cons rfl ?_)) (by repeat (first | exact Split.nil | (apply Split.cons; · repeat (first | exact Pick.here | apply Pick.there)) | exact Split.whole _ | exact Split.front _ _ rfl | exact Split.back _ _ rfl | exact Split.app_nil _ | apply Split.skip)) (hrest (sv2, A2) hown2)
      · refine ow_y (y_load rfl pt_4 (by first | (apply In.own; (repeat (first | exact List.Mem.head _ | apply List.Mem.tail)); done) | (apply In.ro; (repeat (first | exact List.Mem.head _ | apply List.Mem.tail)); done)) rfl) rfl rfl rfl ?_
        refine ow_nil ?_
        refine nextW (by repeat (first | exact Split.nil | (apply Split.cons; · repeat (first | exact Pick.here | apply Pick.there)) | exact Split.whole _ | exact Split.front _ _ rfl | exact Split.back _ _ rfl | exact Split.app_nil _ | apply Split.skip)) ?_
        refine any_one 2 rfl (by kernel_rfl) ?_
        refine ow_buildSlice (el := 104) (zs := [.nilIface]) (fun i => some (i * 1, 1)) rfl rfl (by repeat (first | exact EvPs.nil | apply EvPs.cons rfl)) (FillL.cons rfl (encT_cells t) rfl (SetLs.cons SetL.here SetLs.nil) FillL.nil) (bs_tok t) (fun b20 => ?_)
        refine ow_nil ?_
        refine nextW (by repeat (first | exact Split.nil | (apply Split.cons; · repeat (first | exact Pick.here | apply Pick.there)) | exact Split.whole _ | exact Split.front _ _ rfl | exact Split.back _ _ rfl | exact Split.app_nil _ | apply Split.skip)) ?_
        refine any_one 3 rfl (by kernel_rfl) ?_
        refine ow_append' (xs := ts.map encT) (n := ts.length) (news := [encT t]) rfl rfl rfl rfl rw_79 hown (by repeat (first | exact Split.nil | (apply Split.cons; · repeat (first | exact Pick.here | apply Pick.there)) | exact Split.whole _ | exact Split.front _ _ rfl | exact Split.back _ _ rfl | exact Split.app_nil _ | apply Split.skip)) (by first | (apply In.own; (repeat (first | exact List.Mem.head _ | apply List.Mem.tail)); done) | (apply In.ro; (repeat (first | exact List.Mem.head _ | apply List.Mem.tail)); done)) rfl rfl (by intro u hu; simp only [List.mem_singleton] at hu; subst hu; exact encT_one t) (by omega) (by simp only [maxLen]; omega) (by omega) (fun sv2 A2 hown2 => ?_)
        refine ow_nil ?_
        refine nextW (by repeat (first | exact Split.nil | (apply Split.cons; · repeat (first | exact Pick.here | apply Pick.there)) | exact Split.whole _ | exact Split.front _ _ rfl | exact Split.back _ _ rfl | exact Split.app_nil _ | apply Split.skip)) ?_
        exact any_cut (by kernel_rfl) (by repeat (first | exact EnvLe.nil _ | refine EnvLe.cons rfl ?_)) (by repeat (first | exact Split.nil | (apply Split.cons; · repeat (first | exact Pick.here | apply Pick.there)) | exact Split.whole _ | exact Split.front _ _ rfl | exact Split.back _ _ rfl | exact Split.app_nil _ | apply Split.skip)) (hrest (sv2, A2) hown2)
    · refine ow_buildSlice (el := 104) (zs := [.nilIface]) (fun i => some (i * 1, 1)) rfl rfl (by repeat (first | exact EvPs.nil | apply EvPs.cons rfl)) (FillL.cons rfl (encT_cells t) rfl (SetLs.cons SetL.here SetLs.nil) FillL.nil) (bs_tok t) (fun b20 => ?_)
      refine ow_nil ?_
      refine nextW (by repeat (first | exact Split.nil | (apply Split.cons; · repeat (first | exact Pick.here | apply Pick.there)) | exact Split.whole _ | exact Split.front _ _ rfl | exact Split.back _ _ rfl | exact Split.app_nil _ | apply Split.skip)) ?_
      refine any_two 0 4 rfl rfl (by kernel_rfl) ?_ ?_
      · refine ow_y (y_load rfl pt_79 (by first | (apply In.own; (repeat (first | exact List.Mem.head _ | apply List.Mem.tail)); done) | (apply In.ro; (repeat (first | exact List.Mem.head _ | apply List.Mem.tail)); done)) rfl) rfl rfl rfl ?_
        refine ow_nil ?_
        refine nextW (by repeat (first | exact Split.nil | (apply Split.cons; · repeat (first | exact Pick.here | apply Pick.there)) | exact Split.whole _ | exact Split.front _ _ rfl | exact Split.back _ _ rfl | exact Split.app_nil _ | apply Split.skip)) ?_
        refine any_two 3 4 rfl rfl (by kernel_rfl) ?_ ?_
        · refine ow_append' (xs := ts.map encT) (n := ts.length) (news := [encT t]) rfl rfl rfl rfl rw_79 hown (by repeat (first | exact Split.nil | (apply Split.cons; · repeat (first | exact Pick.here | apply Pick.there)) | exact Split.whole _ | exact Split.front _ _ rfl | exact Split.back _ _ rfl | exact Split.app_nil _ | apply Split.skip)) (by first | (apply In.own; (repeat (first | exact List.Mem.head _ | apply List.Mem.tail)); done) | (apply In.ro; (repeat (first | exact List.Mem.head _ | apply List.Mem.tail)); done)) rfl rfl (by intro u hu; simp only [List.mem_singleton] at hu; subst hu; exact encT_one t) (by omega) (by simp only [maxLen]; omega) (by omega) (fun sv2 A2 hown2 => ?_)
          refine ow_nil ?_
          refine nextW (by repeat (first | exact Split.nil | (apply Split.cons; · repeat (first | exact Pick.here | apply Pick.there)) | exact Split.whole _ | exact Split.front _ _ rfl | exact Split.back _ _ rfl | exact Split.app_nil _ | apply Split.skip)) ?_
          refine any_one 4 rfl (by kernel_rfl) ?_
          refine ow_y (y_load rfl pt_4 (by first | (apply In.own; (repeat (first | exact List.Mem.head _ | apply List.Mem.tail)); done) | (apply In.ro; (repeat (first | exact List.Mem.head _ | apply List.Mem.tail)); done)) rfl) rfl rfl rfl ?_
          refine ow_nil ?_
          refine nextW (by repeat (first | exact Split.nil | (apply Split.cons; · repeat (first | exact Pick.here | apply Pick.there)) | exact Split.whole _ | exact Split.front _ _ rfl | exact Split.back _ _ rfl | exact Split.app_nil _ | apply Split.skip)) ?_
          exact any_cut (by kernel_rfl) (by repeat (first | exact EnvLe.nil _ | refine EnvLe.cons rfl ?_)) (by repeat (first | exact Split.nil | (apply Split.cons; · repeat (first | exact Pick.here | apply Pick.there)) | exact Split.whole _ | exact Split.front _ _ rfl | exact Split.back _ _ rfl | exact Split.app_nil _ | apply Split.skip)) (hrest (sv2, A2) hown2)
        · refine ow_y (y_load rfl pt_4 (by first | (apply In.own; (repeat (first | exact List.Mem.head _ | apply List.Mem.tail)); done) | (apply In.ro; (repeat (first | exact List.Mem.head _ | apply List.Mem.tail)); done)) rfl) rfl rfl rfl ?_
          refine ow_nil ?_
          refine nextW (by repeat (first | exact Split.nil | (apply Split.cons; · repeat (first | exact Pick.here | apply Pick.there)) | exact Split.whole _ | exact Split.front _ _ rfl | exact Split.back _ _ rfl | exact Split.app_nil _ | apply Split.skip)) ?_
          refine any_one 3 rfl (by kernel_rfl) ?_
          refine ow_append' (xs := ts.map encT) (n := ts.length) (news := [encT t]) rfl rfl rfl rfl rw_79 hown (by repeat (first | exact Split.nil | (apply Split.cons; · repeat (first | exact Pick.here | apply Pick.there)) | exact Split.whole _ | exact Split.front _ _ rfl | exact Split.back _ _ rfl | exact Split.app_nil _ | apply Split.skip)) (by first | (apply In.own; (repeat (first | exact List.Mem.head _ | apply List.Mem.tail)); done) | (apply In.ro; (repeat (first | exact List.Mem.head _ | apply List.Mem.tail)); done)) rfl rfl (by intro u hu; simp only [List.mem_singleton] at hu; subst hu; exact encT_one t) (by omega) (by simp only [maxLen]; omega) (by omega) (fun sv2 A2 hown2 => ?_)
          refine ow_nil ?_
          refine nextW (by repeat (first | exact Split.nil | (apply Split.cons; · repeat (first | exact Pick.here | apply Pick.there)) | exact Split.whole _ | exact Split.front _ _ rfl | exact Split.back _ _ rfl | exact Split.app_nil _ | apply Split.skip)) ?_
          exact any_cut (by kernel_rfl) (by repeat (first | exact EnvLe.nil _ | refine EnvLe.cons rfl ?_)) (by repeat (first | exact Split.nil | (apply Split.cons; · repeat (first | exact Pick.here | apply Pick.there)) | exact Split.whole _ | exact Split.front _ _ rfl | exact Split.back _ _ rfl | exact Split.app_nil _ | apply Split.skip)) (hrest (sv2, A2) hown2)
      · refine ow_y (y_load rfl pt_4 (by first | (apply In.own; (repeat (first | exact List.Mem.head _ | apply List.Mem.tail)); done) | (apply In.ro; (repeat (first | exact List.Mem.head _ | apply List.Mem.tail)); done)) rfl) rfl rfl rfl ?_
        refine ow_nil ?_
        refine nextW (by repeat (first | exact Split.nil | (apply Split.cons; · repeat (first | exact Pick.here | apply Pick.there)) | exact Split.whole _ | exact Split.front _ _ rfl | exact Split.back _ _ rfl | exact Split.app_nil _ | apply Split.skip)) ?_
        refine any_one 0 rfl (by kernel_rfl) ?_
        refine ow_y (y_load rfl pt_79 (by first | (apply In.own; (repeat (first | exact List.Mem.head _ | apply List.Mem.tail)); done) | (apply In.ro; (repeat (first | exact List.Mem.head _ | apply List.Mem.tail)); done)) rfl) rfl rfl rfl ?_
        refine ow_nil ?_
        refine nextW (by repeat (first | exact Split.nil | (apply Split.cons; · repeat (first | exact Pick.here | apply Pick.there)) | exact Split.whole _ | exact Split.front _ _ rfl | exact Split.back _ _ rfl | exact Split.app_nil _ | apply Split.skip)) ?_
        refine any_one 3 rfl (by kernel_rfl) ?_
        refine ow_append' (xs := ts.map encT) (n := ts.length) (news := [encT t]) rfl rfl rfl rfl rw_79 hown (by repeat (first | exact Split.nil | (apply Split.cons; · repeat (first | exact Pick.here | apply Pick.there)) | exact Split.whole _ | exact Split.front _ _ rfl | exact Split.back _ _ rfl | exact Split.app_nil _ | apply Split.skip)) (by first | (apply In.own; (repeat (first | exact List.Mem.head _ | apply List.Mem.tail)); done) | (apply In.ro; (repeat (first | exact List.Mem.head _ | apply List.Mem.tail)); done)) rfl rfl (by intro u hu; simp only [List.mem_singleton] at hu; subst hu; exact encT_one t) (by omega) (by simp only [maxLen]; omega) (by omega) (fun sv2 A2 hown2 => ?_)
        refine ow_nil ?_
        refine nextW (by repeat (first | exact Split.nil | (apply Split.cons; · repeat (first | exact Pick.here | apply Pick.there)) | exact Split.whole _ | exact Split.front _ _ rfl | exact Split.back _ _ rfl | exact Split.app_nil _ | apply Split.skip)) ?_
        exact any_cut (by kernel_rfl) (by repeat (first | exact EnvLe.nil _ | refine EnvLe.cons rfl ?_)) (by repeat (first | exact Split.nil | (apply Split.cons; · repeat (first | exact Pick.here | apply Pick.there)) | exact Split.whole _ | exact Split.front _ _ rfl | exact Split.back _ _ rfl | exact Split.app_nil _ | apply Split.skip)) (hrest (sv2, A2) hown2)
    · refine ow_y (y_load rfl pt_4 (by first | (apply In.own; (repeat (first | exact List.Mem.head _ | apply List.Mem.tail)); done) | (apply In.ro; (repeat (first | exact List.Mem.head _ | apply List.Mem.tail)); done)) rfl) rfl rfl rfl ?_
      refine ow_nil ?_
      refine nextW (by repeat (first | exact Split.nil | (apply Split.cons; · repeat (first | exact Pick.here | apply Pick.there)) | exact Split.whole _ | exact Split.front _ _ rfl | exact Split.back _ _ rfl | exact Split.app_nil _ | apply Split.skip)) ?_
      refine any_two 0 2 rfl rfl (by kernel_rfl) ?_ ?_
      · refine ow_y (y_load rfl pt_79 (by first | (apply In.own; (repeat (first | exact List.Mem.head _ | apply List.Mem.tail)); done) | (apply In.ro; (repeat (first | exact List.Mem.head _ | apply List.Mem.tail)); done)) rfl) rfl rfl rfl ?_
        refine ow_nil ?_
        refine nextW (by repeat (first | exact Split.nil | (apply Split.cons; · repeat (first | exact Pick.here | apply Pick.there)) | exact Split.whole _ | exact Split.front _ _ rfl | exact Split.back _ _ rfl | exact Split.app_nil _ | apply Split.skip)) ?_
        refine any_one 2 rfl (by kernel_rfl) ?_
        refine ow_buildSlice (el := 104) (zs := [.nilIface]) (fun i => some (i * 1, 1)) rfl rfl (by repeat (first | exact EvPs.nil | apply EvPs.cons rfl)) (FillL.cons rfl (encT_cells t) rfl (SetLs.cons SetL.here SetLs.nil) FillL.nil) (bs_tok t) (fun b20 => ?_)
        refine ow_nil ?_
        refine nextW (by repeat (first | exact Split.nil | (apply Split.cons; · repeat (first | exact Pick.here | apply Pick.there)) | exact Split.whole _ | exact Split.front _ _ rfl | exact Split.back _ _ rfl | exact Split.app_nil _ | apply Split.skip)) ?_
        refine any_one 3 rfl (by kernel_rfl) ?_
        refine ow_append' (xs := ts.map encT) (n := ts.length) (news := [encT t]) rfl rfl rfl rfl rw_79 hown (by repeat (first | exact Split.nil | (apply Split.cons; · repeat (first | exact Pick.here | apply Pick.there)) | exact Split.whole _ | exact Split.front _ _ rfl | exact Split.back _ _ rfl | exact Split.app_nil _ | apply Split.skip)) (by first | (apply In.own; (repeat (first | exact List.Mem.head _ | apply List.Mem.tail)); done) | (apply In.ro; (repeat (first | exact List.Mem.head _ | apply List.Mem.tail)); done)) rfl rfl (by intro u hu; simp only [List.mem_singleton] at hu; subst hu; exact encT_one t) (by omega) (by simp only [maxLen]; omega) (by omega) (fun sv2 A2 hown2 => ?_)
        refine ow_nil ?_
        refine nextW (by repeat (first | exact Split.nil | (apply Split.cons; · repeat (first | exact Pick.here | apply Pick.there)) | exact Split.whole _ | exact Split.front _ _ rfl | exact Split.back _ _ rfl | exact Split.app_nil _ | apply Split.skip)) ?_
        exact any_cut (by kernel_rfl) (by repeat (first | exact EnvLe.nil _ | refine EnvLe.cons rfl ?_)) (by repeat (first | exact Split.nil | (apply Split.cons; · repeat (first | exact Pick.here | apply Pick.there)) | exact Split.whole _ | exact Split.front _ _ rfl | exact Split.back _ _ rfl | exact Split.app_nil _ | apply Split.skip)) (hrest (sv2, A2) hown2)
      · refine ow_buildSlice (el := 104) (zs := [.nilIface]) (fun i => some (i * 1, 1)) rfl rfl (by repeat (first | exact EvPs.nil | apply EvPs.cons rfl)) (FillL.cons rfl (encT_cells t) rfl (SetLs.cons SetL.here SetLs.nil) FillL.nil) (bs_tok t) (fun b20 => ?_)
        refine ow_nil ?_
        refine nextW (by repeat (first | exact Split.nil | (apply Split.cons; · repeat (first | exact Pick.here | apply Pick.there)) | exact Split.whole _ | exact Split.front _ _ rfl | exact Split.back _ _ rfl | exact Split.app_nil _ | apply Split.skip)) ?_
        refine any_one 0 rfl (by kernel_rfl) ?_
        refine ow_y (y_load rfl pt_79 (by first | (apply In.own; (repeat (first | exact List.Mem.head _ | apply List.Mem.tail)); done) | (apply In.ro; (repeat (first | exact List.Mem.head _ | apply List.Mem.tail)); done)) rfl) rfl rfl rfl ?_
        refine ow_nil ?_
        refine nextW (by repeat (first | exact Split.nil | (apply Split.cons; · repeat (first | exact Pick.here | apply Pick.there)) | exact Split.whole _ | exact Split.front _ _ rfl | exact Split.back _ _ rfl | exact Split.app_nil _ | apply Split.skip)) ?_
        refine any_one 3 rfl (by kernel_rfl) ?_
        refine ow_append' (xs := ts.map encT) (n := ts.length) (news := [encT t]) rfl rfl rfl rfl rw_79 hown (by repeat (first | exact Split.nil | (apply Split.cons; · repeat (first | exact Pick.here | apply Pick.there)) | exact Split.whole _ | exact Split.front _ _ rfl | exact Split.back _ _ rfl | exact Split.app_nil _ | apply Split.skip)) (by first | (apply In.own; (repeat (first | exact List.Mem.head _ | apply List.Mem.tail)); done) | (apply In.ro; (repeat (first | exact List.Mem.head _ | apply List.Mem.tail)); done)) rfl rfl (by intro u hu; simp only [List.mem_singleton] at hu; subst hu; exact encT_one t) (by omega) (by simp only [maxLen]; omega) (by omega) (fun sv2 A2 hown2 => ?_)
        refine ow_nil ?_
        refine nextW (by repeat (first | exact Split.nil | (apply Split.cons; · repeat (first | exact Pick.here | apply Pick.there)) | exact Split.whole _ | exact Split.front _ _ rfl | exact Split.back _ _ rfl | exact Split.app_nil _ | apply Split.skip)) ?_
        exact any_cut (by kernel_rfl) (by repeat (first | exact EnvLe.nil _ | refine EnvLe.cons rfl ?_)) (by repeat (first | exact Split.nil | (apply Split.cons; · repeat (first | exact Pick.here | apply Pick.there)) | exact Split.whole _ | exact Split.front _ _ rfl | exact Split.back _ _ rfl | exact Split.app_nil _ | apply Split.skip)) (hrest (sv2, A2) hown2)

end Go.Proofs.YtgppllppddaodaaGreatDoor

/-
  The walk of scan.
-/
namespace Go.Proofs.YtgppllppddaodaaGreatDoor
open Sl Am
open Go
theorem ct_51 : callT Tryz.prog 51 = true := by kernel_rfl
theorem ct_53 : callT Tryz.prog 53 = true := by kernel_rfl
theorem cv_21_5 : convT Tryz.prog 21 5 .u8 = true := by kernel_rfl
theorem zt_3 : zeroT Tryz.prog 3 = some (.int .i64 0) := by kernel_rfl
theorem zt_4 : zeroT Tryz.prog 4 = some (.bool false) := by kernel_rfl
theorem zt_79 : zeroT Tryz.prog 79 = some (.slice none 0 0) := by kernel_rfl
def fr (o : Option Nat) : Int := match o with
  | none => -1
  | some f => f
theorem fr_neg {o : Option Nat} (h : fr o < 0) : o = none := by
  cases o with
  | none => rfl
  | some f => simp only [fr] at h; omega
theorem fr_nonneg {o : Option Nat} (h : ¬ fr o < 0) : ∃ f, o = some f := by
  cases o with
  | none => simp only [fr] at h; omega
  | some f => exact ⟨f, rfl⟩
def curOf (s : List UInt8) (p : Nat) (o : Option Nat) : List UInt8 := match o with
  | none => []
  | some f => (s.drop f).take (p - f)
/-- Behind a word's end. -/
def EndSt (s : List UInt8) (p : Nat) (o : Option Nat) (ts : List Tok) (fine : Bool) (ts' : List Tok) (fine' : Bool) : Prop := match o with
  | none => ts' = ts ∧ fine' = fine
  | some f => ∃ t, ts' = ts ++ [t] ∧ Fit [t] ∧ fine' = (fine && wordOk ((s.drop f).take (p - f))) ∧ (wordOk ((s.drop f).take (p - f)) = true → t = wordTok ((s.drop f).take (p - f)))
theorem fit_append {a b : List Tok} (ha : Fit a) (hb : Fit b) : Fit (a ++ b) := fun n hn => by
  simp only [List.mem_append] at hn
  rcases hn with (h | h) | (h | h)
  · exact ha n (.inl h)
  · exact hb n (.inl h)
  · exact ha n (.inr h)
  · exact hb n (.inr h)
theorem EndSt.fit {s : List UInt8} {p : Nat} {o : Option Nat} {ts ts' : List Tok} {fine fine' : Bool} (h : EndSt s p o ts fine ts' fine') (hf : Fit ts) : Fit ts' := by
  cases o with
  | none => rw [h.1]; exact hf
  | some f => obtain ⟨t, h1, h2, _⟩ := h; rw [h1]; exact fit_append hf h2
theorem EndSt.len {s : List UInt8} {p : Nat} {o : Option Nat} {ts ts' : List Tok} {fine fine' : Bool} (h : EndSt s p o ts fine ts' fine') : ts'.length ≤ ts.length + 1 := by
  cases o with
  | none => rw [h.1]; omega
  | some f => obtain ⟨t, h1, h2, _⟩ := h; rw [h1]; simp
def LineOk (s : List UInt8) (p : Nat) (cur : List UInt8) (ts : List Tok) (fine : Bool) : Prop := (fine = true → scanGo (s.drop p) cur ts = scanGo s [] []) ∧ (fine = false → scanGo s [] [] = none)
theorem cur_snoc {s : List UInt8} {f p : Nat} {c : UInt8} (hf : f ≤ p) (hc : s[p]? = some c) : (s.drop f).take (p + 1 - f) = (s.drop f).take (p - f) ++ [c] := by
  have hlt : p < s.length := by
    rcases Nat.lt_or_ge p s.length with h' | h'
    · exact h'
    · simp [List.getElem?_eq_none h'] at hc
  rw [List.getElem?_eq_getElem hlt] at hc
  have h1 : p + 1 - f = (p - f) + 1 := by omega
  have h2 : p - f < (s.drop f).length := by simp only [List.length_drop]; omega
  rw [h1, List.take_succ_eq_append_getElem h2]
  congr 1
  have : (s.drop f)[p - f] = s[p] := by rw [List.getElem_drop]; congr 1; omega
  rw [this, Option.some.inj hc]
theorem line_word {s : List UInt8} {p : Nat} {c : UInt8} {cur : List UInt8} {ts : List Tok} {fine : Bool} (h : LineOk s p cur ts fine) (hc : s[p]? = some c) (hw : isW c = true) : LineOk s (p + 1) (cur ++ [c]) ts fine :=
  ⟨fun hf => by rw [← h.1 hf, drop_at hc, scanGo, if_pos hw], h.2⟩
/-- What a line's rest says behind a word's end, at c. -/
def restAt (s : List UInt8) (p : Nat) (c : UInt8) (ts : List Tok) : Option (List Tok) := if isSign c then scanGo (s.drop (p + 1)) [] (ts ++ [.sign c.toNat]) else if c.toNat = 32 then scanGo (s.drop (p + 1)) [] ts else none
def MidOk (s : List UInt8) (p : Nat) (c : UInt8) (ts : List Tok) (fine : Bool) : Prop := (fine = true → scanGo s [] [] = restAt s p c ts) ∧ (fine = false → scanGo s [] [] = none)
theorem end_cur {s : List UInt8} {p : Nat} {o : Option Nat} {ts ts' : List Tok} {fine fine' : Bool} (h : EndSt s p o ts fine ts' fine') (ho : ∀ f, o = some f → f < p) (hp : p ≤ s.length) :
    (fine' = true → fine = true ∧ endW (curOf s p o) ts = some ts') ∧ (fine' = false → fine = false ∨ endW (curOf s p o) ts = none) := by
  cases o with
  | none =>
    obtain ⟨h1, h2⟩ := h
    subst h1; subst h2
    exact ⟨fun h => ⟨h, by simp [endW, curOf]⟩, fun h => .inl h⟩
  | some f =>
    obtain ⟨t, h1, _, h2, h3⟩ := h
    have hne := cut_ne (s := s) (ho f rfl) hp
    have he : endW (curOf s p (some f)) ts = if wordOk ((s.drop f).take (p - f)) then some (ts ++ [wordTok ((s.drop f).take (p - f))]) else none := if_neg hne
    rw [he]
    cases hw : wordOk ((s.drop f).take (p - f)) with
    | true =>
      rw [hw, Bool.and_true] at h2
      subst h2
      rw [h1, h3 hw]
      exact ⟨fun h => ⟨h, by rw [if_pos rfl]⟩, fun h => .inl h⟩
    | false =>
      rw [hw, Bool.and_false] at h2
      subst h2
      exact ⟨fun h => (by cases h), fun _ => .inr (by rw [if_neg (by simp)])⟩
theorem mid_of {s : List UInt8} {p : Nat} {c : UInt8} {o : Option Nat} {ts ts' : List Tok} {fine fine' : Bool} (hl : LineOk s p (curOf s p o) ts fine) (hc : s[p]? = some c) (hw : isW c = false) (ho : ∀ f, o = some f → f < p) (hp : p ≤ s.length) (h : EndSt s p o ts fine ts' fine') : MidOk s p c ts' fine' := by
  obtain ⟨h1, h2⟩ := end_cur h ho hp
  refine ⟨fun hf => ?_, fun hf => ?_⟩
  · obtain ⟨h3, h4⟩ := h1 hf
    rw [← hl.1 h3, drop_at hc, scanGo, if_neg (by rw [hw]; simp), h4]; rfl
  · rcases h2 hf with h3 | h3
    · exact hl.2 h3
    · cases hfi : fine with
      | false => exact hl.2 hfi
      | true => rw [← hl.1 hfi, drop_at hc, scanGo, if_neg (by rw [hw]; simp), h3]
theorem far_none {s : List UInt8} {p : Nat} {c : UInt8} {cur : List UInt8} {ts : List Tok} {fine : Bool} (hl : LineOk s p cur ts fine) (hc : s[p]? = some c) (h : 128 ≤ c.toNat) : scanGo s [] [] = none := by
  cases hfi : fine with
  | false => exact hl.2 hfi
  | true =>
    have hw : isW c = false := by simp only [isW, isWordB]; simp; omega
    have hs : isSign c = false := by
      rw [Bool.eq_false_iff]; intro h2
      simp only [isSign, signL, List.contains_iff_mem, List.mem_cons, List.not_mem_nil, or_false] at h2
      rcases h2 with h2 | h2 | h2 | h2 | h2 <;> subst h2 <;> simp at h
    rw [← hl.1 hfi, drop_at hc, scanGo, if_neg (by rw [hw]; simp)]
    cases endW cur ts with
    | none => rfl
    | some a => simp only [hs]; rw [if_neg (by simp), if_neg (by omega)]
theorem next_case (s : List UInt8) (p : Nat) : s.length ≤ p ∨ (∃ c, s[p]? = some c ∧ p < s.length ∧ c.toNat < 128) ∨ (∃ (c : UInt8) (r wd : Nat), s[p]? = some c ∧ 128 ≤ c.toNat ∧ p < s.length ∧ Utf8.decode (bs s) p = (r, wd) ∧ 128 ≤ r ∧ r ≤ 0x10FFFF ∧ 1 ≤ wd ∧ p + wd ≤ s.length) := by
  rcases Nat.lt_or_ge p s.length with h | h
  · have hc : s[p]? = some s[p] := List.getElem?_eq_getElem h
    rcases Nat.lt_or_ge s[p].toNat 128 with h2 | h2
    · exact .inr (.inl ⟨_, hc, h, h2⟩)
    · obtain ⟨r, wd, h3, h4, h5, h6, h7⟩ := Sl.decode_far hc h2
      exact .inr (.inr ⟨_, r, wd, hc, h2, h, h3, h4, h5, h6, h7⟩)
  · exact .inl h
theorem index_cut : ∀ (s : List UInt8), (Lib.indexByte s 59 = -1 ∧ cutR s = s) ∨ ∃ k : Nat, Lib.indexByte s 59 = k ∧ k ≤ s.length ∧ s.take k = cutR s
  | [] => .inl ⟨rfl, rfl⟩
  | c :: l => by
    by_cases h : c = 59
    · subst h
      exact .inr ⟨0, by simp [Lib.indexByte], by omega, by simp [cutR]⟩
    · have hb : (c == 59) = false := by simpa using h
      rcases index_cut l with ⟨h1, h2⟩ | ⟨k, h1, h2, h3⟩
      · left
        refine ⟨by simp [Lib.indexByte, hb, h1], ?_⟩
        simp only [cutR] at h2 ⊢
        rw [List.takeWhile_cons, if_pos (by simpa using h), h2]
      · right
        refine ⟨k + 1, ?_, by simp; omega, ?_⟩
        · have h4 : ¬ ((k : Int) == -1) = true := by simp
          rw [Lib.indexByte, hb, h1]; simp
        · simp only [cutR] at h3 ⊢
          rw [List.takeWhile_cons, if_pos (by simpa using h), List.take_succ_cons, h3]
theorem scanEnd_c (R A : Heap) (bf bs' bl bx p : Nat) (o : Option Nat) (s : List UInt8) (sv : Value) (ts : List Tok) (fine : Bool) (hR : Glob R) (ho : ∀ f, o = some f → f < p) (hp : p ≤ s.length) (hs : s.length ≤ 1099511627776) (hts : ts.length ≤ 1099511627776) (hown : OwnS 104 1 sv A ts.length (ts.map encT)) :
    FnW Tryz.prog 51 [.int .i64 p, .pointer (some ⟨bf, 0, none⟩), .pointer (some ⟨bs', 0, none⟩), .pointer (some ⟨bl, 0, none⟩), .pointer (some ⟨bx, 0, none⟩)] R ([(bf, cb [.int .i64 (fr o)] 3), (bs', cb [str s] 9), (bl, cb [sv] 79), (bx, cb [.bool fine] 4)] ++ A)
      fun v L' => ∃ C' A', L' = C' ++ A' ∧ v = .tuple #[] ∧ ∃ sv' ts' fine', C' = [(bf, cb [.int .i64 (-1)] 3), (bs', cb [str s] 9), (bl, cb [sv'] 79), (bx, cb [.bool fine'] 4)] ∧ OwnS 104 1 sv' A' ts'.length (ts'.map encT) ∧ EndSt s p o ts fine ts' fine' := by
  cases o with
  | none => exact (scanEnd_no R A bf bs' bl bx p (-1) s sv fine (by omega)).mono fun v L' ⟨h1, h2⟩ => ⟨_, A, h2, h1, sv, ts, fine, rfl, hown, rfl, rfl⟩
  | some f =>
    have key : ∀ (t : Tok) (sv' : Value) (A' : Heap), OwnS 104 1 sv' A' (ts.length + 1) (ts.map encT ++ [encT t]) → OwnS 104 1 sv' A' (ts ++ [t]).length ((ts ++ [t]).map encT) := fun t sv' A' h => by
      rw [List.length_append, List.map_append]; exact h
    cases fine with
    | true => exact (scanEnd_true R A bf bs' bl bx f p s sv ts hR (ho f rfl) hp hs hts hown).mono fun v L' ⟨h1, sv', A', t, h2, h3, h4, h5⟩ => ⟨_, A', h2, h1, sv', ts ++ [t], _, rfl, key t sv' A' h3, t, rfl, h4, rfl, h5⟩
    | false => exact (scanEnd_false R A bf bs' bl bx f p s sv ts hR (ho f rfl) hp hs hts hown).mono fun v L' ⟨h1, sv', A', t, h2, h3, h4, h5⟩ => ⟨_, A', h2, h1, sv', ts ++ [t], _, rfl, key t sv' A' h3, t, rfl, h4, rfl, h5⟩
theorem scanEnd_t {R A L F : Heap} (b1 b5 b6 b7 p : Nat) (o : Option Nat) (s : List UInt8) (sv : Value) (ts : List Tok) (fine : Bool) (hR : Glob R) (ho : ∀ f, o = some f → f < p) (hp : p ≤ s.length) (hs : s.length ≤ 1099511627776) (hts : ts.length ≤ 1099511627776) (hown : OwnS 104 1 sv A ts.length (ts.map encT))
    (hsp : Split L ((b7, cb [.int .i64 (fr o)] 3) :: (b1, cb [str s] 9) :: (b5, cb [sv] 79) :: (b6, cb [.bool fine] 4) :: A) F) :
    FnW Tryz.prog 51 ([.int .i64 p] ++ [.pointer (some ⟨b7, 0, none⟩), .pointer (some ⟨b1, 0, none⟩), .pointer (some ⟨b5, 0, none⟩), .pointer (some ⟨b6, 0, none⟩)]) R L
      fun v L' => ∃ sv' ts' fine' A', v = .tuple #[] ∧ L' = (b7, cb [.int .i64 (-1)] 3) :: (b1, cb [str s] 9) :: (b5, cb [sv'] 79) :: (b6, cb [.bool fine'] 4) :: (F ++ A') ∧ OwnS 104 1 sv' A' ts'.length (ts'.map encT) ∧ EndSt s p o ts fine ts' fine' :=
  ((scanEnd_c R A b7 b1 b5 b6 p o s sv ts fine hR ho hp hs hts hown).tail (G := fun v C' A' => v = .tuple #[] ∧ ∃ sv' ts' fine', C' = [(b7, cb [.int .i64 (-1)] 3), (b1, cb [str s] 9), (b5, cb [sv'] 79), (b6, cb [.bool fine'] 4)] ∧ OwnS 104 1 sv' A' ts'.length (ts'.map encT) ∧ EndSt s p o ts fine ts' fine') hsp).mono
    fun v L' ⟨C', A', hL, hv, sv', ts', fine', hC, h1, h2⟩ => ⟨sv', ts', fine', A', hv, by rw [hL, hC]; rfl, h1, h2⟩
def ScanPost (s0 : List UInt8) (v : Value) (A : Heap) : Prop := ∃ sv ts, v = .tuple #[sv, .bool (scan s0).isSome] ∧ OwnS 104 1 sv A ts.length (ts.map encT) ∧ Fit ts ∧ ts.length ≤ 2 * s0.length + 1 ∧ (∀ l, scan s0 = some l → ts = l)
theorem cutR_len (s : List UInt8) : (cutR s).length ≤ s.length := by
  rcases index_cut s with ⟨_, h⟩ | ⟨k, _, h1, h2⟩
  · rw [h]; omega
  · rw [← h2, List.length_take]; omega
theorem scan_end {s0 s : List UInt8} {o : Option Nat} {ts ts' : List Tok} {fine fine' : Bool} {sv : Value} {A : Heap} (hs : s = cutR s0) (hl : LineOk s s.length (curOf s s.length o) ts fine) (ho : ∀ f, o = some f → f < s.length) (h : EndSt s s.length o ts fine ts' fine') (hown : OwnS 104 1 sv A ts'.length (ts'.map encT)) (hf : Fit ts) (hts : ts.length ≤ 2 * s.length) : ScanPost s0 (.tuple #[sv, .bool fine']) A := by
  obtain ⟨h1, h2⟩ := end_cur h ho (Nat.le_refl _)
  have hd : s.drop s.length = [] := by simp
  have key : (fine' = true → scan s0 = some ts') ∧ (fine' = false → scan s0 = none) := by
    refine ⟨fun hq => ?_, fun hq => ?_⟩
    · obtain ⟨h3, h4⟩ := h1 hq
      have := hl.1 h3
      rw [hd, scanGo, h4] at this
      rw [scan, ← hs, this]
    · rw [scan, ← hs]
      rcases h2 hq with h3 | h3
      · exact hl.2 h3
      · cases hfi : fine with
        | false => exact hl.2 hfi
        | true => rw [← hl.1 hfi, hd, scanGo, h3]
  refine ⟨sv, ts', ?_, hown, h.fit hf, ?_, ?_⟩
  · cases hq : fine' with
    | true => rw [key.1 hq]; rfl
    | false => rw [key.2 hq]; rfl
  · have := h.len
    have := cutR_len s0
    rw [← hs] at this
    omega
  · intro l hl'
    cases hq : fine' with
    | true => rw [key.1 hq] at hl'; exact Option.some.inj hl'
    | false => rw [key.2 hq] at hl'; cases hl'

set_option maxRecDepth 100000 in
set_option maxHeartbeats 8000000 in
theorem scan_w : ∀ (R : Heap) (s0 : List UInt8), Glob R → s0.length ≤ 268435456 → FnW Tryz.prog 35 [str s0] R [] fun v L' => ∃ A F, Split L' A F ∧ ScanPost s0 v A := by
  intro R s0 hR hs0
  refine fn_of_body Tryz.func35 rfl Tryz.ntmps35 Tryz.results35 (by rfl) ?_
  refine cw_regseq ?_
  refine ow_box rfl rfl rfl rfl (fun b1 => ?_)
  refine ow_y (y_assign rfl) rfl rfl rfl ?_
  refine ow_y (y_assign rfl) rfl rfl rfl ?_
  refine ow_nil ?_
  refine cw_seq_cut (α := List UInt8) (fun x => [(1, .pointer (some ⟨b1, 0, none⟩))]) (fun x => [(b1, cb [str x] 9)]) (fun x => x = cutR s0) ?_ ?_
  · refine cw_regseq ?_
    refine ow_y (y_load rfl pt_9 (by first | (apply In.own; (repeat (first | exact List.Mem.head _ | apply List.Mem.tail)); done) | (apply In.ro; (repeat (first | exact List.Mem.head _ | apply List.Mem.tail)); done)) rfl) rfl rfl rfl ?_
    refine ow_call rfl rfl (by rfl) ct_23 (indexByte_c R _ s0 59) ?_
    rintro _ _ ⟨rfl, rfl⟩
    refine ow_y (y_assign rfl) rfl rfl rfl ?_
    refine ow_nil ?_
    refine cw_regseq ?_
    refine ow_y (y_move rfl) rfl rfl rfl ?_
    refine ow_cmp rfl rfl rfl rfl rfl (fun h14 => ?_) (fun h14 => ?_)
    · simp only [cmpP] at h14
      refine ow_nil ?_
      refine cw_if_t rfl ?_
      refine cw_region ?_
      rcases index_cut s0 with ⟨hk, _⟩ | ⟨k, hk, hkl, hcut⟩
      · rw [hk] at h14; exact absurd h14 (by decide)
      rw [hk]
      refine ow_y (y_load rfl pt_9 (by first | (apply In.own; (repeat (first | exact List.Mem.head _ | apply List.Mem.tail)); done) | (apply In.ro; (repeat (first | exact List.Mem.head _ | apply List.Mem.tail)); done)) rfl) rfl rfl rfl ?_
      refine ow_y (y_move rfl) rfl rfl rfl ?_
      refine ow_y (y_sliceStr (vlo := none) (vhi := some (.int .i64 (k : Int))) (i := 0) (j := k) rfl st_9 rfl rfl (.inl ⟨rfl, rfl⟩) (.inr rfl) (by omega) (by omega)) rfl rfl rfl ?_
      refine ow_store rfl rfl rfl sz_9 rfl (by repeat (first | exact Upd.here | apply Upd.there)) (by repeat (first | exact SetL.here | apply SetL.there)) ?_
      refine ow_nil ?_
      repeat with_reducible first | refine thenQ_ret ?_ | refine thenQ_normal ?_ | refine thenQ_exit ?_ | refine blockQ_ret ?_ | refine blockQ_normal ?_ | refine blockQ_exit_same ?_ | refine blockQ_exit_ne rfl ?_
      refine ⟨((s0.drop 0).take (k - 0)), _, ?_, (by repeat (first | exact EnvLe.nil _ | refine EnvLe.cons rfl ?_)), (by repeat (first | exact Split.nil | (apply Split.cons; · repeat (first | exact Pick.here | apply Pick.there)) | exact Split.whole _ | exact Split.front _ _ rfl | exact Split.back _ _ rfl | exact Split.app_nil _ | apply Split.skip))⟩
      simpa using hcut
    · simp only [cmpP] at h14
      refine ow_nil ?_
      refine cw_if_f rfl ?_
      refine cw_skip ?_
      repeat with_reducible first | refine thenQ_ret ?_ | refine thenQ_normal ?_ | refine thenQ_exit ?_ | refine blockQ_ret ?_ | refine blockQ_normal ?_ | refine blockQ_exit_same ?_ | refine blockQ_exit_ne rfl ?_
      refine ⟨s0, _, ?_, (by repeat (first | exact EnvLe.nil _ | refine EnvLe.cons rfl ?_)), (by repeat (first | exact Split.nil | (apply Split.cons; · repeat (first | exact Pick.here | apply Pick.there)) | exact Split.whole _ | exact Split.front _ _ rfl | exact Split.back _ _ rfl | exact Split.app_nil _ | apply Split.skip))⟩
      rcases index_cut s0 with ⟨_, h⟩ | ⟨k, hk, _, _⟩
      · exact h.symm
      · rw [hk] at h14; exact absurd (by omega) h14
  · intro s hs
    have hsl : s.length ≤ s0.length := by rw [hs]; exact cutR_len s0
    refine cw_regseq ?_
    refine ow_alloc rfl rfl zt_79 rfl (fun b5 => ?_)
    refine ow_nil ?_
    refine cw_regseq ?_
    refine ow_alloc rfl rfl zt_4 rfl (fun b6 => ?_)
    refine ow_alloc rfl rfl zt_3 rfl (fun b7 => ?_)
    refine ow_store rfl rfl rfl sz_4 rfl (by repeat (first | exact Upd.here | apply Upd.there)) (by repeat (first | exact SetL.here | apply SetL.there)) ?_
    refine ow_store rfl rfl rfl sz_3 rfl (by repeat (first | exact Upd.here | apply Upd.there)) (by repeat (first | exact SetL.here | apply SetL.there)) ?_
    refine ow_nil ?_
    refine cw_regseq ?_
    refine ow_y (y_makeFunc (fs := []) (cs := [.pointer (some ⟨b7, 0, none⟩), .pointer (some ⟨b1, 0, none⟩), .pointer (some ⟨b5, 0, none⟩), .pointer (some ⟨b6, 0, none⟩)]) rfl rfl) rfl rfl rfl ?_
    refine ow_y (y_assign rfl) rfl rfl rfl ?_
    refine ow_nil ?_
    refine cw_seq ?_
    refine cw_regseq ?_
    refine ow_y (y_load rfl pt_9 (by first | (apply In.own; (repeat (first | exact List.Mem.head _ | apply List.Mem.tail)); done) | (apply In.ro; (repeat (first | exact List.Mem.head _ | apply List.Mem.tail)); done)) rfl) rfl rfl rfl ?_
    refine ow_rangeStr rfl rfl rfl st_9 (fun b20 => ?_)
    refine ow_nil ?_
    refine cw_block ?_
    refine cw_loop (α := Nat × Option Nat × List Tok × Bool × Value × Heap) (fun x => [(1, .pointer (some ⟨b1, 0, none⟩)), (5, .pointer (some ⟨b5, 0, none⟩)), (6, .pointer (some ⟨b6, 0, none⟩)), (7, .pointer (some ⟨b7, 0, none⟩)), (8, .func (.func 51) #[] #[.pointer (some ⟨b7, 0, none⟩), .pointer (some ⟨b1, 0, none⟩), .pointer (some ⟨b5, 0, none⟩), .pointer (some ⟨b6, 0, none⟩)]), (20, .pointer (some ⟨b20, 0, none⟩))]) (fun x => (b20, .stringIter (bs s) (x.1)) :: (b7, cb [.int .i64 (fr x.2.1)] 3) :: (b1, cb [str s] 9) :: (b5, cb [x.2.2.2.2.1] 79) :: (b6, cb [.bool x.2.2.2.1] 4) :: x.2.2.2.2.2) (fun x => x.1 ≤ s.length ∧ OwnS 104 1 x.2.2.2.2.1 x.2.2.2.2.2 x.2.2.1.length (x.2.2.1.map encT) ∧ Fit x.2.2.1 ∧ x.2.2.1.length ≤ 2 * x.1 ∧ (∀ f, x.2.1 = some f → f < x.1) ∧ LineOk s x.1 (curOf s x.1 x.2.1) x.2.2.1 x.2.2.2.1) (fun x => s.length - x.1) (0, none, [], true, .slice none 0 0, []) ?_ (by repeat (first | exact EnvLe.nil _ | refine EnvLe.cons rfl ?_)) (by repeat (first | exact Split.nil | (apply Split.cons; · repeat (first | exact Pick.here | apply Pick.there)) | exact Split.whole _ | exact Split.front _ _ rfl | exact Split.back _ _ rfl | exact Split.app_nil _ | apply Split.skip)) ?_
    · exact ⟨Nat.zero_le _, .nil, (fun n hn => by rcases hn with hn | hn <;> cases hn), by simp, (fun f hf => by cases hf), (fun _ => rfl), fun h => by cases h⟩
    · rintro ⟨p, o, ts, fine, sv, A⟩ ⟨hp, hown, hfit, hlen, ho, hline⟩
      simp only at hp hown hfit hlen ho hline
      refine cw_regseq ?_
      rcases next_case s p with hge | ⟨c, hc, hlt, hasc⟩ | ⟨c, r, wd, hc, hbig, hlt, hdec, hr1, hr2, hwd, hle⟩
      · refine ow_next_over rfl rfl rfl (by repeat (first | exact List.Mem.head _ | apply List.Mem.tail)) hge ?_
        refine ow_y (y_extract rfl rfl) rfl rfl rfl ?_
        refine ow_nil ?_
        refine cw_seq ?_
        refine cw_if_f rfl ?_
        refine cw_exit ?_
        repeat with_reducible first | refine thenQ_ret ?_ | refine thenQ_normal ?_ | refine thenQ_exit ?_ | refine blockQ_ret ?_ | refine blockQ_normal ?_ | refine blockQ_exit_same ?_ | refine blockQ_exit_ne rfl ?_
        refine cw_regseq ?_
        have hpl : p = s.length := by omega
        subst hpl
        refine ow_y (y_move rfl) rfl rfl rfl ?_
        refine ow_y (y_load rfl pt_9 (by first | (apply In.own; (repeat (first | exact List.Mem.head _ | apply List.Mem.tail)); done) | (apply In.ro; (repeat (first | exact List.Mem.head _ | apply List.Mem.tail)); done)) rfl) rfl rfl rfl ?_
        refine ow_y (y_lenStr rfl st_9) rfl rfl rfl ?_
        refine ow_callVal (vs := [.int .i64 ((s.length : Nat) : Int)]) (cs := [.pointer (some ⟨b7, 0, none⟩), .pointer (some ⟨b1, 0, none⟩), .pointer (some ⟨b5, 0, none⟩), .pointer (some ⟨b6, 0, none⟩)]) rfl rfl rfl rfl ct_51 (scanEnd_t b1 b5 b6 b7 s.length o s sv ts fine hR ho (Nat.le_refl _) (by omega) (by omega) hown (by repeat (first | exact Split.nil | (apply Split.cons; · repeat (first | exact Pick.here | apply Pick.there)) | exact Split.whole _ | exact Split.front _ _ rfl | exact Split.back _ _ rfl | exact Split.app_nil _ | apply Split.skip))) ?_
        rintro _ _ ⟨sv2, ts2, fine2, A2, rfl, rfl, hown2, hend⟩
        refine ow_nil ?_
        refine cw_drawseq [(b5, cb [sv2] 79), (b6, cb [.bool fine2] 4)] (by kernel_rfl) rfl ?_
        refine any_take 0 rfl (by kernel_rfl) (by kernel_rfl) (by kernel_rfl) rfl rfl rfl (by repeat (first | exact Split.nil | (apply Split.cons; · repeat (first | exact Pick.here | apply Pick.there)) | exact Split.whole _ | exact Split.front _ _ rfl | exact Split.back _ _ rfl | exact Split.app_nil _ | apply Split.skip)) (y_load rfl pt_79 (by first | (apply In.own; (repeat (first | exact List.Mem.head _ | apply List.Mem.tail)); done) | (apply In.ro; (repeat (first | exact List.Mem.head _ | apply List.Mem.tail)); done)) rfl) ?_
        refine any_take 1 rfl (by kernel_rfl) (by kernel_rfl) (by kernel_rfl) rfl rfl rfl (by repeat (first | exact Split.nil | (apply Split.cons; · repeat (first | exact Pick.here | apply Pick.there)) | exact Split.whole _ | exact Split.front _ _ rfl | exact Split.back _ _ rfl | exact Split.app_nil _ | apply Split.skip)) (y_load rfl pt_4 (by first | (apply In.own; (repeat (first | exact List.Mem.head _ | apply List.Mem.tail)); done) | (apply In.ro; (repeat (first | exact List.Mem.head _ | apply List.Mem.tail)); done)) rfl) ?_
        refine any_take 2 rfl (by kernel_rfl) (by kernel_rfl) (by kernel_rfl) rfl rfl rfl (by repeat (first | exact Split.nil | (apply Split.cons; · repeat (first | exact Pick.here | apply Pick.there)) | exact Split.whole _ | exact Split.front _ _ rfl | exact Split.back _ _ rfl | exact Split.app_nil _ | apply Split.skip)) (y_assign rfl) ?_
        refine any_take 3 rfl (by kernel_rfl) (by kernel_rfl) (by kernel_rfl) rfl rfl rfl (by repeat (first | exact Split.nil | (apply Split.cons; · repeat (first | exact Pick.here | apply Pick.there)) | exact Split.whole _ | exact Split.front _ _ rfl | exact Split.back _ _ rfl | exact Split.app_nil _ | apply Split.skip)) (y_assign rfl) ?_
        refine any_done (by kernel_rfl) ?_
        refine cw_ret ?_
        repeat with_reducible first | refine thenQ_ret ?_ | refine thenQ_normal ?_ | refine thenQ_exit ?_ | refine blockQ_ret ?_ | refine blockQ_normal ?_ | refine blockQ_exit_same ?_ | refine blockQ_exit_ne rfl ?_
        refine body_ret (.two (.tmp rfl) (.tmp rfl)) ?_
        exact ⟨A2, _, (by repeat (first | exact Split.nil | (apply Split.cons; · repeat (first | exact Pick.here | apply Pick.there)) | exact Split.whole _ | exact Split.front _ _ rfl | exact Split.back _ _ rfl | exact Split.app_nil _ | apply Split.skip)), scan_end hs hline ho hend hown2 hfit hlen⟩
      · refine ow_next_step (c := c.toNat) (wd := 1) rfl rfl rfl hlt (Sl.decode_ascii hc hasc) (by repeat (first | exact Upd.here | apply Upd.there)) ?_
        refine ow_y (y_extract rfl rfl) rfl rfl rfl ?_
        refine ow_nil ?_
        refine cw_seq ?_
        refine cw_if_t rfl ?_
        refine cw_skip ?_
        repeat with_reducible first | refine thenQ_ret ?_ | refine thenQ_normal ?_ | refine thenQ_exit ?_ | refine blockQ_ret ?_ | refine blockQ_normal ?_ | refine blockQ_exit_same ?_ | refine blockQ_exit_ne rfl ?_
        refine cw_block ?_
        refine cw_regseq ?_
        refine ow_y (y_extract rfl rfl) rfl rfl rfl ?_
        refine ow_y (y_extract rfl rfl) rfl rfl rfl ?_
        refine ow_y (y_assign rfl) rfl rfl rfl ?_
        refine ow_y (y_assign rfl) rfl rfl rfl ?_
        refine ow_nil ?_
        refine cw_seq ?_
        refine cw_regseq ?_
        refine ow_y (y_move rfl) rfl rfl rfl ?_
        refine ow_call rfl rfl (by rfl) ct_53 (isWord_c R _ _) ?_
        rintro _ _ ⟨rfl, rfl⟩
        refine ow_nil ?_
        refine cw_if rfl (fun hc1 => ?_) (fun hc1 => ?_)
        · have hw : isW c = _ := hc1
          refine cw_seq ?_
          refine cw_regseq ?_
          refine ow_y (y_load rfl pt_3 (by first | (apply In.own; (repeat (first | exact List.Mem.head _ | apply List.Mem.tail)); done) | (apply In.ro; (repeat (first | exact List.Mem.head _ | apply List.Mem.tail)); done)) rfl) rfl rfl rfl ?_
          refine ow_cmp rfl rfl rfl rfl rfl (fun h28 => ?_) (fun h28 => ?_)
          · simp only [cmpP] at h28
            refine ow_nil ?_
            refine cw_if_t rfl ?_
            refine cw_region ?_
            refine ow_y (y_move rfl) rfl rfl rfl ?_
            refine ow_store rfl rfl rfl sz_3 rfl (by repeat (first | exact Upd.here | apply Upd.there)) (by repeat (first | exact SetL.here | apply SetL.there)) ?_
            refine ow_nil ?_
            repeat with_reducible first | refine thenQ_ret ?_ | refine thenQ_normal ?_ | refine thenQ_exit ?_ | refine blockQ_ret ?_ | refine blockQ_normal ?_ | refine blockQ_exit_same ?_ | refine blockQ_exit_ne rfl ?_
            refine cw_exit ?_
            repeat with_reducible first | refine thenQ_ret ?_ | refine thenQ_normal ?_ | refine thenQ_exit ?_ | refine blockQ_ret ?_ | refine blockQ_normal ?_ | refine blockQ_exit_same ?_ | refine blockQ_exit_ne rfl ?_
            refine ⟨(p + 1, some p, ts, fine, sv, A), _, ?_, ?_, (by repeat (first | exact EnvLe.nil _ | refine EnvLe.cons rfl ?_)), (by repeat (first | exact Split.nil | (apply Split.cons; · repeat (first | exact Pick.here | apply Pick.there)) | exact Split.whole _ | exact Split.front _ _ rfl | exact Split.back _ _ rfl | exact Split.app_nil _ | apply Split.skip))⟩
            · refine ⟨hlt, hown, hfit, by simp only; omega, (fun f hf => by cases hf; simp only; omega), ?_⟩
              have ho1 := fr_neg h28
              subst ho1
              have h1 := line_word hline hc hw
              have h2 := cur_snoc (Nat.le_refl p) hc
              simp only [Nat.sub_self, List.take_zero, List.nil_append] at h2
              simp only [curOf] at h1 ⊢
              rw [h2]; exact h1
            · simp only; omega
          · simp only [cmpP] at h28
            refine ow_nil ?_
            refine cw_if_f rfl ?_
            refine cw_skip ?_
            repeat with_reducible first | refine thenQ_ret ?_ | refine thenQ_normal ?_ | refine thenQ_exit ?_ | refine blockQ_ret ?_ | refine blockQ_normal ?_ | refine blockQ_exit_same ?_ | refine blockQ_exit_ne rfl ?_
            refine cw_exit ?_
            repeat with_reducible first | refine thenQ_ret ?_ | refine thenQ_normal ?_ | refine thenQ_exit ?_ | refine blockQ_ret ?_ | refine blockQ_normal ?_ | refine blockQ_exit_same ?_ | refine blockQ_exit_ne rfl ?_
            refine ⟨(p + 1, o, ts, fine, sv, A), _, ?_, ?_, (by repeat (first | exact EnvLe.nil _ | refine EnvLe.cons rfl ?_)), (by repeat (first | exact Split.nil | (apply Split.cons; · repeat (first | exact Pick.here | apply Pick.there)) | exact Split.whole _ | exact Split.front _ _ rfl | exact Split.back _ _ rfl | exact Split.app_nil _ | apply Split.skip))⟩
            · refine ⟨hlt, hown, hfit, by simp only; omega, (fun f hf => Nat.lt_succ_of_lt (ho f hf)), ?_⟩
              obtain ⟨f, ho1⟩ := fr_nonneg h28
              subst ho1
              have h1 := line_word hline hc hw
              have h2 := cur_snoc (Nat.le_of_lt (ho f rfl)) hc
              simp only [curOf] at h1 ⊢
              rw [h2]; exact h1
            · simp only; omega
        · have hw : isW c = _ := hc1
          refine cw_skip ?_
          repeat with_reducible first | refine thenQ_ret ?_ | refine thenQ_normal ?_ | refine thenQ_exit ?_ | refine blockQ_ret ?_ | refine blockQ_normal ?_ | refine blockQ_exit_same ?_ | refine blockQ_exit_ne rfl ?_
          refine cw_seq_cut (α := List Tok × Bool × Value × Heap) (fun x => [(1, .pointer (some ⟨b1, 0, none⟩)), (5, .pointer (some ⟨b5, 0, none⟩)), (6, .pointer (some ⟨b6, 0, none⟩)), (7, .pointer (some ⟨b7, 0, none⟩)), (8, .func (.func 51) #[] #[.pointer (some ⟨b7, 0, none⟩), .pointer (some ⟨b1, 0, none⟩), .pointer (some ⟨b5, 0, none⟩), .pointer (some ⟨b6, 0, none⟩)]), (20, .pointer (some ⟨b20, 0, none⟩)), (9, .int .i64 (p : Int)), (10, .int .i32 ((c.toNat : Nat) : Int))]) (fun x => (b20, .stringIter (bs s) (p + 1)) :: (b7, cb [.int .i64 (-1)] 3) :: (b1, cb [str s] 9) :: (b5, cb [x.2.2.1] 79) :: (b6, cb [.bool x.2.1] 4) :: x.2.2.2) (fun x => OwnS 104 1 x.2.2.1 x.2.2.2 x.1.length (x.1.map encT) ∧ Fit x.1 ∧ x.1.length ≤ 2 * p + 1 ∧ MidOk s p c x.1 x.2.1) ?_ ?_
          · refine cw_region ?_
            refine ow_y (y_move rfl) rfl rfl rfl ?_
            refine ow_y (y_move rfl) rfl rfl rfl ?_
            refine ow_callVal (vs := [.int .i64 ((p : Nat) : Int)]) (cs := [.pointer (some ⟨b7, 0, none⟩), .pointer (some ⟨b1, 0, none⟩), .pointer (some ⟨b5, 0, none⟩), .pointer (some ⟨b6, 0, none⟩)]) rfl rfl rfl rfl ct_51 (scanEnd_t b1 b5 b6 b7 p o s sv ts fine hR ho hp (by omega) (by omega) hown (by repeat (first | exact Split.nil | (apply Split.cons; · repeat (first | exact Pick.here | apply Pick.there)) | exact Split.whole _ | exact Split.front _ _ rfl | exact Split.back _ _ rfl | exact Split.app_nil _ | apply Split.skip))) ?_
            rintro _ _ ⟨sv2, ts2, fine2, A2, rfl, rfl, hown2, hend⟩
            refine ow_nil ?_
            repeat with_reducible first | refine thenQ_ret ?_ | refine thenQ_normal ?_ | refine thenQ_exit ?_ | refine blockQ_ret ?_ | refine blockQ_normal ?_ | refine blockQ_exit_same ?_ | refine blockQ_exit_ne rfl ?_
            refine ⟨(ts2, fine2, sv2, A2), _, ?_, (by repeat (first | exact EnvLe.nil _ | refine EnvLe.cons rfl ?_)), (by repeat (first | exact Split.nil | (apply Split.cons; · repeat (first | exact Pick.here | apply Pick.there)) | exact Split.whole _ | exact Split.front _ _ rfl | exact Split.back _ _ rfl | exact Split.app_nil _ | apply Split.skip))⟩
            exact ⟨hown2, hend.fit hfit, by have := hend.len; simp only; omega, mid_of hline hc hw ho hp hend⟩
          · rintro ⟨ts2, fine2, sv2, A2⟩ ⟨hown2, hfit2, hlen2, hmid⟩
            simp only at hown2 hfit2 hlen2 hmid
            refine cw_block ?_
            refine cw_regseq ?_
            refine ow_y (y_move rfl) rfl rfl rfl ?_
            refine ow_cmp_t rfl rfl rfl rfl rfl (by simp only [cmpP]; try omega) ?_
            refine ow_y (y_move rfl) rfl rfl rfl ?_
            refine ow_y (y_move rfl) rfl rfl rfl ?_
            refine ow_y (y_conv_u8 rfl cv_21_5 (by omega) (by omega)) rfl rfl rfl ?_
            refine ow_call rfl rfl (by rfl) ct_23 (indexByte_c R _ signL c) ?_
            rintro _ _ ⟨rfl, rfl⟩
            refine ow_cmp rfl rfl rfl rfl rfl (fun h40 => ?_) (fun h40 => ?_)
            · simp only [cmpP] at h40
              refine ow_y (y_pick_t rfl rfl) rfl rfl rfl ?_
              refine ow_y (y_assign rfl) rfl rfl rfl ?_
              refine ow_nil ?_
              refine cw_if_t rfl ?_
              refine cw_region ?_
              refine ow_y (y_load rfl pt_79 (by first | (apply In.own; (repeat (first | exact List.Mem.head _ | apply List.Mem.tail)); done) | (apply In.ro; (repeat (first | exact List.Mem.head _ | apply List.Mem.tail)); done)) rfl) rfl rfl rfl ?_
              refine ow_y (y_move rfl) rfl rfl rfl ?_
              refine ow_y (y_makeInterface rfl cc_108) rfl rfl rfl ?_
              refine ow_buildSlice (el := 104) (zs := [.nilIface]) (fun i => some (i * 1, 1)) rfl rfl (by repeat (first | exact EvPs.nil | apply EvPs.cons rfl)) (by repeat (first | exact FillL.nil | (apply FillL.cons rfl rfl rfl; · repeat (first | exact SetLs.nil | (apply SetLs.cons; · repeat (first | exact SetL.here | apply SetL.there)))))) (fun _ => by kernel_rfl) (fun b45 => ?_)
              refine ow_append' (xs := ts2.map encT) (n := ts2.length) (news := [encT (.sign c.toNat)]) rfl rfl rfl rfl rw_79 hown2 (by repeat (first | exact Split.nil | (apply Split.cons; · repeat (first | exact Pick.here | apply Pick.there)) | exact Split.whole _ | exact Split.front _ _ rfl | exact Split.back _ _ rfl | exact Split.app_nil _ | apply Split.skip)) (by first | (apply In.own; (repeat (first | exact List.Mem.head _ | apply List.Mem.tail)); done) | (apply In.ro; (repeat (first | exact List.Mem.head _ | apply List.Mem.tail)); done)) rfl rfl (by intro u hu; simp only [List.mem_singleton] at hu; subst hu; rfl) (by omega) (by simp only [maxLen]; omega) (by omega) (fun sv3 A3 hown3 => ?_)
              refine ow_store rfl rfl rfl sz_79 (OwnS_one hown3) (by repeat (first | exact Upd.here | apply Upd.there)) (by repeat (first | exact SetL.here | apply SetL.there)) ?_
              refine ow_nil ?_
              repeat with_reducible first | refine thenQ_ret ?_ | refine thenQ_normal ?_ | refine thenQ_exit ?_ | refine blockQ_ret ?_ | refine blockQ_normal ?_ | refine blockQ_exit_same ?_ | refine blockQ_exit_ne rfl ?_
              refine ⟨(p + 1, none, ts2 ++ [.sign c.toNat], fine2, sv3, A3), _, ?_, ?_, (by repeat (first | exact EnvLe.nil _ | refine EnvLe.cons rfl ?_)), (by repeat (first | exact Split.nil | (apply Split.cons; · repeat (first | exact Pick.here | apply Pick.there)) | exact Split.whole _ | exact Split.front _ _ rfl | exact Split.back _ _ rfl | exact Split.app_nil _ | apply Split.skip))⟩
              · refine ⟨hlt, by simp only [List.length_append, List.map_append]; exact hown3, fit_append hfit2 (fit_one fun n hn => by rcases hn with hn | hn <;> cases hn), by simp only [List.length_append, List.length_cons, List.length_nil]; omega, (fun f hf => by cases hf), (fun hf => ?_), hmid.2⟩
                have := hmid.1 hf
                rw [this, restAt, if_pos ((sign_index c).1 h40)]; rfl
              · simp only; omega
            · simp only [cmpP] at h40
              refine ow_y (y_pick_t rfl rfl) rfl rfl rfl ?_
              refine ow_y (y_assign rfl) rfl rfl rfl ?_
              refine ow_nil ?_
              refine cw_if_f rfl ?_
              refine cw_regseq ?_
              refine ow_y (y_move rfl) rfl rfl rfl ?_
              refine ow_cmp rfl rfl rfl rfl rfl (fun h49 => ?_) (fun h49 => ?_)
              · simp only [cmpP] at h49
                refine ow_y (y_assign rfl) rfl rfl rfl ?_
                refine ow_nil ?_
                refine cw_if_t rfl ?_
                refine cw_region ?_
                refine ow_store rfl rfl rfl sz_4 rfl (by repeat (first | exact Upd.here | apply Upd.there)) (by repeat (first | exact SetL.here | apply SetL.there)) ?_
                refine ow_nil ?_
                repeat with_reducible first | refine thenQ_ret ?_ | refine thenQ_normal ?_ | refine thenQ_exit ?_ | refine blockQ_ret ?_ | refine blockQ_normal ?_ | refine blockQ_exit_same ?_ | refine blockQ_exit_ne rfl ?_
                refine ⟨(p + 1, none, ts2, false, sv2, A2), _, ?_, ?_, (by repeat (first | exact EnvLe.nil _ | refine EnvLe.cons rfl ?_)), (by repeat (first | exact Split.nil | (apply Split.cons; · repeat (first | exact Pick.here | apply Pick.there)) | exact Split.whole _ | exact Split.front _ _ rfl | exact Split.back _ _ rfl | exact Split.app_nil _ | apply Split.skip))⟩
                · refine ⟨hlt, hown2, hfit2, by simp only; omega, (fun f hf => by cases hf), (fun h => by cases h), fun _ => ?_⟩
                  cases hq : fine2 with
                  | false => exact hmid.2 hq
                  | true => rw [hmid.1 hq, restAt, if_neg (fun hx => h40 ((sign_index c).2 hx)), if_neg (by omega)]
                · simp only; omega
              · simp only [cmpP] at h49
                refine ow_y (y_assign rfl) rfl rfl rfl ?_
                refine ow_nil ?_
                refine cw_if_f rfl ?_
                refine cw_skip ?_
                repeat with_reducible first | refine thenQ_ret ?_ | refine thenQ_normal ?_ | refine thenQ_exit ?_ | refine blockQ_ret ?_ | refine blockQ_normal ?_ | refine blockQ_exit_same ?_ | refine blockQ_exit_ne rfl ?_
                refine ⟨(p + 1, none, ts2, fine2, sv2, A2), _, ?_, ?_, (by repeat (first | exact EnvLe.nil _ | refine EnvLe.cons rfl ?_)), (by repeat (first | exact Split.nil | (apply Split.cons; · repeat (first | exact Pick.here | apply Pick.there)) | exact Split.whole _ | exact Split.front _ _ rfl | exact Split.back _ _ rfl | exact Split.app_nil _ | apply Split.skip))⟩
                · refine ⟨hlt, hown2, hfit2, by simp only; omega, (fun f hf => by cases hf), (fun hf => ?_), hmid.2⟩
                  have := hmid.1 hf
                  rw [this, restAt, if_neg (fun hx => h40 ((sign_index c).2 hx)), if_pos (by omega)]; rfl
                · simp only; omega
      · refine ow_next_step (c := r) (wd := wd) rfl rfl rfl hlt hdec (by repeat (first | exact Upd.here | apply Upd.there)) ?_
        refine ow_y (y_extract rfl rfl) rfl rfl rfl ?_
        refine ow_nil ?_
        refine cw_seq ?_
        refine cw_if_t rfl ?_
        refine cw_skip ?_
        repeat with_reducible first | refine thenQ_ret ?_ | refine thenQ_normal ?_ | refine thenQ_exit ?_ | refine blockQ_ret ?_ | refine blockQ_normal ?_ | refine blockQ_exit_same ?_ | refine blockQ_exit_ne rfl ?_
        refine cw_block ?_
        refine cw_regseq ?_
        refine ow_y (y_extract rfl rfl) rfl rfl rfl ?_
        refine ow_y (y_extract rfl rfl) rfl rfl rfl ?_
        refine ow_y (y_assign rfl) rfl rfl rfl ?_
        refine ow_y (y_assign rfl) rfl rfl rfl ?_
        refine ow_nil ?_
        refine cw_seq ?_
        refine cw_regseq ?_
        refine ow_y (y_move rfl) rfl rfl rfl ?_
        refine ow_call rfl rfl (by rfl) ct_53 (isWord_c R _ _) ?_
        · rintro _ _ ⟨rfl, rfl⟩
          rw [show isWordB (r : Int) = false by simp only [isWordB]; simp; omega]
          refine ow_nil ?_
          refine cw_if_f rfl ?_
          refine cw_skip ?_
          repeat with_reducible first | refine thenQ_ret ?_ | refine thenQ_normal ?_ | refine thenQ_exit ?_ | refine blockQ_ret ?_ | refine blockQ_normal ?_ | refine blockQ_exit_same ?_ | refine blockQ_exit_ne rfl ?_
          refine cw_seq_cut (α := List Tok × Bool × Value × Heap) (fun x => [(1, .pointer (some ⟨b1, 0, none⟩)), (5, .pointer (some ⟨b5, 0, none⟩)), (6, .pointer (some ⟨b6, 0, none⟩)), (7, .pointer (some ⟨b7, 0, none⟩)), (8, .func (.func 51) #[] #[.pointer (some ⟨b7, 0, none⟩), .pointer (some ⟨b1, 0, none⟩), .pointer (some ⟨b5, 0, none⟩), .pointer (some ⟨b6, 0, none⟩)]), (20, .pointer (some ⟨b20, 0, none⟩)), (9, .int .i64 (p : Int)), (10, .int .i32 ((r : Nat) : Int))]) (fun x => (b20, .stringIter (bs s) (p + wd)) :: (b7, cb [.int .i64 (-1)] 3) :: (b1, cb [str s] 9) :: (b5, cb [x.2.2.1] 79) :: (b6, cb [.bool x.2.1] 4) :: x.2.2.2) (fun x => OwnS 104 1 x.2.2.1 x.2.2.2 x.1.length (x.1.map encT) ∧ Fit x.1 ∧ x.1.length ≤ 2 * p + 1 ∧ scanGo s [] [] = none) ?_ ?_
          · refine cw_region ?_
            refine ow_y (y_move rfl) rfl rfl rfl ?_
            refine ow_y (y_move rfl) rfl rfl rfl ?_
            refine ow_callVal (vs := [.int .i64 ((p : Nat) : Int)]) (cs := [.pointer (some ⟨b7, 0, none⟩), .pointer (some ⟨b1, 0, none⟩), .pointer (some ⟨b5, 0, none⟩), .pointer (some ⟨b6, 0, none⟩)]) rfl rfl rfl rfl ct_51 (scanEnd_t b1 b5 b6 b7 p o s sv ts fine hR ho hp (by omega) (by omega) hown (by repeat (first | exact Split.nil | (apply Split.cons; · repeat (first | exact Pick.here | apply Pick.there)) | exact Split.whole _ | exact Split.front _ _ rfl | exact Split.back _ _ rfl | exact Split.app_nil _ | apply Split.skip))) ?_
            rintro _ _ ⟨sv2, ts2, fine2, A2, rfl, rfl, hown2, hend⟩
            refine ow_nil ?_
            repeat with_reducible first | refine thenQ_ret ?_ | refine thenQ_normal ?_ | refine thenQ_exit ?_ | refine blockQ_ret ?_ | refine blockQ_normal ?_ | refine blockQ_exit_same ?_ | refine blockQ_exit_ne rfl ?_
            refine ⟨(ts2, fine2, sv2, A2), _, ?_, (by repeat (first | exact EnvLe.nil _ | refine EnvLe.cons rfl ?_)), (by repeat (first | exact Split.nil | (apply Split.cons; · repeat (first | exact Pick.here | apply Pick.there)) | exact Split.whole _ | exact Split.front _ _ rfl | exact Split.back _ _ rfl | exact Split.app_nil _ | apply Split.skip))⟩
            exact ⟨hown2, hend.fit hfit, by have := hend.len; simp only; omega, far_none hline hc hbig⟩
          · rintro ⟨ts2, fine2, sv2, A2⟩ ⟨hown2, hfit2, hlen2, hmid⟩
            simp only at hown2 hfit2 hlen2 hmid
            refine cw_block ?_
            refine cw_regseq ?_
            refine ow_y (y_move rfl) rfl rfl rfl ?_
            refine ow_cmp_f rfl rfl rfl rfl rfl (by simp only [cmpP]; try omega) ?_
            refine ow_y (y_move rfl) rfl rfl rfl ?_
            refine ow_skip rfl rfl rfl ?_
            refine ow_skip rfl rfl rfl ?_
            refine ow_skip rfl rfl rfl ?_
            refine ow_skip rfl rfl rfl ?_
            refine ow_y (y_pick_f rfl rfl) rfl rfl rfl ?_
            refine ow_y (y_assign rfl) rfl rfl rfl ?_
            refine ow_nil ?_
            refine cw_if_f rfl ?_
            refine cw_regseq ?_
            refine ow_y (y_move rfl) rfl rfl rfl ?_
            refine ow_cmp_t rfl rfl rfl rfl rfl (by simp only [cmpP]; try omega) ?_
            refine ow_y (y_assign rfl) rfl rfl rfl ?_
            refine ow_nil ?_
            refine cw_if_t rfl ?_
            refine cw_region ?_
            refine ow_store rfl rfl rfl sz_4 rfl (by repeat (first | exact Upd.here | apply Upd.there)) (by repeat (first | exact SetL.here | apply SetL.there)) ?_
            refine ow_nil ?_
            repeat with_reducible first | refine thenQ_ret ?_ | refine thenQ_normal ?_ | refine thenQ_exit ?_ | refine blockQ_ret ?_ | refine blockQ_normal ?_ | refine blockQ_exit_same ?_ | refine blockQ_exit_ne rfl ?_
            refine ⟨(p + wd, none, ts2, false, sv2, A2), _, ?_, ?_, (by repeat (first | exact EnvLe.nil _ | refine EnvLe.cons rfl ?_)), (by repeat (first | exact Split.nil | (apply Split.cons; · repeat (first | exact Pick.here | apply Pick.there)) | exact Split.whole _ | exact Split.front _ _ rfl | exact Split.back _ _ rfl | exact Split.app_nil _ | apply Split.skip))⟩
            · exact ⟨hle, hown2, hfit2, by simp only; omega, (fun f hf => by cases hf), (fun h => by cases h), fun _ => hmid⟩
            · simp only; omega

end Go.Proofs.YtgppllppddaodaaGreatDoor

/-
  The walk of a line.
-/
namespace Go.Proofs.YtgppllppddaodaaGreatDoor
open Sl Am
open Go
theorem ct_56 : callT Tryz.prog 56 = true := by kernel_rfl
theorem cv_114_36 : convT Tryz.prog 114 36 .u32 = true := by kernel_rfl
theorem scan_c (R L : Heap) (s : List UInt8) (hR : Glob R) (hs : s.length ≤ 268435456) : FnW Tryz.prog 35 [str s] R L fun v L' => ∃ A, L' = L ++ A ∧ ScanPost s v A :=
  (((scan_w R s hR hs).drop (G' := fun v L' => ScanPost s v L') fun v L' ⟨A, F, hs, hp⟩ => ⟨A, F, hs, hp⟩).frame (L := L) .nil (fun p hp => .inl hp)).post_perm fun v L' ⟨A, hp, hL⟩ => ⟨L ++ A, by rw [hL]; exact List.perm_append_comm, A, rfl, hp⟩
theorem sub_take : ∀ (n : Nat) (l xs : List Value), n ≤ l.length → l.take n = xs → Sub l 0 n xs
  | 0, l, xs, _, h => by rw [List.take_zero] at h; subst h; exact .nil
  | n + 1, [], _, hn, _ => by simp at hn
  | n + 1, v :: l, xs, hn, h => by
    rw [List.take_succ_cons] at h
    subst h
    exact .take (sub_take n l _ (by simpa using hn) rfl)
theorem toks_of_own {sv : Value} {A R : Heap} {ts : List Tok} (h : OwnS 104 1 sv A ts.length (ts.map encT)) : TokS (R ++ A) sv ts := by
  generalize hn : ts.length = n at h
  generalize hx : ts.map encT = xs at h
  cases h with
  | nil =>
    refine ⟨none, 0, by rw [hn], by omega, fun hne => ?_⟩
    cases ts with
    | nil => exact absurd rfl hne
    | cons t l => simp at hn
  | row b cap n cells xs h1 h2 h3 h4 =>
    refine ⟨some ⟨b, 0, none⟩, cap, by rw [hn], by omega, fun _ => ⟨b, 0, cells, 104, (0, 0), rfl, by simp [cb], ?_⟩⟩
    rw [hn, hx]
    rw [Nat.mul_one] at h4
    exact sub_take n cells xs (by omega) h4
theorem glob_mono {R A : Heap} (h : Glob R) : Glob (R ++ A) where
  pow := let ⟨T, f, hm⟩ := h.pow; ⟨T, f, List.mem_append_left _ hm⟩
  mx := let ⟨m, T, f, hm⟩ := h.mx; ⟨m, T, f, List.mem_append_left _ hm⟩
  eS := let ⟨a, b, T, f, hm⟩ := h.eS; ⟨a, b, T, f, List.mem_append_left _ hm⟩
  eR := let ⟨a, b, T, f, hm⟩ := h.eR; ⟨a, b, T, f, List.mem_append_left _ hm⟩
theorem TokS.cons2 {R : Heap} {v : Value} {t u : Tok} {ts : List Tok} (h : TokS R v (t :: u :: ts)) :
    ∃ (tb o c : Nat) (cells : List Value) (T : TypeId) (f : Nat × Nat), v = .slice (some ⟨tb, o, none⟩) (ts.length + 2) c ∧ ts.length + 2 ≤ c ∧ (tb, .cells cells.toArray T f) ∈ R ∧ cells[o + 0 * 1]? = some (encT t) ∧ cells[o + 1 * 1]? = some (encT u) ∧
      TokS R (.slice (if c = 2 then (some ⟨tb, o, none⟩) else (some (⟨tb, o, none⟩ : Addr)).map (·.add (2 * 1))) (ts.length + 2 - 2) (c - 2)) ts := by
  obtain ⟨ad, c, hv, hc, hr⟩ := h
  obtain ⟨tb, o, cells, T, f, had, hm, hs⟩ := hr (by simp)
  subst had
  simp only [List.map_cons, List.length_cons] at hs hv hc
  obtain ⟨h1, h2⟩ := Sub.tail hs
  obtain ⟨h3, h4⟩ := Sub.tail h1
  refine ⟨tb, o, c, cells, T, f, hv, hc, hm, by simpa using h2, by simpa using h4, ?_⟩
  refine ⟨_, c - 2, rfl, by omega, fun hne => ?_⟩
  have hlen : 0 < ts.length := by cases ts <;> simp_all
  have : ¬ c = 2 := by omega
  refine ⟨tb, o + 1 + 1, cells, T, f, ?_, hm, by simpa using h3⟩
  simp only [this, if_false, Option.map_some, add_addr]
theorem two_of {ts : List Tok} (h : (1 : Int) < ts.length) : ∃ t u l, ts = t :: u :: l := by
  match ts, h with
  | t :: u :: l, _ => exact ⟨t, u, l, rfl⟩
  | [t], h => simp at h
  | [], h => simp at h
theorem name_or (t : Tok) : (∃ l, t = .name l) ∨ (∃ u v, encT t = .iface u v ∧ Nat.beq u 109 = false ∧ ∀ l, t ≠ .name l) := by
  cases t with
  | name l => exact .inl ⟨l, rfl⟩
  | _ => exact .inr ⟨_, _, rfl, rfl, fun l h => by cases h⟩
theorem sign_or (t : Tok) : (∃ c, t = .sign c) ∨ (∃ u v, encT t = .iface u v ∧ Nat.beq u 108 = false ∧ ∀ c, t ≠ .sign c) := by
  cases t with
  | sign l => exact .inl ⟨l, rfl⟩
  | _ => exact .inr ⟨_, _, rfl, rfl, fun l h => by cases h⟩
theorem next_num (r : Rd) : (∃ m, r.next.1 = some (.num m)) ∨ (r.next.1 = none) ∨ (∃ u v, encO r.next.1 = .iface u v ∧ Nat.beq u 114 = false ∧ ∀ m, r.next.1 ≠ some (.num m)) := by
  cases h : r.next.1 with
  | none => exact .inr (.inl rfl)
  | some t => cases t with
    | num m => exact .inl ⟨m, rfl⟩
    | _ => exact .inr (.inr ⟨_, _, rfl, rfl, fun m h => by cases h⟩)
theorem label_short {ts : List Tok} {syn rng : Bool} (h : ¬ (1 : Int) < ts.length) : lineLabel ⟨ts, syn, rng⟩ = ([], ⟨ts, syn, rng⟩) := by
  match ts, h with
  | t :: u :: l, h => simp at h; omega
  | [t], h => cases t <;> rfl
  | [], h => rfl
theorem label_hit {l : List UInt8} {ts : List Tok} {syn rng : Bool} : lineLabel ⟨.name l :: .sign 58 :: ts, syn, rng⟩ = (l, ⟨ts, isMn l, rng⟩) := by simp [lineLabel]
theorem label_other {l : List UInt8} {c : Int} {ts : List Tok} {syn rng : Bool} (h : c ≠ 58) : lineLabel ⟨.name l :: .sign c :: ts, syn, rng⟩ = ([], ⟨.name l :: .sign c :: ts, syn, rng⟩) := by simp [lineLabel, h]
theorem label_t {t u : Tok} {ts : List Tok} {syn rng : Bool} (h : ∀ l, t ≠ .name l) : lineLabel ⟨t :: u :: ts, syn, rng⟩ = ([], ⟨t :: u :: ts, syn, rng⟩) := by
  cases t with
  | name l => exact absurd rfl (h l)
  | _ => rfl
theorem label_u {t u : Tok} {ts : List Tok} {syn rng : Bool} (h : ∀ c, u ≠ .sign c) : lineLabel ⟨t :: u :: ts, syn, rng⟩ = ([], ⟨t :: u :: ts, syn, rng⟩) := by
  cases t with
  | name l => cases u with
    | sign c => exact absurd rfl (h c)
    | _ => rfl
  | _ => rfl
def wordOfT (t : Option Tok) : List UInt8 := match t with | some (.name l) => l | _ => []
theorem word_no {t : Tok} (h : ∀ l, t ≠ .name l) : wordOfT (some t) = [] := by
  cases t with
  | name l => exact absurd rfl (h l)
  | _ => rfl
def encIt (it : Am.Item) : List Value := [.int .i64 it.line, .int .i64 it.i.op, .int .i64 it.i.a, .int .i64 it.i.b, .int .i64 it.i.c, .int .i64 it.i.imm, .int .i64 it.v.1, str it.v.2, .bool it.plain, .int .u32 it.w]
def itP (it : Option (Am.Item × Nat)) : Value := match it with
  | none => .pointer none
  | some (_, b) => .pointer (some ⟨b, 0, none⟩)
def itB (it : Option (Am.Item × Nat)) : Heap := match it with
  | none => []
  | some (i, b) => [(b, cb (encIt i) 64)]
def LineIt (n : Int) (r : Rd) (it : Option (Am.Item × Nat)) (r' : Rd) : Prop := match it with
  | none => lineItem n r = .inr r'
  | some (i, _) => lineItem n r = .inl (i, r')
theorem wrap32 (m : Nat) : IntKind.u32.wrap (m : Int) = ((m % 4294967296 : Nat) : Int) := by simp only [IntKind.wrap, IntKind.bits, IntKind.signed]; simp
/-- What a line answers. -/
def LinePost (R : Heap) (rb : Nat) (r : Rd) (n : Int) (v : Value) (L' : Heap) : Prop := ∃ sl' b, v = .tuple #[str (line r n).1, itP ((line r n).2.1.map fun i => (i, b))] ∧ L' = rdC rb sl' (line r n).2.2 :: itB ((line r n).2.1.map fun i => (i, b)) ∧ TokS R sl' (line r n).2.2.ts

theorem lineItem_eq {n : Int} {t : Tok} {tl : List Tok} {syn rng : Bool} {w : List UInt8} (hw : w = wordOfT (some t)) : lineItem n ⟨t :: tl, syn, rng⟩ =
    if w = wordL then (match Rd.next ⟨tl, syn, rng⟩ with
      | (some (.num m), r2) => .inl (⟨n, ⟨0, 0, 0, 0, 0⟩, (0, []), true, ((m % 4294967296 : Nat) : Int)⟩, { r2 with rng := decide (m ≥ 4294967296) })
      | (_, r2) => .inl (⟨n, ⟨0, 0, 0, 0, 0⟩, (0, []), true, 0⟩, { r2 with syn := true, rng := false }))
    else if 0 < opOf w then .inl (⟨n, (operands ⟨tl, syn, rng⟩ (opOf w)).i, (operands ⟨tl, syn, rng⟩ (opOf w)).v, false, 0⟩, (operands ⟨tl, syn, rng⟩ (opOf w)).r) else .inr ⟨tl, true, rng⟩ := by
  subst hw
  cases t <;> rfl
theorem item_num {n : Int} {t : Tok} {tl : List Tok} {syn rng : Bool} {w : List UInt8} {m : Nat} (hw : w = wordOfT (some t)) (h : w = wordL) (hk : (Rd.next ⟨tl, syn, rng⟩).1 = some (.num m)) :
    lineItem n ⟨t :: tl, syn, rng⟩ = .inl (⟨n, ⟨0, 0, 0, 0, 0⟩, (0, []), true, ((m % 4294967296 : Nat) : Int)⟩, { (Rd.next ⟨tl, syn, rng⟩).2 with rng := decide (m ≥ 4294967296) }) := by
  rw [lineItem_eq hw, if_pos h]
  cases tl with
  | nil => cases hk
  | cons u l =>
    simp only [Rd.next, Option.some.injEq] at hk
    subst hk
    rfl
theorem item_nonum {n : Int} {t : Tok} {tl : List Tok} {syn rng : Bool} {w : List UInt8} (hw : w = wordOfT (some t)) (h : w = wordL) (hk : ∀ m, (Rd.next ⟨tl, syn, rng⟩).1 ≠ some (.num m)) :
    lineItem n ⟨t :: tl, syn, rng⟩ = .inl (⟨n, ⟨0, 0, 0, 0, 0⟩, (0, []), true, 0⟩, ⟨(Rd.next ⟨tl, syn, rng⟩).2.ts, true, false⟩) := by
  rw [lineItem_eq hw, if_pos h]
  cases tl with
  | nil => rfl
  | cons u l => cases u with
    | num m => exact absurd rfl (hk m)
    | _ => rfl
theorem item_word {n : Int} {t : Tok} {tl : List Tok} {syn rng : Bool} {w : List UInt8} (hw : w = wordOfT (some t)) (h : w ≠ wordL) :
    lineItem n ⟨t :: tl, syn, rng⟩ = if 0 < opOf w then .inl (⟨n, (operands ⟨tl, syn, rng⟩ (opOf w)).i, (operands ⟨tl, syn, rng⟩ (opOf w)).v, false, 0⟩, (operands ⟨tl, syn, rng⟩ (opOf w)).r) else .inr ⟨tl, true, rng⟩ := by
  rw [lineItem_eq hw, if_neg h]
theorem item_op {n : Int} {t : Tok} {tl : List Tok} {syn rng : Bool} {w : List UInt8} (hw : w = wordOfT (some t)) (h : w ≠ wordL) (h0 : 0 < opOf w) : lineItem n ⟨t :: tl, syn, rng⟩ = .inl (⟨n, (operands ⟨tl, syn, rng⟩ (opOf w)).i, (operands ⟨tl, syn, rng⟩ (opOf w)).v, false, 0⟩, (operands ⟨tl, syn, rng⟩ (opOf w)).r) := by rw [item_word hw h, if_pos h0]
theorem item_none {n : Int} {t : Tok} {tl : List Tok} {syn rng : Bool} {w : List UInt8} (hw : w = wordOfT (some t)) (h : w ≠ wordL) (h0 : ¬ 0 < opOf w) : lineItem n ⟨t :: tl, syn, rng⟩ = .inr ⟨tl, true, rng⟩ := by rw [item_word hw h, if_neg h0]
theorem line_none {r r1 : Rd} {n : Int} {lab : List UInt8} (hl : lineLabel r = (lab, r1)) (he : r1.ts = []) : line r n = (lab, none, r1) := by
  unfold line; simp only [hl, he]; rfl
theorem line_some {r r1 r4 : Rd} {n : Int} {lab : List UInt8} {it : Option (Am.Item × Nat)} (hl : lineLabel r = (lab, r1)) (he : r1.ts ≠ []) (hi : LineIt n r1 it r4) : line r n = (lab, it.map Prod.fst, left r4) := by
  have he2 : r1.ts.isEmpty = false := by cases h : r1.ts <;> simp_all
  cases it with
  | none => unfold line; simp only [hl, he2]; simp only [LineIt] at hi; rw [hi]; rfl
  | some p => unfold line; simp only [hl, he2]; simp only [LineIt] at hi; rw [hi]; rfl
theorem post_none {R : Heap} {rb : Nat} {r r1 : Rd} {n : Int} {lab : List UInt8} {sl : Value} (hl : lineLabel r = (lab, r1)) (he : r1.ts = []) (hs : TokS R sl r1.ts) : LinePost R rb r n (.tuple #[str lab, .pointer none]) [rdC rb sl r1] := by
  rw [LinePost, line_none hl he]
  exact ⟨sl, 0, rfl, rfl, hs⟩
theorem post_some {R : Heap} {rb : Nat} {r r1 r4 : Rd} {n : Int} {lab : List UInt8} {sl : Value} {it : Option (Am.Item × Nat)} {b : Bool} (hl : lineLabel r = (lab, r1)) (he : r1.ts ≠ []) (hi : LineIt n r1 it r4) (hs : TokS R sl r4.ts) (hb : b = (r4.syn || !r4.ts.isEmpty)) : LinePost R rb r n (.tuple #[str lab, itP it]) (rdC rb sl ⟨r4.ts, b, r4.rng⟩ :: itB it) := by
  have hleft : left r4 = ⟨r4.ts, b, r4.rng⟩ := by rw [hb]; rfl
  rw [LinePost, line_some hl he hi, hleft]
  cases it with
  | none => exact ⟨sl, 0, rfl, rfl, hs⟩
  | some p => exact ⟨sl, p.2, rfl, rfl, hs⟩

set_option maxRecDepth 100000 in
set_option maxHeartbeats 4000000 in
theorem line_w : ∀ (R : Heap) (rb : Nat) (sl : Value) (r : Rd) (n : Int), Glob R → TokS R sl r.ts → Fit r.ts → FnW Tryz.prog 36 [.pointer (some ⟨rb, 0, none⟩), .int .i64 n] R [rdC rb sl r] fun v L' => ∃ L'' F, Split L' L'' F ∧ LinePost R rb r n v L'' := by
  rintro R rb sl ⟨ts, syn, rng⟩ n hR hs0 hfit
  refine fn_of_body Tryz.func36 rfl Tryz.ntmps36 Tryz.results36 (by rfl) ?_
  refine cw_regseq ?_
  refine ow_y (y_assign rfl) rfl rfl rfl ?_
  refine ow_y (y_assign rfl) rfl rfl rfl ?_
  refine ow_nil ?_
  refine cw_seq_cut (α := List UInt8 × Rd × Value) (fun x => [(0, .pointer (some ⟨rb, 0, none⟩)), (1, .int .i64 n), (4, str x.1), (5, .pointer none)]) (fun x => [rdC rb x.2.2 x.2.1]) (fun x => lineLabel ⟨ts, syn, rng⟩ = (x.1, x.2.1) ∧ TokS R x.2.2 x.2.1.ts ∧ Fit x.2.1.ts) ?_ ?_
  · refine cw_regseq ?_
    refine ow_y (y_move rfl) rfl rfl rfl ?_
    refine ow_y (y_nilCheck rfl) rfl rfl rfl ?_
    refine ow_y (y_fieldAddr 0 rfl ft_84_0 rfl) rfl rfl rfl ?_
    refine ow_y (y_load rfl pt_79 (by first | (apply In.own; (repeat (first | exact List.Mem.head _ | apply List.Mem.tail)); done) | (apply In.ro; (repeat (first | exact List.Mem.head _ | apply List.Mem.tail)); done)) rfl) rfl rfl rfl ?_
    obtain ⟨ad0, c0, hsl0, hsr⟩ := id hs0
    subst hsl0
    refine ow_y (y_lenSl rfl el_79) rfl rfl rfl ?_
    refine ow_cmp rfl rfl rfl rfl rfl (fun h22 => ?_) (fun h22 => ?_)
    · simp only [cmpP] at h22
      refine ow_nil ?_
      refine cw_if_t rfl ?_
      refine cw_regseq ?_
      obtain ⟨t1, t2, tl, hts⟩ := two_of h22
      subst hts
      obtain ⟨tb, o, c, cells, T, f, hsl1, hc, hm, hx1, hx2, hstl⟩ := TokS.cons2 hs0
      simp only [Value.slice.injEq] at hsl1
      obtain ⟨hsl1, _, hsl2⟩ := hsl1
      subst hsl1
      subst hsl2
      refine ow_y (y_move rfl) rfl rfl rfl ?_
      refine ow_y (y_nilCheck rfl) rfl rfl rfl ?_
      refine ow_y (y_fieldAddr 0 rfl ft_84_0 rfl) rfl rfl rfl ?_
      refine ow_y (y_load rfl pt_79 (by first | (apply In.own; (repeat (first | exact List.Mem.head _ | apply List.Mem.tail)); done) | (apply In.ro; (repeat (first | exact List.Mem.head _ | apply List.Mem.tail)); done)) rfl) rfl rfl rfl ?_
      refine ow_y (y_indexAddr (i := 0) rfl rfl el_79 sz_104 (by simp)) rfl rfl rfl ?_
      refine ow_y (y_load rfl pt_104 (.inr hm) hx1) rfl rfl rfl ?_
      rcases name_or t1 with ⟨l1, rfl⟩ | ⟨u30, v30, he30, hu30, hn30⟩
      · refine ow_y (y_assert_yes rfl cc_109) rfl rfl rfl ?_
        refine ow_y (y_move rfl) rfl rfl rfl ?_
        refine ow_y (y_extract rfl rfl) rfl rfl rfl ?_
        refine ow_y (y_extract rfl rfl) rfl rfl rfl ?_
        refine ow_y (y_assign rfl) rfl rfl rfl ?_
        refine ow_y (y_assign rfl) rfl rfl rfl ?_
        refine ow_nil ?_
        refine cw_regseq ?_
        refine ow_y (y_move rfl) rfl rfl rfl ?_
        refine ow_y (y_nilCheck rfl) rfl rfl rfl ?_
        refine ow_y (y_fieldAddr 0 rfl ft_84_0 rfl) rfl rfl rfl ?_
        refine ow_y (y_load rfl pt_79 (by first | (apply In.own; (repeat (first | exact List.Mem.head _ | apply List.Mem.tail)); done) | (apply In.ro; (repeat (first | exact List.Mem.head _ | apply List.Mem.tail)); done)) rfl) rfl rfl rfl ?_
        refine ow_y (y_indexAddr (i := 1) rfl rfl el_79 sz_104 (by simp)) rfl rfl rfl ?_
        refine ow_y (y_load rfl pt_104 (.inr hm) hx2) rfl rfl rfl ?_
        rcases sign_or t2 with ⟨c1, rfl⟩ | ⟨u40, v40, he40, hu40, hn40⟩
        · refine ow_y (y_assert_yes rfl cc_108) rfl rfl rfl ?_
          refine ow_y (y_move rfl) rfl rfl rfl ?_
          refine ow_y (y_extract rfl rfl) rfl rfl rfl ?_
          refine ow_y (y_extract rfl rfl) rfl rfl rfl ?_
          refine ow_y (y_assign rfl) rfl rfl rfl ?_
          refine ow_y (y_assign rfl) rfl rfl rfl ?_
          refine ow_nil ?_
          refine cw_regseq ?_
          refine ow_y (y_move rfl) rfl rfl rfl ?_
          refine ow_y (y_move rfl) rfl rfl rfl ?_
          refine ow_y (y_move rfl) rfl rfl rfl ?_
          refine ow_y (y_pick_t rfl rfl) rfl rfl rfl ?_
          refine ow_y (y_move rfl) rfl rfl rfl ?_
          refine ow_y (y_move rfl) rfl rfl rfl ?_
          refine ow_cmp rfl rfl rfl rfl rfl (fun h49 => ?_) (fun h49 => ?_)
          · simp only [cmpP] at h49
            refine ow_y (y_pick_t rfl rfl) rfl rfl rfl ?_
            refine ow_nil ?_
            refine cw_if_t rfl ?_
            refine cw_regseq ?_
            refine ow_y (y_move rfl) rfl rfl rfl ?_
            refine ow_y (y_assign rfl) rfl rfl rfl ?_
            refine ow_nil ?_
            refine cw_regseq ?_
            refine ow_y (y_move rfl) rfl rfl rfl ?_
            refine ow_y (y_move rfl) rfl rfl rfl ?_
            refine ow_call rfl rfl (by rfl) ct_54 (operation_c R _ hR l1) ?_
            rintro _ _ ⟨rfl, rfl⟩
            refine ow_cmp rfl rfl rfl rfl rfl (fun h55 => ?_) (fun h55 => ?_)
            · simp only [cmpP] at h55
              refine ow_y (y_move rfl) rfl rfl rfl ?_
              refine ow_skip rfl rfl rfl ?_
              refine ow_skip rfl rfl rfl ?_
              refine ow_y (y_pick_t rfl rfl) rfl rfl rfl ?_
              refine ow_y (y_nilCheck rfl) rfl rfl rfl ?_
              refine ow_y (y_fieldAddr 1 rfl ft_84_1 rfl) rfl rfl rfl ?_
              refine ow_store rfl rfl rfl sz_4 rfl (by repeat (first | exact Upd.here | apply Upd.there)) (by repeat (first | exact SetL.here | apply SetL.there)) ?_
              refine ow_nil ?_
              refine cw_region ?_
              refine ow_y (y_move rfl) rfl rfl rfl ?_
              refine ow_y (y_move rfl) rfl rfl rfl ?_
              refine ow_y (y_nilCheck rfl) rfl rfl rfl ?_
              refine ow_y (y_fieldAddr 0 rfl ft_84_0 rfl) rfl rfl rfl ?_
              refine ow_y (y_load rfl pt_79 (by first | (apply In.own; (repeat (first | exact List.Mem.head _ | apply List.Mem.tail)); done) | (apply In.ro; (repeat (first | exact List.Mem.head _ | apply List.Mem.tail)); done)) rfl) rfl rfl rfl ?_
              refine ow_y (y_sliceSl (vlo := some (.int .i64 2)) (vhi := none) (i := 2) (j := tl.length + 2) rfl el_79 sz_104 rfl rfl (.inr rfl) (.inl ⟨rfl, rfl⟩) (by omega) (by omega)) rfl rfl rfl ?_
              refine ow_y (y_nilCheck rfl) rfl rfl rfl ?_
              refine ow_y (y_fieldAddr 0 rfl ft_84_0 rfl) rfl rfl rfl ?_
              refine ow_store rfl rfl rfl sz_79 rfl (by repeat (first | exact Upd.here | apply Upd.there)) (by repeat (first | exact SetL.here | apply SetL.there)) ?_
              refine ow_nil ?_
              repeat with_reducible first | refine thenQ_ret ?_ | refine thenQ_normal ?_ | refine thenQ_exit ?_ | refine blockQ_ret ?_ | refine blockQ_normal ?_ | refine blockQ_exit_same ?_ | refine blockQ_exit_ne rfl ?_
              refine ⟨(l1, ⟨tl, true, rng⟩, _), _, ?_, (by repeat (first | exact EnvLe.nil _ | refine EnvLe.cons rfl ?_)), (by repeat (first | exact Split.nil | (apply Split.cons; · repeat (first | exact Pick.here | apply Pick.there)) | exact Split.whole _ | exact Split.front _ _ rfl | exact Split.back _ _ rfl | exact Split.app_nil _ | apply Split.skip))⟩
              refine ⟨?_, hstl, hfit.sub (fun t ht => .tail _ (.tail _ ht))⟩
              have hm : isMn l1 = true := by simp_all [isMn, wordL]
              rw [h49, label_hit, hm]
            · simp only [cmpP] at h55
              refine ow_y (y_move rfl) rfl rfl rfl ?_
              refine ow_y (y_move rfl) rfl rfl rfl ?_
              refine ow_streq rfl rfl rfl rfl (fun h58 => ?_) (fun h58 => ?_)
              · refine ow_y (y_pick_f rfl rfl) rfl rfl rfl ?_
                refine ow_y (y_nilCheck rfl) rfl rfl rfl ?_
                refine ow_y (y_fieldAddr 1 rfl ft_84_1 rfl) rfl rfl rfl ?_
                refine ow_store rfl rfl rfl sz_4 rfl (by repeat (first | exact Upd.here | apply Upd.there)) (by repeat (first | exact SetL.here | apply SetL.there)) ?_
                refine ow_nil ?_
                refine cw_region ?_
                refine ow_y (y_move rfl) rfl rfl rfl ?_
                refine ow_y (y_move rfl) rfl rfl rfl ?_
                refine ow_y (y_nilCheck rfl) rfl rfl rfl ?_
                refine ow_y (y_fieldAddr 0 rfl ft_84_0 rfl) rfl rfl rfl ?_
                refine ow_y (y_load rfl pt_79 (by first | (apply In.own; (repeat (first | exact List.Mem.head _ | apply List.Mem.tail)); done) | (apply In.ro; (repeat (first | exact List.Mem.head _ | apply List.Mem.tail)); done)) rfl) rfl rfl rfl ?_
                refine ow_y (y_sliceSl (vlo := some (.int .i64 2)) (vhi := none) (i := 2) (j := tl.length + 2) rfl el_79 sz_104 rfl rfl (.inr rfl) (.inl ⟨rfl, rfl⟩) (by omega) (by omega)) rfl rfl rfl ?_
                refine ow_y (y_nilCheck rfl) rfl rfl rfl ?_
                refine ow_y (y_fieldAddr 0 rfl ft_84_0 rfl) rfl rfl rfl ?_
                refine ow_store rfl rfl rfl sz_79 rfl (by repeat (first | exact Upd.here | apply Upd.there)) (by repeat (first | exact SetL.here | apply SetL.there)) ?_
                refine ow_nil ?_
                repeat with_reducible first | refine thenQ_ret ?_ | refine thenQ_normal ?_ | refine thenQ_exit ?_ | refine blockQ_ret ?_ | refine blockQ_normal ?_ | refine blockQ_exit_same ?_ | refine blockQ_exit_ne rfl ?_
                refine ⟨(l1, ⟨tl, true, rng⟩, _), _, ?_, (by repeat (first | exact EnvLe.nil _ | refine EnvLe.cons rfl ?_)), (by repeat (first | exact Split.nil | (apply Split.cons; · repeat (first | exact Pick.here | apply Pick.there)) | exact Split.whole _ | exact Split.front _ _ rfl | exact Split.back _ _ rfl | exact Split.app_nil _ | apply Split.skip))⟩
                refine ⟨?_, hstl, hfit.sub (fun t ht => .tail _ (.tail _ ht))⟩
                have hm : isMn l1 = true := by simp_all [isMn, wordL]
                rw [h49, label_hit, hm]
              · refine ow_y (y_pick_f rfl rfl) rfl rfl rfl ?_
                refine ow_y (y_nilCheck rfl) rfl rfl rfl ?_
                refine ow_y (y_fieldAddr 1 rfl ft_84_1 rfl) rfl rfl rfl ?_
                refine ow_store rfl rfl rfl sz_4 rfl (by repeat (first | exact Upd.here | apply Upd.there)) (by repeat (first | exact SetL.here | apply SetL.there)) ?_
                refine ow_nil ?_
                refine cw_region ?_
                refine ow_y (y_move rfl) rfl rfl rfl ?_
                refine ow_y (y_move rfl) rfl rfl rfl ?_
                refine ow_y (y_nilCheck rfl) rfl rfl rfl ?_
                refine ow_y (y_fieldAddr 0 rfl ft_84_0 rfl) rfl rfl rfl ?_
                refine ow_y (y_load rfl pt_79 (by first | (apply In.own; (repeat (first | exact List.Mem.head _ | apply List.Mem.tail)); done) | (apply In.ro; (repeat (first | exact List.Mem.head _ | apply List.Mem.tail)); done)) rfl) rfl rfl rfl ?_
                refine ow_y (y_sliceSl (vlo := some (.int .i64 2)) (vhi := none) (i := 2) (j := tl.length + 2) rfl el_79 sz_104 rfl rfl (.inr rfl) (.inl ⟨rfl, rfl⟩) (by omega) (by omega)) rfl rfl rfl ?_
                refine ow_y (y_nilCheck rfl) rfl rfl rfl ?_
                refine ow_y (y_fieldAddr 0 rfl ft_84_0 rfl) rfl rfl rfl ?_
                refine ow_store rfl rfl rfl sz_79 rfl (by repeat (first | exact Upd.here | apply Upd.there)) (by repeat (first | exact SetL.here | apply SetL.there)) ?_
                refine ow_nil ?_
                repeat with_reducible first | refine thenQ_ret ?_ | refine thenQ_normal ?_ | refine thenQ_exit ?_ | refine blockQ_ret ?_ | refine blockQ_normal ?_ | refine blockQ_exit_same ?_ | refine blockQ_exit_ne rfl ?_
                refine ⟨(l1, ⟨tl, false, rng⟩, _), _, ?_, (by repeat (first | exact EnvLe.nil _ | refine EnvLe.cons rfl ?_)), (by repeat (first | exact Split.nil | (apply Split.cons; · repeat (first | exact Pick.here | apply Pick.there)) | exact Split.whole _ | exact Split.front _ _ rfl | exact Split.back _ _ rfl | exact Split.app_nil _ | apply Split.skip))⟩
                refine ⟨?_, hstl, hfit.sub (fun t ht => .tail _ (.tail _ ht))⟩
                have hm : isMn l1 = false := by simp_all [isMn, wordL]
                rw [h49, label_hit, hm]
          · simp only [cmpP] at h49
            refine ow_y (y_pick_t rfl rfl) rfl rfl rfl ?_
            refine ow_nil ?_
            refine cw_if_f rfl ?_
            refine cw_skip ?_
            repeat with_reducible first | refine thenQ_ret ?_ | refine thenQ_normal ?_ | refine thenQ_exit ?_ | refine blockQ_ret ?_ | refine blockQ_normal ?_ | refine blockQ_exit_same ?_ | refine blockQ_exit_ne rfl ?_
            refine ⟨([], ⟨.name l1 :: .sign c1 :: tl, syn, rng⟩, _), _, ?_, (by repeat (first | exact EnvLe.nil _ | refine EnvLe.cons rfl ?_)), (by repeat (first | exact Split.nil | (apply Split.cons; · repeat (first | exact Pick.here | apply Pick.there)) | exact Split.whole _ | exact Split.front _ _ rfl | exact Split.back _ _ rfl | exact Split.app_nil _ | apply Split.skip))⟩
            exact ⟨by rw [label_other h49], hs0, hfit⟩
        · refine ow_y (y_assert_no (congrArg some he40) hu40 cc_108 zt_108) rfl rfl rfl ?_
          refine ow_y (y_move rfl) rfl rfl rfl ?_
          refine ow_y (y_extract rfl rfl) rfl rfl rfl ?_
          refine ow_y (y_extract rfl rfl) rfl rfl rfl ?_
          refine ow_y (y_assign rfl) rfl rfl rfl ?_
          refine ow_y (y_assign rfl) rfl rfl rfl ?_
          refine ow_nil ?_
          refine cw_regseq ?_
          refine ow_y (y_move rfl) rfl rfl rfl ?_
          refine ow_y (y_move rfl) rfl rfl rfl ?_
          refine ow_y (y_move rfl) rfl rfl rfl ?_
          refine ow_y (y_pick_t rfl rfl) rfl rfl rfl ?_
          refine ow_y (y_move rfl) rfl rfl rfl ?_
          refine ow_skip rfl rfl rfl ?_
          refine ow_skip rfl rfl rfl ?_
          refine ow_y (y_pick_f rfl rfl) rfl rfl rfl ?_
          refine ow_nil ?_
          refine cw_if_f rfl ?_
          refine cw_skip ?_
          repeat with_reducible first | refine thenQ_ret ?_ | refine thenQ_normal ?_ | refine thenQ_exit ?_ | refine blockQ_ret ?_ | refine blockQ_normal ?_ | refine blockQ_exit_same ?_ | refine blockQ_exit_ne rfl ?_
          refine ⟨([], ⟨.name l1 :: t2 :: tl, syn, rng⟩, _), _, ?_, (by repeat (first | exact EnvLe.nil _ | refine EnvLe.cons rfl ?_)), (by repeat (first | exact Split.nil | (apply Split.cons; · repeat (first | exact Pick.here | apply Pick.there)) | exact Split.whole _ | exact Split.front _ _ rfl | exact Split.back _ _ rfl | exact Split.app_nil _ | apply Split.skip))⟩
          exact ⟨by rw [label_u hn40], hs0, hfit⟩
      · refine ow_y (y_assert_no (congrArg some he30) hu30 cc_109 zt_109) rfl rfl rfl ?_
        refine ow_y (y_move rfl) rfl rfl rfl ?_
        refine ow_y (y_extract rfl rfl) rfl rfl rfl ?_
        refine ow_y (y_extract rfl rfl) rfl rfl rfl ?_
        refine ow_y (y_assign rfl) rfl rfl rfl ?_
        refine ow_y (y_assign rfl) rfl rfl rfl ?_
        refine ow_nil ?_
        refine cw_regseq ?_
        refine ow_y (y_move rfl) rfl rfl rfl ?_
        refine ow_y (y_nilCheck rfl) rfl rfl rfl ?_
        refine ow_y (y_fieldAddr 0 rfl ft_84_0 rfl) rfl rfl rfl ?_
        refine ow_y (y_load rfl pt_79 (by first | (apply In.own; (repeat (first | exact List.Mem.head _ | apply List.Mem.tail)); done) | (apply In.ro; (repeat (first | exact List.Mem.head _ | apply List.Mem.tail)); done)) rfl) rfl rfl rfl ?_
        refine ow_y (y_indexAddr (i := 1) rfl rfl el_79 sz_104 (by simp)) rfl rfl rfl ?_
        refine ow_y (y_load rfl pt_104 (.inr hm) hx2) rfl rfl rfl ?_
        rcases sign_or t2 with ⟨c1, rfl⟩ | ⟨u40, v40, he40, hu40, hn40⟩
        · refine ow_y (y_assert_yes rfl cc_108) rfl rfl rfl ?_
          refine ow_y (y_move rfl) rfl rfl rfl ?_
          refine ow_y (y_extract rfl rfl) rfl rfl rfl ?_
          refine ow_y (y_extract rfl rfl) rfl rfl rfl ?_
          refine ow_y (y_assign rfl) rfl rfl rfl ?_
          refine ow_y (y_assign rfl) rfl rfl rfl ?_
          refine ow_nil ?_
          refine cw_regseq ?_
          refine ow_y (y_move rfl) rfl rfl rfl ?_
          refine ow_y (y_move rfl) rfl rfl rfl ?_
          refine ow_skip rfl rfl rfl ?_
          refine ow_y (y_pick_f rfl rfl) rfl rfl rfl ?_
          refine ow_y (y_move rfl) rfl rfl rfl ?_
          refine ow_skip rfl rfl rfl ?_
          refine ow_skip rfl rfl rfl ?_
          refine ow_y (y_pick_f rfl rfl) rfl rfl rfl ?_
          refine ow_nil ?_
          refine cw_if_f rfl ?_
          refine cw_skip ?_
          repeat with_reducible first | refine thenQ_ret ?_ | refine thenQ_normal ?_ | refine thenQ_exit ?_ | refine blockQ_ret ?_ | refine blockQ_normal ?_ | refine blockQ_exit_same ?_ | refine blockQ_exit_ne rfl ?_
          refine ⟨([], ⟨t1 :: .sign c1 :: tl, syn, rng⟩, _), _, ?_, (by repeat (first | exact EnvLe.nil _ | refine EnvLe.cons rfl ?_)), (by repeat (first | exact Split.nil | (apply Split.cons; · repeat (first | exact Pick.here | apply Pick.there)) | exact Split.whole _ | exact Split.front _ _ rfl | exact Split.back _ _ rfl | exact Split.app_nil _ | apply Split.skip))⟩
          exact ⟨by rw [label_t hn30], hs0, hfit⟩
        · refine ow_y (y_assert_no (congrArg some he40) hu40 cc_108 zt_108) rfl rfl rfl ?_
          refine ow_y (y_move rfl) rfl rfl rfl ?_
          refine ow_y (y_extract rfl rfl) rfl rfl rfl ?_
          refine ow_y (y_extract rfl rfl) rfl rfl rfl ?_
          refine ow_y (y_assign rfl) rfl rfl rfl ?_
          refine ow_y (y_assign rfl) rfl rfl rfl ?_
          refine ow_nil ?_
          refine cw_regseq ?_
          refine ow_y (y_move rfl) rfl rfl rfl ?_
          refine ow_y (y_move rfl) rfl rfl rfl ?_
          refine ow_skip rfl rfl rfl ?_
          refine ow_y (y_pick_f rfl rfl) rfl rfl rfl ?_
          refine ow_y (y_move rfl) rfl rfl rfl ?_
          refine ow_skip rfl rfl rfl ?_
          refine ow_skip rfl rfl rfl ?_
          refine ow_y (y_pick_f rfl rfl) rfl rfl rfl ?_
          refine ow_nil ?_
          refine cw_if_f rfl ?_
          refine cw_skip ?_
          repeat with_reducible first | refine thenQ_ret ?_ | refine thenQ_normal ?_ | refine thenQ_exit ?_ | refine blockQ_ret ?_ | refine blockQ_normal ?_ | refine blockQ_exit_same ?_ | refine blockQ_exit_ne rfl ?_
          refine ⟨([], ⟨t1 :: t2 :: tl, syn, rng⟩, _), _, ?_, (by repeat (first | exact EnvLe.nil _ | refine EnvLe.cons rfl ?_)), (by repeat (first | exact Split.nil | (apply Split.cons; · repeat (first | exact Pick.here | apply Pick.there)) | exact Split.whole _ | exact Split.front _ _ rfl | exact Split.back _ _ rfl | exact Split.app_nil _ | apply Split.skip))⟩
          exact ⟨by rw [label_t hn30], hs0, hfit⟩
    · simp only [cmpP] at h22
      refine ow_nil ?_
      refine cw_if_f rfl ?_
      refine cw_skip ?_
      repeat with_reducible first | refine thenQ_ret ?_ | refine thenQ_normal ?_ | refine thenQ_exit ?_ | refine blockQ_ret ?_ | refine blockQ_normal ?_ | refine blockQ_exit_same ?_ | refine blockQ_exit_ne rfl ?_
      refine ⟨([], ⟨ts, syn, rng⟩, _), _, ?_, (by repeat (first | exact EnvLe.nil _ | refine EnvLe.cons rfl ?_)), (by repeat (first | exact Split.nil | (apply Split.cons; · repeat (first | exact Pick.here | apply Pick.there)) | exact Split.whole _ | exact Split.front _ _ rfl | exact Split.back _ _ rfl | exact Split.app_nil _ | apply Split.skip))⟩
      exact ⟨by rw [label_short h22], hs0, hfit⟩
  · rintro ⟨lab, ⟨ts1, syn1, rng1⟩, sl1⟩ ⟨hlab, hs1, hfit1⟩
    simp only at hlab hs1 hfit1
    refine cw_seq ?_
    refine cw_regseq ?_
    refine ow_y (y_move rfl) rfl rfl rfl ?_
    refine ow_y (y_nilCheck rfl) rfl rfl rfl ?_
    refine ow_y (y_fieldAddr 0 rfl ft_84_0 rfl) rfl rfl rfl ?_
    refine ow_y (y_load rfl pt_79 (by first | (apply In.own; (repeat (first | exact List.Mem.head _ | apply List.Mem.tail)); done) | (apply In.ro; (repeat (first | exact List.Mem.head _ | apply List.Mem.tail)); done)) rfl) rfl rfl rfl ?_
    obtain ⟨ad1, c1, hsl1, hsr1⟩ := id hs1
    subst hsl1
    refine ow_y (y_lenSl rfl el_79) rfl rfl rfl ?_
    refine ow_cmp rfl rfl rfl rfl rfl (fun h75 => ?_) (fun h75 => ?_)
    · simp only [cmpP] at h75
      refine ow_nil ?_
      refine cw_if_t rfl ?_
      refine cw_regseq ?_
      refine ow_y (y_move rfl) rfl rfl rfl ?_
      refine ow_y (y_assign rfl) rfl rfl rfl ?_
      refine ow_y (y_assign rfl) rfl rfl rfl ?_
      refine ow_nil ?_
      refine cw_ret ?_
      repeat with_reducible first | refine thenQ_ret ?_ | refine thenQ_normal ?_ | refine thenQ_exit ?_ | refine blockQ_ret ?_ | refine blockQ_normal ?_ | refine blockQ_exit_same ?_ | refine blockQ_exit_ne rfl ?_
      refine body_ret (.two (.tmp rfl) (.tmp rfl)) ?_
      exact ⟨_, [], Split.whole _, post_none hlab (List.eq_nil_of_length_eq_zero (by simpa using h75)) hs1⟩
    · simp only [cmpP] at h75
      refine ow_nil ?_
      refine cw_if_f rfl ?_
      refine cw_skip ?_
      repeat with_reducible first | refine thenQ_ret ?_ | refine thenQ_normal ?_ | refine thenQ_exit ?_ | refine blockQ_ret ?_ | refine blockQ_normal ?_ | refine blockQ_exit_same ?_ | refine blockQ_exit_ne rfl ?_
      have hne1 : ts1 ≠ [] := by rintro rfl; exact h75 rfl
      obtain ⟨t, tl, hts1⟩ := List.exists_cons_of_ne_nil hne1
      subst hts1
      refine cw_seq_cut (α := List UInt8 × Value) (fun x => [(0, .pointer (some ⟨rb, 0, none⟩)), (1, .int .i64 n), (4, str lab), (5, .pointer none), (10, str x.1)]) (fun x => [rdC rb x.2 ⟨tl, syn1, rng1⟩]) (fun x => x.1 = wordOfT (some t) ∧ TokS R x.2 tl) ?_ ?_
      · refine cw_region ?_
        refine ow_y (y_move rfl) rfl rfl rfl ?_
        refine ow_call rfl rfl (by rfl) ct_55 (rd_frame (next_cons R rb _ t tl syn1 rng1 hs1) (by repeat (first | exact Split.nil | (apply Split.cons; · repeat (first | exact Pick.here | apply Pick.there)) | exact Split.whole _ | exact Split.front _ _ rfl | exact Split.back _ _ rfl | exact Split.app_nil _ | apply Split.skip))) ?_
        rintro _ _ ⟨sl2, rfl, rfl, hsl2⟩
        rcases name_or t with ⟨l3, rfl⟩ | ⟨u80, v80, he80, hu80, hn80⟩
        · refine ow_y (y_assert_yes rfl cc_109) rfl rfl rfl ?_
          refine ow_y (y_move rfl) rfl rfl rfl ?_
          refine ow_y (y_extract rfl rfl) rfl rfl rfl ?_
          refine ow_y (y_extract rfl rfl) rfl rfl rfl ?_
          refine ow_y (y_assign rfl) rfl rfl rfl ?_
          refine ow_y (y_assign rfl) rfl rfl rfl ?_
          refine ow_nil ?_
          repeat with_reducible first | refine thenQ_ret ?_ | refine thenQ_normal ?_ | refine thenQ_exit ?_ | refine blockQ_ret ?_ | refine blockQ_normal ?_ | refine blockQ_exit_same ?_ | refine blockQ_exit_ne rfl ?_
          refine ⟨(l3, sl2), _, ?_, (by repeat (first | exact EnvLe.nil _ | refine EnvLe.cons rfl ?_)), (by repeat (first | exact Split.nil | (apply Split.cons; · repeat (first | exact Pick.here | apply Pick.there)) | exact Split.whole _ | exact Split.front _ _ rfl | exact Split.back _ _ rfl | exact Split.app_nil _ | apply Split.skip))⟩
          exact ⟨rfl, hsl2⟩
        · refine ow_y (y_assert_no (congrArg some he80) hu80 cc_109 zt_109) rfl rfl rfl ?_
          refine ow_y (y_move rfl) rfl rfl rfl ?_
          refine ow_y (y_extract rfl rfl) rfl rfl rfl ?_
          refine ow_y (y_extract rfl rfl) rfl rfl rfl ?_
          refine ow_y (y_assign rfl) rfl rfl rfl ?_
          refine ow_y (y_assign rfl) rfl rfl rfl ?_
          refine ow_nil ?_
          repeat with_reducible first | refine thenQ_ret ?_ | refine thenQ_normal ?_ | refine thenQ_exit ?_ | refine blockQ_ret ?_ | refine blockQ_normal ?_ | refine blockQ_exit_same ?_ | refine blockQ_exit_ne rfl ?_
          refine ⟨([], sl2), _, ?_, (by repeat (first | exact EnvLe.nil _ | refine EnvLe.cons rfl ?_)), (by repeat (first | exact Split.nil | (apply Split.cons; · repeat (first | exact Pick.here | apply Pick.there)) | exact Split.whole _ | exact Split.front _ _ rfl | exact Split.back _ _ rfl | exact Split.app_nil _ | apply Split.skip))⟩
          exact ⟨(word_no hn80).symm, hsl2⟩
      · rintro ⟨w3, sl2⟩ ⟨hw3, hsl2⟩
        simp only at hw3 hsl2
        refine cw_seq_cut (α := Rd × Value × Option (Am.Item × Nat)) (fun x => [(0, .pointer (some ⟨rb, 0, none⟩)), (4, str lab), (5, itP x.2.2)]) (fun x => rdC rb x.2.1 x.1 :: itB x.2.2) (fun x => LineIt n ⟨t :: tl, syn1, rng1⟩ x.2.2 x.1 ∧ TokS R x.2.1 x.1.ts) ?_ ?_
        · refine cw_regseq ?_
          refine ow_y (y_move rfl) rfl rfl rfl ?_
          refine ow_call rfl rfl (by rfl) ct_54 (operation_c R _ hR w3) ?_
          rintro _ _ ⟨rfl, rfl⟩
          refine ow_y (y_assign rfl) rfl rfl rfl ?_
          refine ow_nil ?_
          refine cw_block ?_
          refine cw_regseq ?_
          refine ow_y (y_move rfl) rfl rfl rfl ?_
          refine ow_streq rfl rfl rfl rfl (fun h90 => ?_) (fun h90 => ?_)
          · refine ow_y (y_assign rfl) rfl rfl rfl ?_
            refine ow_nil ?_
            refine cw_if_t rfl ?_
            refine cw_regseq ?_
            refine ow_y (y_move rfl) rfl rfl rfl ?_
            refine ow_call rfl rfl (by rfl) ct_55 (rd_frame (next_c R rb sl2 ⟨tl, syn1, rng1⟩ hsl2) (by repeat (first | exact Split.nil | (apply Split.cons; · repeat (first | exact Pick.here | apply Pick.there)) | exact Split.whole _ | exact Split.front _ _ rfl | exact Split.back _ _ rfl | exact Split.app_nil _ | apply Split.skip))) ?_
            rintro _ _ ⟨sl3, rfl, rfl, hsl3⟩
            rcases next_num ⟨tl, syn1, rng1⟩ with ⟨m3, hk3⟩ | hk3 | ⟨u94, v94, he94, hu94, hn94⟩
            · refine ow_y (y_assert_yes (congrArg (fun x => some (encO x)) hk3) cc_114) rfl rfl rfl ?_
              refine ow_y (y_move rfl) rfl rfl rfl ?_
              refine ow_y (y_extract rfl rfl) rfl rfl rfl ?_
              refine ow_y (y_extract rfl rfl) rfl rfl rfl ?_
              refine ow_y (y_assign rfl) rfl rfl rfl ?_
              refine ow_y (y_assign rfl) rfl rfl rfl ?_
              refine ow_nil ?_
              refine cw_regseq ?_
              refine ow_y (y_move rfl) rfl rfl rfl ?_
              refine ow_y (y_move rfl) rfl rfl rfl ?_
              refine ow_y (y_move rfl) rfl rfl rfl ?_
              refine ow_y (y_nilCheck rfl) rfl rfl rfl ?_
              refine ow_y (y_fieldAddr 1 rfl ft_84_1 rfl) rfl rfl rfl ?_
              refine ow_y (y_load rfl pt_4 (by first | (apply In.own; (repeat (first | exact List.Mem.head _ | apply List.Mem.tail)); done) | (apply In.ro; (repeat (first | exact List.Mem.head _ | apply List.Mem.tail)); done)) rfl) rfl rfl rfl ?_
              refine ow_y (y_move rfl) rfl rfl rfl ?_
              refine ow_split (t := 103) rfl (fun hq1 => ?_) (fun hq1 => ?_)
              · refine ow_skip rfl rfl rfl ?_
                refine ow_skip rfl rfl rfl ?_
                refine ow_y (y_pick_t rfl rfl) rfl rfl rfl ?_
                refine ow_y (y_move rfl) rfl rfl rfl ?_
                refine ow_cmp rfl rfl rfl rfl rfl (fun h108 => ?_) (fun h108 => ?_)
                · simp only [cmpP] at h108
                  refine ow_y (y_nilCheck rfl) rfl rfl rfl ?_
                  refine ow_y (y_fieldAddr 1 rfl ft_84_1 rfl) rfl rfl rfl ?_
                  refine ow_store rfl rfl rfl sz_4 rfl (by repeat (first | exact Upd.here | apply Upd.there)) (by repeat (first | exact SetL.here | apply SetL.there)) ?_
                  refine ow_y (y_nilCheck rfl) rfl rfl rfl ?_
                  refine ow_y (y_fieldAddr 2 rfl ft_84_2 rfl) rfl rfl rfl ?_
                  refine ow_store rfl rfl rfl sz_4 rfl (by repeat (first | exact Upd.here | apply Upd.there)) (by repeat (first | exact SetL.here | apply SetL.there)) ?_
                  refine ow_nil ?_
                  refine cw_region ?_
                  refine ow_y (y_move rfl) rfl rfl rfl ?_
                  refine ow_y (y_move rfl) rfl rfl rfl ?_
                  refine ow_y (y_convInt rfl cv_114_36) rfl rfl rfl ?_
                  refine ow_y (y_build (zs := [.int .i64 0, .int .i64 0, .int .i64 0, .int .i64 0, .int .i64 0, .int .i64 0, .int .i64 0, .string ⟨#[]⟩, .bool false, .int .u32 0]) (fun i => [(0, 1), (1, 5), (6, 2), (8, 1), (9, 1)][i]?) (by repeat (first | exact EvPs.nil | apply EvPs.cons rfl)) (by repeat (first | exact FillL.nil | (apply FillL.cons rfl rfl rfl; · repeat (first | exact SetLs.nil | (apply SetLs.cons; · repeat (first | exact SetL.here | apply SetL.there)))))) (fun _ => by kernel_rfl)) rfl rfl rfl ?_
                  refine ow_box rfl rfl rfl rfl (fun b117 => ?_)
                  refine ow_y (y_assign rfl) rfl rfl rfl ?_
                  refine ow_nil ?_
                  repeat with_reducible first | refine thenQ_ret ?_ | refine thenQ_normal ?_ | refine thenQ_exit ?_ | refine blockQ_ret ?_ | refine blockQ_normal ?_ | refine blockQ_exit_same ?_ | refine blockQ_exit_ne rfl ?_
                  refine ⟨(⟨(Rd.next ⟨tl, syn1, rng1⟩).2.ts, true, true⟩, sl3, some (⟨n, ⟨0, 0, 0, 0, 0⟩, (0, []), true, IntKind.u32.wrap (m3 : Int)⟩, b117)), _, ?_, (by repeat (first | exact EnvLe.nil _ | refine EnvLe.cons rfl ?_)), (by repeat (first | exact Split.nil | (apply Split.cons; · repeat (first | exact Pick.here | apply Pick.there)) | exact Split.whole _ | exact Split.front _ _ rfl | exact Split.back _ _ rfl | exact Split.app_nil _ | apply Split.skip))⟩
                  refine ⟨?_, hsl3⟩
                  simp only [LineIt]
                  rw [wrap32, item_num (t := t) hw3 h90 hk3]
                  simp_all <;> omega
                · simp only [cmpP] at h108
                  refine ow_y (y_nilCheck rfl) rfl rfl rfl ?_
                  refine ow_y (y_fieldAddr 1 rfl ft_84_1 rfl) rfl rfl rfl ?_
                  refine ow_store rfl rfl rfl sz_4 rfl (by repeat (first | exact Upd.here | apply Upd.there)) (by repeat (first | exact SetL.here | apply SetL.there)) ?_
                  refine ow_y (y_nilCheck rfl) rfl rfl rfl ?_
                  refine ow_y (y_fieldAddr 2 rfl ft_84_2 rfl) rfl rfl rfl ?_
                  refine ow_store rfl rfl rfl sz_4 rfl (by repeat (first | exact Upd.here | apply Upd.there)) (by repeat (first | exact SetL.here | apply SetL.there)) ?_
                  refine ow_nil ?_
                  refine cw_region ?_
                  refine ow_y (y_move rfl) rfl rfl rfl ?_
                  refine ow_y (y_move rfl) rfl rfl rfl ?_
                  refine ow_y (y_convInt rfl cv_114_36) rfl rfl rfl ?_
                  refine ow_y (y_build (zs := [.int .i64 0, .int .i64 0, .int .i64 0, .int .i64 0, .int .i64 0, .int .i64 0, .int .i64 0, .string ⟨#[]⟩, .bool false, .int .u32 0]) (fun i => [(0, 1), (1, 5), (6, 2), (8, 1), (9, 1)][i]?) (by repeat (first | exact EvPs.nil | apply EvPs.cons rfl)) (by repeat (first | exact FillL.nil | (apply FillL.cons rfl rfl rfl; · repeat (first | exact SetLs.nil | (apply SetLs.cons; · repeat (first | exact SetL.here | apply SetL.there)))))) (fun _ => by kernel_rfl)) rfl rfl rfl ?_
                  refine ow_box rfl rfl rfl rfl (fun b117 => ?_)
                  refine ow_y (y_assign rfl) rfl rfl rfl ?_
                  refine ow_nil ?_
                  repeat with_reducible first | refine thenQ_ret ?_ | refine thenQ_normal ?_ | refine thenQ_exit ?_ | refine blockQ_ret ?_ | refine blockQ_normal ?_ | refine blockQ_exit_same ?_ | refine blockQ_exit_ne rfl ?_
                  refine ⟨(⟨(Rd.next ⟨tl, syn1, rng1⟩).2.ts, true, false⟩, sl3, some (⟨n, ⟨0, 0, 0, 0, 0⟩, (0, []), true, IntKind.u32.wrap (m3 : Int)⟩, b117)), _, ?_, (by repeat (first | exact EnvLe.nil _ | refine EnvLe.cons rfl ?_)), (by repeat (first | exact Split.nil | (apply Split.cons; · repeat (first | exact Pick.here | apply Pick.there)) | exact Split.whole _ | exact Split.front _ _ rfl | exact Split.back _ _ rfl | exact Split.app_nil _ | apply Split.skip))⟩
                  refine ⟨?_, hsl3⟩
                  simp only [LineIt]
                  rw [wrap32, item_num (t := t) hw3 h90 hk3]
                  simp_all <;> omega
              · refine ow_y (y_move rfl) rfl rfl rfl ?_
                refine ow_y (y_not rfl) rfl rfl rfl ?_
                refine ow_y (y_pick_f rfl rfl) rfl rfl rfl ?_
                refine ow_y (y_move rfl) rfl rfl rfl ?_
                refine ow_cmp rfl rfl rfl rfl rfl (fun h108 => ?_) (fun h108 => ?_)
                · simp only [cmpP] at h108
                  refine ow_y (y_nilCheck rfl) rfl rfl rfl ?_
                  refine ow_y (y_fieldAddr 1 rfl ft_84_1 rfl) rfl rfl rfl ?_
                  refine ow_store rfl rfl rfl sz_4 rfl (by repeat (first | exact Upd.here | apply Upd.there)) (by repeat (first | exact SetL.here | apply SetL.there)) ?_
                  refine ow_y (y_nilCheck rfl) rfl rfl rfl ?_
                  refine ow_y (y_fieldAddr 2 rfl ft_84_2 rfl) rfl rfl rfl ?_
                  refine ow_store rfl rfl rfl sz_4 rfl (by repeat (first | exact Upd.here | apply Upd.there)) (by repeat (first | exact SetL.here | apply SetL.there)) ?_
                  refine ow_nil ?_
                  refine cw_region ?_
                  refine ow_y (y_move rfl) rfl rfl rfl ?_
                  refine ow_y (y_move rfl) rfl rfl rfl ?_
                  refine ow_y (y_convInt rfl cv_114_36) rfl rfl rfl ?_
                  refine ow_y (y_build (zs := [.int .i64 0, .int .i64 0, .int .i64 0, .int .i64 0, .int .i64 0, .int .i64 0, .int .i64 0, .string ⟨#[]⟩, .bool false, .int .u32 0]) (fun i => [(0, 1), (1, 5), (6, 2), (8, 1), (9, 1)][i]?) (by repeat (first | exact EvPs.nil | apply EvPs.cons rfl)) (by repeat (first | exact FillL.nil | (apply FillL.cons rfl rfl rfl; · repeat (first | exact SetLs.nil | (apply SetLs.cons; · repeat (first | exact SetL.here | apply SetL.there)))))) (fun _ => by kernel_rfl)) rfl rfl rfl ?_
                  refine ow_box rfl rfl rfl rfl (fun b117 => ?_)
                  refine ow_y (y_assign rfl) rfl rfl rfl ?_
                  refine ow_nil ?_
                  repeat with_reducible first | refine thenQ_ret ?_ | refine thenQ_normal ?_ | refine thenQ_exit ?_ | refine blockQ_ret ?_ | refine blockQ_normal ?_ | refine blockQ_exit_same ?_ | refine blockQ_exit_ne rfl ?_
                  refine ⟨(⟨(Rd.next ⟨tl, syn1, rng1⟩).2.ts, false, true⟩, sl3, some (⟨n, ⟨0, 0, 0, 0, 0⟩, (0, []), true, IntKind.u32.wrap (m3 : Int)⟩, b117)), _, ?_, (by repeat (first | exact EnvLe.nil _ | refine EnvLe.cons rfl ?_)), (by repeat (first | exact Split.nil | (apply Split.cons; · repeat (first | exact Pick.here | apply Pick.there)) | exact Split.whole _ | exact Split.front _ _ rfl | exact Split.back _ _ rfl | exact Split.app_nil _ | apply Split.skip))⟩
                  refine ⟨?_, hsl3⟩
                  simp only [LineIt]
                  rw [wrap32, item_num (t := t) hw3 h90 hk3]
                  simp_all <;> omega
                · simp only [cmpP] at h108
                  refine ow_y (y_nilCheck rfl) rfl rfl rfl ?_
                  refine ow_y (y_fieldAddr 1 rfl ft_84_1 rfl) rfl rfl rfl ?_
                  refine ow_store rfl rfl rfl sz_4 rfl (by repeat (first | exact Upd.here | apply Upd.there)) (by repeat (first | exact SetL.here | apply SetL.there)) ?_
                  refine ow_y (y_nilCheck rfl) rfl rfl rfl ?_
                  refine ow_y (y_fieldAddr 2 rfl ft_84_2 rfl) rfl rfl rfl ?_
                  refine ow_store rfl rfl rfl sz_4 rfl (by repeat (first | exact Upd.here | apply Upd.there)) (by repeat (first | exact SetL.here | apply SetL.there)) ?_
                  refine ow_nil ?_
                  refine cw_region ?_
                  refine ow_y (y_move rfl) rfl rfl rfl ?_
                  refine ow_y (y_move rfl) rfl rfl rfl ?_
                  refine ow_y (y_convInt rfl cv_114_36) rfl rfl rfl ?_
                  refine ow_y (y_build (zs := [.int .i64 0, .int .i64 0, .int .i64 0, .int .i64 0, .int .i64 0, .int .i64 0, .int .i64 0, .string ⟨#[]⟩, .bool false, .int .u32 0]) (fun i => [(0, 1), (1, 5), (6, 2), (8, 1), (9, 1)][i]?) (by repeat (first | exact EvPs.nil | apply EvPs.cons rfl)) (by repeat (first | exact FillL.nil | (apply FillL.cons rfl rfl rfl; · repeat (first | exact SetLs.nil | (apply SetLs.cons; · repeat (first | exact SetL.here | apply SetL.there)))))) (fun _ => by kernel_rfl)) rfl rfl rfl ?_
                  refine ow_box rfl rfl rfl rfl (fun b117 => ?_)
                  refine ow_y (y_assign rfl) rfl rfl rfl ?_
                  refine ow_nil ?_
                  repeat with_reducible first | refine thenQ_ret ?_ | refine thenQ_normal ?_ | refine thenQ_exit ?_ | refine blockQ_ret ?_ | refine blockQ_normal ?_ | refine blockQ_exit_same ?_ | refine blockQ_exit_ne rfl ?_
                  refine ⟨(⟨(Rd.next ⟨tl, syn1, rng1⟩).2.ts, false, false⟩, sl3, some (⟨n, ⟨0, 0, 0, 0, 0⟩, (0, []), true, IntKind.u32.wrap (m3 : Int)⟩, b117)), _, ?_, (by repeat (first | exact EnvLe.nil _ | refine EnvLe.cons rfl ?_)), (by repeat (first | exact Split.nil | (apply Split.cons; · repeat (first | exact Pick.here | apply Pick.there)) | exact Split.whole _ | exact Split.front _ _ rfl | exact Split.back _ _ rfl | exact Split.app_nil _ | apply Split.skip))⟩
                  refine ⟨?_, hsl3⟩
                  simp only [LineIt]
                  rw [wrap32, item_num (t := t) hw3 h90 hk3]
                  simp_all <;> omega
            · refine ow_y (y_assert_nil (congrArg (fun x => some (encO x)) hk3) cc_114 zt_114) rfl rfl rfl ?_
              refine ow_y (y_move rfl) rfl rfl rfl ?_
              refine ow_y (y_extract rfl rfl) rfl rfl rfl ?_
              refine ow_y (y_extract rfl rfl) rfl rfl rfl ?_
              refine ow_y (y_assign rfl) rfl rfl rfl ?_
              refine ow_y (y_assign rfl) rfl rfl rfl ?_
              refine ow_nil ?_
              refine cw_regseq ?_
              refine ow_y (y_move rfl) rfl rfl rfl ?_
              refine ow_y (y_move rfl) rfl rfl rfl ?_
              refine ow_y (y_move rfl) rfl rfl rfl ?_
              refine ow_y (y_nilCheck rfl) rfl rfl rfl ?_
              refine ow_y (y_fieldAddr 1 rfl ft_84_1 rfl) rfl rfl rfl ?_
              refine ow_y (y_load rfl pt_4 (by first | (apply In.own; (repeat (first | exact List.Mem.head _ | apply List.Mem.tail)); done) | (apply In.ro; (repeat (first | exact List.Mem.head _ | apply List.Mem.tail)); done)) rfl) rfl rfl rfl ?_
              refine ow_y (y_move rfl) rfl rfl rfl ?_
              refine ow_split (t := 103) rfl (fun hq2 => ?_) (fun hq2 => ?_)
              · refine ow_skip rfl rfl rfl ?_
                refine ow_skip rfl rfl rfl ?_
                refine ow_y (y_pick_t rfl rfl) rfl rfl rfl ?_
                refine ow_y (y_move rfl) rfl rfl rfl ?_
                refine ow_cmp_f rfl rfl rfl rfl rfl (by simp only [cmpP]; try omega) ?_
                refine ow_y (y_nilCheck rfl) rfl rfl rfl ?_
                refine ow_y (y_fieldAddr 1 rfl ft_84_1 rfl) rfl rfl rfl ?_
                refine ow_store rfl rfl rfl sz_4 rfl (by repeat (first | exact Upd.here | apply Upd.there)) (by repeat (first | exact SetL.here | apply SetL.there)) ?_
                refine ow_y (y_nilCheck rfl) rfl rfl rfl ?_
                refine ow_y (y_fieldAddr 2 rfl ft_84_2 rfl) rfl rfl rfl ?_
                refine ow_store rfl rfl rfl sz_4 rfl (by repeat (first | exact Upd.here | apply Upd.there)) (by repeat (first | exact SetL.here | apply SetL.there)) ?_
                refine ow_nil ?_
                refine cw_region ?_
                refine ow_y (y_move rfl) rfl rfl rfl ?_
                refine ow_y (y_move rfl) rfl rfl rfl ?_
                refine ow_y (y_convInt rfl cv_114_36) rfl rfl rfl ?_
                refine ow_y (y_build (zs := [.int .i64 0, .int .i64 0, .int .i64 0, .int .i64 0, .int .i64 0, .int .i64 0, .int .i64 0, .string ⟨#[]⟩, .bool false, .int .u32 0]) (fun i => [(0, 1), (1, 5), (6, 2), (8, 1), (9, 1)][i]?) (by repeat (first | exact EvPs.nil | apply EvPs.cons rfl)) (by repeat (first | exact FillL.nil | (apply FillL.cons rfl rfl rfl; · repeat (first | exact SetLs.nil | (apply SetLs.cons; · repeat (first | exact SetL.here | apply SetL.there)))))) (fun _ => by kernel_rfl)) rfl rfl rfl ?_
                refine ow_box rfl rfl rfl rfl (fun b117 => ?_)
                refine ow_y (y_assign rfl) rfl rfl rfl ?_
                refine ow_nil ?_
                repeat with_reducible first | refine thenQ_ret ?_ | refine thenQ_normal ?_ | refine thenQ_exit ?_ | refine blockQ_ret ?_ | refine blockQ_normal ?_ | refine blockQ_exit_same ?_ | refine blockQ_exit_ne rfl ?_
                refine ⟨(⟨(Rd.next ⟨tl, syn1, rng1⟩).2.ts, true, false⟩, sl3, some (⟨n, ⟨0, 0, 0, 0, 0⟩, (0, []), true, 0⟩, b117)), _, ?_, (by repeat (first | exact EnvLe.nil _ | refine EnvLe.cons rfl ?_)), (by repeat (first | exact Split.nil | (apply Split.cons; · repeat (first | exact Pick.here | apply Pick.there)) | exact Split.whole _ | exact Split.front _ _ rfl | exact Split.back _ _ rfl | exact Split.app_nil _ | apply Split.skip))⟩
                refine ⟨?_, hsl3⟩
                simp only [LineIt]
                rw [item_nonum (t := t) hw3 h90 (fun m hm => by rw [hk3] at hm; cases hm)]
              · refine ow_y (y_move rfl) rfl rfl rfl ?_
                refine ow_y (y_not rfl) rfl rfl rfl ?_
                refine ow_y (y_pick_f rfl rfl) rfl rfl rfl ?_
                refine ow_y (y_move rfl) rfl rfl rfl ?_
                refine ow_cmp_f rfl rfl rfl rfl rfl (by simp only [cmpP]; try omega) ?_
                refine ow_y (y_nilCheck rfl) rfl rfl rfl ?_
                refine ow_y (y_fieldAddr 1 rfl ft_84_1 rfl) rfl rfl rfl ?_
                refine ow_store rfl rfl rfl sz_4 rfl (by repeat (first | exact Upd.here | apply Upd.there)) (by repeat (first | exact SetL.here | apply SetL.there)) ?_
                refine ow_y (y_nilCheck rfl) rfl rfl rfl ?_
                refine ow_y (y_fieldAddr 2 rfl ft_84_2 rfl) rfl rfl rfl ?_
                refine ow_store rfl rfl rfl sz_4 rfl (by repeat (first | exact Upd.here | apply Upd.there)) (by repeat (first | exact SetL.here | apply SetL.there)) ?_
                refine ow_nil ?_
                refine cw_region ?_
                refine ow_y (y_move rfl) rfl rfl rfl ?_
                refine ow_y (y_move rfl) rfl rfl rfl ?_
                refine ow_y (y_convInt rfl cv_114_36) rfl rfl rfl ?_
                refine ow_y (y_build (zs := [.int .i64 0, .int .i64 0, .int .i64 0, .int .i64 0, .int .i64 0, .int .i64 0, .int .i64 0, .string ⟨#[]⟩, .bool false, .int .u32 0]) (fun i => [(0, 1), (1, 5), (6, 2), (8, 1), (9, 1)][i]?) (by repeat (first | exact EvPs.nil | apply EvPs.cons rfl)) (by repeat (first | exact FillL.nil | (apply FillL.cons rfl rfl rfl; · repeat (first | exact SetLs.nil | (apply SetLs.cons; · repeat (first | exact SetL.here | apply SetL.there)))))) (fun _ => by kernel_rfl)) rfl rfl rfl ?_
                refine ow_box rfl rfl rfl rfl (fun b117 => ?_)
                refine ow_y (y_assign rfl) rfl rfl rfl ?_
                refine ow_nil ?_
                repeat with_reducible first | refine thenQ_ret ?_ | refine thenQ_normal ?_ | refine thenQ_exit ?_ | refine blockQ_ret ?_ | refine blockQ_normal ?_ | refine blockQ_exit_same ?_ | refine blockQ_exit_ne rfl ?_
                refine ⟨(⟨(Rd.next ⟨tl, syn1, rng1⟩).2.ts, true, false⟩, sl3, some (⟨n, ⟨0, 0, 0, 0, 0⟩, (0, []), true, 0⟩, b117)), _, ?_, (by repeat (first | exact EnvLe.nil _ | refine EnvLe.cons rfl ?_)), (by repeat (first | exact Split.nil | (apply Split.cons; · repeat (first | exact Pick.here | apply Pick.there)) | exact Split.whole _ | exact Split.front _ _ rfl | exact Split.back _ _ rfl | exact Split.app_nil _ | apply Split.skip))⟩
                refine ⟨?_, hsl3⟩
                simp only [LineIt]
                rw [item_nonum (t := t) hw3 h90 (fun m hm => by rw [hk3] at hm; cases hm)]
            · refine ow_y (y_assert_no (congrArg some he94) hu94 cc_114 zt_114) rfl rfl rfl ?_
              refine ow_y (y_move rfl) rfl rfl rfl ?_
              refine ow_y (y_extract rfl rfl) rfl rfl rfl ?_
              refine ow_y (y_extract rfl rfl) rfl rfl rfl ?_
              refine ow_y (y_assign rfl) rfl rfl rfl ?_
              refine ow_y (y_assign rfl) rfl rfl rfl ?_
              refine ow_nil ?_
              refine cw_regseq ?_
              refine ow_y (y_move rfl) rfl rfl rfl ?_
              refine ow_y (y_move rfl) rfl rfl rfl ?_
              refine ow_y (y_move rfl) rfl rfl rfl ?_
              refine ow_y (y_nilCheck rfl) rfl rfl rfl ?_
              refine ow_y (y_fieldAddr 1 rfl ft_84_1 rfl) rfl rfl rfl ?_
              refine ow_y (y_load rfl pt_4 (by first | (apply In.own; (repeat (first | exact List.Mem.head _ | apply List.Mem.tail)); done) | (apply In.ro; (repeat (first | exact List.Mem.head _ | apply List.Mem.tail)); done)) rfl) rfl rfl rfl ?_
              refine ow_y (y_move rfl) rfl rfl rfl ?_
              refine ow_split (t := 103) rfl (fun hq3 => ?_) (fun hq3 => ?_)
              · refine ow_skip rfl rfl rfl ?_
                refine ow_skip rfl rfl rfl ?_
                refine ow_y (y_pick_t rfl rfl) rfl rfl rfl ?_
                refine ow_y (y_move rfl) rfl rfl rfl ?_
                refine ow_cmp_f rfl rfl rfl rfl rfl (by simp only [cmpP]; try omega) ?_
                refine ow_y (y_nilCheck rfl) rfl rfl rfl ?_
                refine ow_y (y_fieldAddr 1 rfl ft_84_1 rfl) rfl rfl rfl ?_
                refine ow_store rfl rfl rfl sz_4 rfl (by repeat (first | exact Upd.here | apply Upd.there)) (by repeat (first | exact SetL.here | apply SetL.there)) ?_
                refine ow_y (y_nilCheck rfl) rfl rfl rfl ?_
                refine ow_y (y_fieldAddr 2 rfl ft_84_2 rfl) rfl rfl rfl ?_
                refine ow_store rfl rfl rfl sz_4 rfl (by repeat (first | exact Upd.here | apply Upd.there)) (by repeat (first | exact SetL.here | apply SetL.there)) ?_
                refine ow_nil ?_
                refine cw_region ?_
                refine ow_y (y_move rfl) rfl rfl rfl ?_
                refine ow_y (y_move rfl) rfl rfl rfl ?_
                refine ow_y (y_convInt rfl cv_114_36) rfl rfl rfl ?_
                refine ow_y (y_build (zs := [.int .i64 0, .int .i64 0, .int .i64 0, .int .i64 0, .int .i64 0, .int .i64 0, .int .i64 0, .string ⟨#[]⟩, .bool false, .int .u32 0]) (fun i => [(0, 1), (1, 5), (6, 2), (8, 1), (9, 1)][i]?) (by repeat (first | exact EvPs.nil | apply EvPs.cons rfl)) (by repeat (first | exact FillL.nil | (apply FillL.cons rfl rfl rfl; · repeat (first | exact SetLs.nil | (apply SetLs.cons; · repeat (first | exact SetL.here | apply SetL.there)))))) (fun _ => by kernel_rfl)) rfl rfl rfl ?_
                refine ow_box rfl rfl rfl rfl (fun b117 => ?_)
                refine ow_y (y_assign rfl) rfl rfl rfl ?_
                refine ow_nil ?_
                repeat with_reducible first | refine thenQ_ret ?_ | refine thenQ_normal ?_ | refine thenQ_exit ?_ | refine blockQ_ret ?_ | refine blockQ_normal ?_ | refine blockQ_exit_same ?_ | refine blockQ_exit_ne rfl ?_
                refine ⟨(⟨(Rd.next ⟨tl, syn1, rng1⟩).2.ts, true, false⟩, sl3, some (⟨n, ⟨0, 0, 0, 0, 0⟩, (0, []), true, 0⟩, b117)), _, ?_, (by repeat (first | exact EnvLe.nil _ | refine EnvLe.cons rfl ?_)), (by repeat (first | exact Split.nil | (apply Split.cons; · repeat (first | exact Pick.here | apply Pick.there)) | exact Split.whole _ | exact Split.front _ _ rfl | exact Split.back _ _ rfl | exact Split.app_nil _ | apply Split.skip))⟩
                refine ⟨?_, hsl3⟩
                simp only [LineIt]
                rw [item_nonum (t := t) hw3 h90 (hn94)]
              · refine ow_y (y_move rfl) rfl rfl rfl ?_
                refine ow_y (y_not rfl) rfl rfl rfl ?_
                refine ow_y (y_pick_f rfl rfl) rfl rfl rfl ?_
                refine ow_y (y_move rfl) rfl rfl rfl ?_
                refine ow_cmp_f rfl rfl rfl rfl rfl (by simp only [cmpP]; try omega) ?_
                refine ow_y (y_nilCheck rfl) rfl rfl rfl ?_
                refine ow_y (y_fieldAddr 1 rfl ft_84_1 rfl) rfl rfl rfl ?_
                refine ow_store rfl rfl rfl sz_4 rfl (by repeat (first | exact Upd.here | apply Upd.there)) (by repeat (first | exact SetL.here | apply SetL.there)) ?_
                refine ow_y (y_nilCheck rfl) rfl rfl rfl ?_
                refine ow_y (y_fieldAddr 2 rfl ft_84_2 rfl) rfl rfl rfl ?_
                refine ow_store rfl rfl rfl sz_4 rfl (by repeat (first | exact Upd.here | apply Upd.there)) (by repeat (first | exact SetL.here | apply SetL.there)) ?_
                refine ow_nil ?_
                refine cw_region ?_
                refine ow_y (y_move rfl) rfl rfl rfl ?_
                refine ow_y (y_move rfl) rfl rfl rfl ?_
                refine ow_y (y_convInt rfl cv_114_36) rfl rfl rfl ?_
                refine ow_y (y_build (zs := [.int .i64 0, .int .i64 0, .int .i64 0, .int .i64 0, .int .i64 0, .int .i64 0, .int .i64 0, .string ⟨#[]⟩, .bool false, .int .u32 0]) (fun i => [(0, 1), (1, 5), (6, 2), (8, 1), (9, 1)][i]?) (by repeat (first | exact EvPs.nil | apply EvPs.cons rfl)) (by repeat (first | exact FillL.nil | (apply FillL.cons rfl rfl rfl; · repeat (first | exact SetLs.nil | (apply SetLs.cons; · repeat (first | exact SetL.here | apply SetL.there)))))) (fun _ => by kernel_rfl)) rfl rfl rfl ?_
                refine ow_box rfl rfl rfl rfl (fun b117 => ?_)
                refine ow_y (y_assign rfl) rfl rfl rfl ?_
                refine ow_nil ?_
                repeat with_reducible first | refine thenQ_ret ?_ | refine thenQ_normal ?_ | refine thenQ_exit ?_ | refine blockQ_ret ?_ | refine blockQ_normal ?_ | refine blockQ_exit_same ?_ | refine blockQ_exit_ne rfl ?_
                refine ⟨(⟨(Rd.next ⟨tl, syn1, rng1⟩).2.ts, true, false⟩, sl3, some (⟨n, ⟨0, 0, 0, 0, 0⟩, (0, []), true, 0⟩, b117)), _, ?_, (by repeat (first | exact EnvLe.nil _ | refine EnvLe.cons rfl ?_)), (by repeat (first | exact Split.nil | (apply Split.cons; · repeat (first | exact Pick.here | apply Pick.there)) | exact Split.whole _ | exact Split.front _ _ rfl | exact Split.back _ _ rfl | exact Split.app_nil _ | apply Split.skip))⟩
                refine ⟨?_, hsl3⟩
                simp only [LineIt]
                rw [item_nonum (t := t) hw3 h90 (hn94)]
          · refine ow_y (y_assign rfl) rfl rfl rfl ?_
            refine ow_nil ?_
            refine cw_if_f rfl ?_
            refine cw_regseq ?_
            refine ow_y (y_move rfl) rfl rfl rfl ?_
            refine ow_cmp rfl rfl rfl rfl rfl (fun h120 => ?_) (fun h120 => ?_)
            · simp only [cmpP] at h120
              refine ow_y (y_assign rfl) rfl rfl rfl ?_
              refine ow_nil ?_
              refine cw_if_t rfl ?_
              refine cw_regseq ?_
              refine ow_y (y_move rfl) rfl rfl rfl ?_
              refine ow_y (y_move rfl) rfl rfl rfl ?_
              refine ow_call rfl rfl (by rfl) ct_56 (rd_frame (operands_c R rb sl2 ⟨tl, syn1, rng1⟩ (opOf w3) hR hsl2 (hfit1.sub (fun t ht => .tail _ ht))) (by repeat (first | exact Split.nil | (apply Split.cons; · repeat (first | exact Pick.here | apply Pick.there)) | exact Split.whole _ | exact Split.front _ _ rfl | exact Split.back _ _ rfl | exact Split.app_nil _ | apply Split.skip))) ?_
              rintro _ _ ⟨sl4, rfl, rfl, hsl4⟩
              refine ow_y (y_move rfl) rfl rfl rfl ?_
              refine ow_y (y_extract rfl rfl) rfl rfl rfl ?_
              refine ow_y (y_extract rfl rfl) rfl rfl rfl ?_
              refine ow_alloc rfl rfl zt_33 rfl (fun b15 => ?_)
              refine ow_alloc rfl rfl zt_62 rfl (fun b16 => ?_)
              refine ow_storeAgg rfl rfl rfl sz_33 rfl rfl (by repeat (first | exact Upd.here | apply Upd.there)) (by repeat (first | exact SetLs.nil | (apply SetLs.cons; · repeat (first | exact SetL.here | apply SetL.there)))) ?_
              refine ow_storeAgg rfl rfl rfl sz_62 rfl rfl (by repeat (first | exact Upd.here | apply Upd.there)) (by repeat (first | exact SetLs.nil | (apply SetLs.cons; · repeat (first | exact SetL.here | apply SetL.there)))) ?_
              refine ow_nil ?_
              refine cw_region ?_
              refine ow_y (y_move rfl) rfl rfl rfl ?_
              refine ow_y (y_loadAgg rfl at_33 sz_33 (by first | (apply In.own; (repeat (first | exact List.Mem.head _ | apply List.Mem.tail)); done) | (apply In.ro; (repeat (first | exact List.Mem.head _ | apply List.Mem.tail)); done)) (by repeat (first | exact Sub.nil | apply Sub.take | apply Sub.skip))) rfl rfl rfl ?_
              refine ow_y (y_loadAgg rfl at_62 sz_62 (by first | (apply In.own; (repeat (first | exact List.Mem.head _ | apply List.Mem.tail)); done) | (apply In.ro; (repeat (first | exact List.Mem.head _ | apply List.Mem.tail)); done)) (by repeat (first | exact Sub.nil | apply Sub.take | apply Sub.skip))) rfl rfl rfl ?_
              refine ow_y (y_build (zs := [.int .i64 0, .int .i64 0, .int .i64 0, .int .i64 0, .int .i64 0, .int .i64 0, .int .i64 0, .string ⟨#[]⟩, .bool false, .int .u32 0]) (fun i => [(0, 1), (1, 5), (6, 2), (8, 1), (9, 1)][i]?) (by repeat (first | exact EvPs.nil | apply EvPs.cons rfl)) (by repeat (first | exact FillL.nil | (apply FillL.cons rfl rfl rfl; · repeat (first | exact SetLs.nil | (apply SetLs.cons; · repeat (first | exact SetL.here | apply SetL.there)))))) (fun _ => by kernel_rfl)) rfl rfl rfl ?_
              refine ow_box rfl rfl rfl rfl (fun b131 => ?_)
              refine ow_y (y_assign rfl) rfl rfl rfl ?_
              refine ow_nil ?_
              repeat with_reducible first | refine thenQ_ret ?_ | refine thenQ_normal ?_ | refine thenQ_exit ?_ | refine blockQ_ret ?_ | refine blockQ_normal ?_ | refine blockQ_exit_same ?_ | refine blockQ_exit_ne rfl ?_
              refine ⟨((operands ⟨tl, syn1, rng1⟩ (opOf w3)).r, sl4, some (⟨n, (operands ⟨tl, syn1, rng1⟩ (opOf w3)).i, (operands ⟨tl, syn1, rng1⟩ (opOf w3)).v, false, 0⟩, b131)), _, ?_, (by repeat (first | exact EnvLe.nil _ | refine EnvLe.cons rfl ?_)), (by repeat (first | exact Split.nil | (apply Split.cons; · repeat (first | exact Pick.here | apply Pick.there)) | exact Split.whole _ | exact Split.front _ _ rfl | exact Split.back _ _ rfl | exact Split.app_nil _ | apply Split.skip))⟩
              refine ⟨?_, hsl4⟩
              simp only [LineIt]
              exact item_op (t := t) hw3 h90 h120
            · simp only [cmpP] at h120
              refine ow_y (y_assign rfl) rfl rfl rfl ?_
              refine ow_nil ?_
              refine cw_if_f rfl ?_
              refine cw_region ?_
              refine ow_y (y_move rfl) rfl rfl rfl ?_
              refine ow_y (y_nilCheck rfl) rfl rfl rfl ?_
              refine ow_y (y_fieldAddr 1 rfl ft_84_1 rfl) rfl rfl rfl ?_
              refine ow_store rfl rfl rfl sz_4 rfl (by repeat (first | exact Upd.here | apply Upd.there)) (by repeat (first | exact SetL.here | apply SetL.there)) ?_
              refine ow_nil ?_
              repeat with_reducible first | refine thenQ_ret ?_ | refine thenQ_normal ?_ | refine thenQ_exit ?_ | refine blockQ_ret ?_ | refine blockQ_normal ?_ | refine blockQ_exit_same ?_ | refine blockQ_exit_ne rfl ?_
              refine ⟨(⟨tl, true, rng1⟩, sl2, none), _, ?_, (by repeat (first | exact EnvLe.nil _ | refine EnvLe.cons rfl ?_)), (by repeat (first | exact Split.nil | (apply Split.cons; · repeat (first | exact Pick.here | apply Pick.there)) | exact Split.whole _ | exact Split.front _ _ rfl | exact Split.back _ _ rfl | exact Split.app_nil _ | apply Split.skip))⟩
              refine ⟨?_, hsl2⟩
              simp only [LineIt]
              exact item_none (t := t) hw3 h90 h120
        · rintro ⟨⟨ts4, syn4, rng4⟩, sl4, it4⟩ ⟨hit4, hsl4⟩
          simp only at hit4 hsl4
          refine cw_regseq ?_
          refine ow_y (y_move rfl) rfl rfl rfl ?_
          refine ow_y (y_move rfl) rfl rfl rfl ?_
          refine ow_y (y_nilCheck rfl) rfl rfl rfl ?_
          refine ow_y (y_fieldAddr 1 rfl ft_84_1 rfl) rfl rfl rfl ?_
          refine ow_y (y_load rfl pt_4 (by first | (apply In.own; (repeat (first | exact List.Mem.head _ | apply List.Mem.tail)); done) | (apply In.ro; (repeat (first | exact List.Mem.head _ | apply List.Mem.tail)); done)) rfl) rfl rfl rfl ?_
          refine ow_y (y_move rfl) rfl rfl rfl ?_
          refine ow_split (t := 137) rfl (fun hq4 => ?_) (fun hq4 => ?_)
          · refine ow_skip rfl rfl rfl ?_
            refine ow_skip rfl rfl rfl ?_
            refine ow_skip rfl rfl rfl ?_
            refine ow_skip rfl rfl rfl ?_
            refine ow_skip rfl rfl rfl ?_
            refine ow_skip rfl rfl rfl ?_
            refine ow_y (y_pick_t rfl rfl) rfl rfl rfl ?_
            refine ow_y (y_nilCheck rfl) rfl rfl rfl ?_
            refine ow_y (y_fieldAddr 1 rfl ft_84_1 rfl) rfl rfl rfl ?_
            refine ow_store rfl rfl rfl sz_4 rfl (by repeat (first | exact Upd.here | apply Upd.there)) (by repeat (first | exact SetL.here | apply SetL.there)) ?_
            refine ow_nil ?_
            refine cw_regseq ?_
            refine ow_y (y_move rfl) rfl rfl rfl ?_
            refine ow_y (y_move rfl) rfl rfl rfl ?_
            refine ow_y (y_assign rfl) rfl rfl rfl ?_
            refine ow_y (y_assign rfl) rfl rfl rfl ?_
            refine ow_nil ?_
            refine cw_ret ?_
            repeat with_reducible first | refine thenQ_ret ?_ | refine thenQ_normal ?_ | refine thenQ_exit ?_ | refine blockQ_ret ?_ | refine blockQ_normal ?_ | refine blockQ_exit_same ?_ | refine blockQ_exit_ne rfl ?_
            refine body_ret (.two (.tmp rfl) (.tmp rfl)) ?_
            have hb4 : true = (syn4 || !ts4.isEmpty) := by
              have hq : syn4 = true := by assumption
              rw [hq]; rfl
            exact ⟨_, [], Split.whole _, post_some hlab (by simp) hit4 hsl4 hb4⟩
          · refine ow_y (y_move rfl) rfl rfl rfl ?_
            refine ow_y (y_nilCheck rfl) rfl rfl rfl ?_
            refine ow_y (y_fieldAddr 0 rfl ft_84_0 rfl) rfl rfl rfl ?_
            obtain ⟨ad4, c4, hsl5, hsr4⟩ := id hsl4
            subst hsl5
            refine ow_y (y_load rfl pt_79 (by first | (apply In.own; (repeat (first | exact List.Mem.head _ | apply List.Mem.tail)); done) | (apply In.ro; (repeat (first | exact List.Mem.head _ | apply List.Mem.tail)); done)) rfl) rfl rfl rfl ?_
            refine ow_y (y_lenSl rfl el_79) rfl rfl rfl ?_
            refine ow_cmp rfl rfl rfl rfl rfl (fun h143 => ?_) (fun h143 => ?_)
            · simp only [cmpP] at h143
              refine ow_y (y_pick_f rfl rfl) rfl rfl rfl ?_
              refine ow_y (y_nilCheck rfl) rfl rfl rfl ?_
              refine ow_y (y_fieldAddr 1 rfl ft_84_1 rfl) rfl rfl rfl ?_
              refine ow_store rfl rfl rfl sz_4 rfl (by repeat (first | exact Upd.here | apply Upd.there)) (by repeat (first | exact SetL.here | apply SetL.there)) ?_
              refine ow_nil ?_
              refine cw_regseq ?_
              refine ow_y (y_move rfl) rfl rfl rfl ?_
              refine ow_y (y_move rfl) rfl rfl rfl ?_
              refine ow_y (y_assign rfl) rfl rfl rfl ?_
              refine ow_y (y_assign rfl) rfl rfl rfl ?_
              refine ow_nil ?_
              refine cw_ret ?_
              repeat with_reducible first | refine thenQ_ret ?_ | refine thenQ_normal ?_ | refine thenQ_exit ?_ | refine blockQ_ret ?_ | refine blockQ_normal ?_ | refine blockQ_exit_same ?_ | refine blockQ_exit_ne rfl ?_
              refine body_ret (.two (.tmp rfl) (.tmp rfl)) ?_
              have hb4 : true = (syn4 || !ts4.isEmpty) := by
                have hq : syn4 = false := by assumption
                rw [hq]; cases ts4 with
                | nil => simp at h143 ⊢
                | cons _ _ => simp at h143 ⊢
              exact ⟨_, [], Split.whole _, post_some hlab (by simp) hit4 hsl4 hb4⟩
            · simp only [cmpP] at h143
              refine ow_y (y_pick_f rfl rfl) rfl rfl rfl ?_
              refine ow_y (y_nilCheck rfl) rfl rfl rfl ?_
              refine ow_y (y_fieldAddr 1 rfl ft_84_1 rfl) rfl rfl rfl ?_
              refine ow_store rfl rfl rfl sz_4 rfl (by repeat (first | exact Upd.here | apply Upd.there)) (by repeat (first | exact SetL.here | apply SetL.there)) ?_
              refine ow_nil ?_
              refine cw_regseq ?_
              refine ow_y (y_move rfl) rfl rfl rfl ?_
              refine ow_y (y_move rfl) rfl rfl rfl ?_
              refine ow_y (y_assign rfl) rfl rfl rfl ?_
              refine ow_y (y_assign rfl) rfl rfl rfl ?_
              refine ow_nil ?_
              refine cw_ret ?_
              repeat with_reducible first | refine thenQ_ret ?_ | refine thenQ_normal ?_ | refine thenQ_exit ?_ | refine blockQ_ret ?_ | refine blockQ_normal ?_ | refine blockQ_exit_same ?_ | refine blockQ_exit_ne rfl ?_
              refine body_ret (.two (.tmp rfl) (.tmp rfl)) ?_
              have hb4 : false = (syn4 || !ts4.isEmpty) := by
                have hq : syn4 = false := by assumption
                rw [hq]; cases ts4 with
                | nil => simp at h143 ⊢
                | cons _ _ => simp at h143 ⊢
              exact ⟨_, [], Split.whole _, post_some hlab (by simp) hit4 hsl4 hb4⟩

theorem line_c (R : Heap) (rb : Nat) (sl : Value) (r : Rd) (n : Int) (hR : Glob R) (hs : TokS R sl r.ts) (hf : Fit r.ts) : FnW Tryz.prog 36 [.pointer (some ⟨rb, 0, none⟩), .int .i64 n] R [rdC rb sl r] (LinePost R rb r n) :=
  (line_w R rb sl r n hR hs hf).drop fun _v _L' ⟨L'', F, h1, h2⟩ => ⟨L'', F, h1, h2⟩

end Go.Proofs.YtgppllppddaodaaGreatDoor
